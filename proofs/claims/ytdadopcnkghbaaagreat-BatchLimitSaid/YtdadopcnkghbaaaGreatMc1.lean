/-
  Each function meets its functional program. Conditions: none.
-/
import Derived.Test.YtdadopcnkghbaaaGreatMd
import Derived.Test.YtdadopcnkghbaaaGreatMc0
set_option linter.defProp false
set_option linter.unusedVariables false
set_option linter.unusedSimpArgs false
set_option maxRecDepth 100000
set_option maxHeartbeats 2000000
namespace Go.Proofs.YtdadopcnkghbaaaGreat
open Go Gv Go.Proofs.Tryz
attribute [local irreducible] ae ax aq ba aL dX fb fp J.of J.ptr J.eq J.cond J.bR
instance:h9 prog 228 _ _ FH J.of J.of:=.i func228 I ntmps228 I λab r h W A=>by
 unfold FH at h;refine cf (bn (cP (look_nil (α:=aX))) ?_);refine aP ?_;refine bn (Uh underlying40 (ai I)) (b0 ?_);refine ax.Ui (ai I) (λal=>?_) ?_
 ·subst al;replace h:=RT h;subst h;have h:some ([]:aa aX)=some []:=rfl;refine cf (bn (cP (look_nil (α:=aX))) (b0 (ax.ret (aq.ret ?_))));replace h:=dh h;exact pR
 refine kY (cf (ae.rh (α:=aX) (r:=([]:aa aX)) underlying40 hI xH I I (.nil) I λeU=>dr ?_));refine aB h λan bs h=>iv 0 underlying40 hI xH bs λfL c5=>?_;refine c7 (b0 (ax.ret ?_));exact aq.ku (α:=aX) 0 [2,7] ⟨rfl,rfl,trivial⟩ I go
instance:eV prog 363 _ _ _ Bw J.of J.of J.of:=.i func363 I ntmps363 I λab aj r h W A=>by
 unfold Bw at h;refine aP (λh=>?_);refine aB h λaz ao h=>hx (γ:=Unit) (δ:=Unit) ao [0,1,4,10,12] (λs1 g1=>[(13,J.of s1)]) (λs1 g1=>[]) (λau=>Sum.elim (λau=>Exit.exit 0) (λau=>Exit.ret) au) (λau g1=>Sum.elim (λau=>[(13,J.of au.1),(14,J.of au.2)]) (λau=>[(5,J.of au.1),(13,J.of au.2.1),(14,J.of au.2.2.1),(24,J.of au.2.2.2)]) au) (λau g1=>[]) () (λs1 r h g1=>?_) λg1=>?_
 ·refine aP (λh=>?_);refine aB h λaW dq h=>aB h λbP dI h=>ax.e4 9 ?_;exact go
 rcases az with az|az
 ·simp only[Sum.elim_inl]at h;exact go
 simp only[Sum.elim_inr]at h;exact go
def Z0{hp ab r}(h:Cp hp ab=some r):hA prog 126 [J.of ab] hp (J.of r) hp:=by
 unfold Cp at h;refine bJ.of func126 I ntmps126 I λW A=>?_;refine aP (λbp cO c1 cY h=>?_);refine aB h λb6 ez h=>aB h λc2 en h=>bn (acU underlying159 (jR (ai I) ez) (hX (n:=0) I (q3 en) I)) ?_;exact go
def Z1{hp ab aj aI r}(h:GB hp ab aj aI=some r):hA prog 328 [J.of ab,J.of aj,J.of aI] hp (J.of r.1) r.2:=by
 unfold GB at h;refine bJ.of func328 I ntmps328 I λW A=>?_;refine aP (λbg h=>?_);refine aB h λbp cO h=>aB h λc1 cY h=>aB h λb6 ez h=>aB h λc2 en h=>aB h λbr eG h=>gu [0,1,2,4,6,9,10] ?_;refine ax.bU 1 (aM 12 [] [] _::aM 13 [0] [] _::aM 14 [1] [] _::aM 15 [2] [] _::aM 16 [] [0] _::aM 17 [3,4] [] (J.bR [J.of (br.getD default),J.of br.isSome])::aM 11 [5] [] _::aM 18 [6] [] _::aM 19 [6] [] _::aM 7 [7] [] _::aM 8 [8] [] _::[]) (eQ ?_ jJ) (λdJ=>?_)
 ·intro hd E' L' aK ar cb;refine bn (LG (r:=br) underlying218 HW xX (jR (ai (aK _ _ I)) ez) (ai (aK _ _ I)) (hX (n:=1) (cb.trans I) (so en) I) (dh eG)) (ae.nil ?_);exact aq.fin (fe []) I I
 refine aq.ep (L2:=(bb bg aj::aY hp)) I (ix ?_);refine aP (λh=>?_);refine aB h λfX pS h=>aB h λdM jF h=>ax.e4 6 ?_;refine aB h λkm vG h=>aB h λgy qD h=>aB h λbH fy h=>ae.Df (k':=Cell.o2 (fm gy aj aI)) 1 I (by first|exact .inl I|exact .inr I) underlying218 HW (jR (ai I) vG) (ai I) (ai I) (so qD) I I I (dh fy) ?_;exact go
def aa0{hp ab Q}(h:G0 hp ab Q):kl prog 336 [J.of ab] hp Q:=by
 unfold G0 at h;refine bJ.of func336 I ntmps336 I λW A=>cf (bn (cP mL) (gB ?_));refine dr ?_;refine ea Uk ?_;refine ea Ul ?_;refine ah.bB h λbr eG h=>lC eG (kt (b:=({(default:ga)with gr:=min (max 1 ab) 128}:ga)) I afH afI (.cons Cc I (ai I) I (.nil))) ?_;refine ae.vq 0 I (Cell.jX br) (λ_=>rfl) (ai I) I λbK oq=>?_;replace h:=ah.nZ h bK oq;refine c7 (b0 (ax.ret ?_));exact aq.dV (⟨⟨((some bK.1:Ref),bK.2),h⟩,()⟩: {r // _}×_) (.refl _) I I (c9 I)
def Qv{ab aj r}(h:wz ab aj=some r):cn prog 370 [J.of ab,J.ptr aj] (J.of r):=by
 unfold wz at h;refine cn.of func370 I ntmps370 I λW A=>?_;exact go
def PH{ab aj r}(h:wm ab aj=some r):cn prog 369 [J.of ab,J.rv prog aj] (J.of r):=by
 unfold wm at h;refine cn.of func369 I ntmps369 I λW A=>?_;refine aP ?_;refine aB h λaz ao h=>hx (γ:=Unit) (δ:=Unit) ao [0,1,7] (λs1 g1=>[(4,J.of (0:Int)),(8,J.of s1)]) (λs1 g1=>[]) (λau=>Sum.elim (λau=>Exit.exit 0) (λau=>Exit.ret) au) (λau g1=>Sum.elim (λau=>[(4,J.of (0:Int)),(8,J.of au.1),(9,J.of au.2)]) (λau=>[(4,J.of au.1),(5,J.of au.2.1),(8,J.of au.2.2.1),(9,J.of au.2.2.2.1),(16,J.of au.2.2.2.2)]) au) (λau g1=>[]) () (λs1 r h g1=>?_) λg1=>?_
 ·refine aP (λaW dq h=>?_);refine aB h λan bs h=>bn (xc (ai I) (ai I) bs) ?_;exact go
 rcases az with az|az
 ·simp only[Sum.elim_inl]at h;exact go
 simp only[Sum.elim_inr]at h;exact go
def XW{ab aj aI r}(h:Bi ab aj aI=some r):cn prog 366 [J.of ab,J.of aj,J.xS prog aI] (J.bR [J.of r.1,J.of r.2]):=by
 unfold Bi at h;refine cn.of func366 I ntmps366 I λW A=>?_;refine aP λbg=>?_;refine aB h λaz ao h=>hx (γ:=Unit) (δ:=Unit) ao [0,1,2,4,6,7,8] (λs1 g1=>[(9,J.of s1.1),(10,J.of s1.2)]) (λs1 g1=>[]) (λau=>Exit.exit 0) (λau g1=>[(9,J.of au.1),(10,J.of au.2.1),(17,J.of au.2.2)]) (λau g1=>[]) () (λs1 r h g1=>?_) λg1=>?_
 ·refine aP (λh=>?_);refine aB h λaW dq h=>aB h λan bs h=>ax.lB mixed 8 (rg 24 8) [[],[],[],[1,2],[3],[],[0,4,5],[6]] [_,_,_,_,_,_,_,_] ⟨hg,hg,hg,Wy dq underlying61 fD,H1 (kQ fD),sN 0 fD,fW λar=>G7 (ai I) (ai I) (ai I) bs,mx qk,trivial⟩ (b0 ?_);refine aB h λm1 b7 h=>iu (γ:=Unit) [0,1,2,4,6,7,8,11,17,31] (λg2=>[(9,J.of m1.1),(10,J.of m1.2)]) (λg2=>[]) (λg2=>?_) (λhm ak=>?_) λhm ak=>?_
  ·exact go
  ·have h:=gd ak b7;exact go
  have h:=gf ak b7;exact go
 refine aq.q6 (aq.next (ax.seq (aB h λbP dI h=>aB h λaH b5 h=>gu [0,1,2,4,8,9,10,17] ?_)));refine ax.bU 1 (aM 35 [] [] _::aM 36 [] [] _::aM 37 [] [] _::aM 38 [1,2] [] _::aM 39 [3] [] _::aM 40 [4] [] _::aM 41 [4] [] _::aM 42 [4] [] _::aM 43 [4,6,7] [] _::aM 44 [4,8] [] _::aM 45 [4] [0] _::aM 46 [4,5,9,10] [] (J.cond ((decide (az.1<(ab.length:Int)))=true) (J.of aH))::aM 47 [4,11] [] _::aM 48 [4,12] [] _::aM 6 [0] [] _::aM 7 [13] [] _::[]) (eQ ?_ jJ) (λdJ=>?_)
 ·exact fS.q (aik I I I I (λhd=>rfl) λhd E' L' aK ar hb=>G7 (cM (aK _ _ I) hb) (cM (aK _ _ I) hb) (cM (aK _ _ I) hb) (gW b5 hb))
 refine aq.ep (L2:=[bb bg aj]) I (ix ?_);exact go
instance:h9 prog 179 _ _ Cw J.of J.of:=.i func179 I ntmps179 I λab r h W A=>by
 unfold Cw at h;exact go
def ZF{ab r}(h:KH ab=some r):cn prog 376 [J.of ab] (J.of r):=by
 unfold KH at h;refine cn.of func376 I ntmps376 I λW A=>?_;exact go
instance VG:h9 prog 182 _ _ tm J.of J.of:=.i func182 I ntmps182 I λab r h W A=>by
 unfold tm at h;refine aP ?_;refine aB h λaz ao h=>hx (γ:=Unit) (δ:=Unit) ao [0,5,6] (λs1 g1=>[(2,J.of (0:Int)),(7,J.of s1)]) (λs1 g1=>[]) (λau=>Sum.elim (λau=>Exit.exit 0) (λau=>Exit.ret) au) (λau g1=>Sum.elim (λau=>[(2,J.of (0:Int)),(7,J.of au.1),(8,J.of au.2)]) (λau=>[(2,J.of au.1),(4,J.of au.2.1),(7,J.of au.2.2.1),(8,J.of au.2.2.2.1),(12,J.of au.2.2.2.2)]) au) (λau g1=>[]) () (λs1 r h g1=>?_) λg1=>?_
 ·exact go
 rcases az with az|az
 ·simp only[Sum.elim_inl]at h;exact go
 simp only[Sum.elim_inr]at h;exact go
instance:eV prog 334 _ _ _ wA J.of J.of (λr=>J.bR [J.of r.1,J.of r.2.1,J.of r.2.2]):=.i func334 I ntmps334 I λab aj r h W A=>by
 unfold wA at h;refine aP λbg bE cx eN=>?_;refine aB h λan bs h=>aB h λaH b5 h=>ax.qs 2 (gu [0,1,2,3,4,5,6] ?_);refine ax.A7 6 (aM 10 [] [3] _::aM 11 [] [2] _::aM 12 [1] [] _::aM 13 [0,2] [] _::aM 9 [3] [] _::aM 14 [4] [] _::aM 15 [4] [] _::rA 7 [] 4 7 _::rA 8 [] 5 8 _::j5 [5,7] [4] [4] (λhd=>bb ((hd 7 0).getD 0) aH.1)::j5 [6,8] [5] [5] (λhd=>bb ((hd 8 0).getD 0) aH.2)::[]) (λdJ=>?_);refine aq.ep (L2:=[bb eN (default:aX),bb cx (default:Vector aX 4),bb bE aj,bb bg ab,bb ((dJ 7 0).getD 0) aH.1,bb ((dJ 8 0).getD 0) aH.2]) I (ix ?_);refine aq.bV 4 I (aq.bV 5 I (go2 (λh=>?_) (λh=>?_)))
 ·refine gu [0,1,2,3,4,5,7,8,9,10,11,12,13,14,15,16,17,18,19,20,21] ?_;refine ax.A7 6 (aM 22 [] [1] _::aM 23 [] [0] _::j5 [0] [3] [3] (λhd=>bb cx aH.1)::j5 [1] [2] [2] (λhd=>bb eN aH.2)::aM 6 [] [] _::[]) (λiY=>?_);refine aq.ep (L2:=[bb ((dJ 8 0).getD 0) aH.2,bb ((dJ 7 0).getD 0) aH.1,bb eN aH.2,bb cx aH.1,bb bE aj,bb bg ab]) I (ix (aq.next (ax.ret (aq.ret ?_))));cases h;exact aq.VH I (IK 3 HY) (IK 2 hI) (Ir I)
 refine aB h λaW dq h=>gu [0,1,2,3,4,5,7,8,9,10,11,12,13,14,15,16,17,18,19,20,21] ?_;refine ax.A7 6 (aM 24 [] [1] _::aM 25 [] [0] _::aM 26 [] [] _::aM 27 [2] [4] _::aM 28 [] [] _::aM 29 [4] [5] _::aM 30 [3,5] [] _::aM 31 [6] [] _::aM 32 [7] [] _::j5 [0] [3] [3] (λhd=>bb cx aH.1)::j5 [1] [2] [2] (λhd=>bb eN aH.2)::aM 6 [8] [] _::[]) (λAH=>?_);refine aq.ep (L2:=[bb ((dJ 8 0).getD 0) aH.2,bb ((dJ 7 0).getD 0) aH.1,bb eN aH.2,bb cx aH.1,bb bE aj,bb bg ab]) I (ix (aq.next (ax.ret ?_)));cases h;exact aq.VH I (IK 3 HY) (IK 2 hI) (Ir I)
instance Is:eV prog 347 _ _ _ w3 J.of J.of J.of:=.i func347 I ntmps347 I λab aj r h W A=>by
 unfold w3 at h;refine aP λbg an bs h=>?_;refine kH (λhb=>acV se ad3 xM I (cM I hb) I I) ?_;exact go
instance:h9 prog 180 _ _ GV J.of J.of:=.i func180 I ntmps180 I λab r h W A=>by
 unfold GV at h;refine aP λbg bE=>?_;refine aB h λan bs h=>aB h λaH b5 h=>ax.e4 7 ?_;refine Wz 1 wF Ao ?_;refine db (cq HA.fd) ?_;refine aB h λbr eG h=>WA 1 Cd Dw (hb:=by exact eG) ?_;exact go
instance:eV prog 359 _ _ _ Cx J.of J.of J.of:=.i func359 I ntmps359 I λab aj r h W A=>by
 unfold Cx at h;exact go
def ZG{hp ab aj r}(h:Ck hp ab aj=some r):hA prog 324 [J.of ab,J.of aj] hp (J.bR []) r:=by
 unfold Ck at h;refine bJ.of func324 I ntmps324 I λW A=>?_;refine aP λbg bE=>?_;refine aB h λan bs h=>ax.e4 7 ?_;refine aB h λaH b5 h=>ae.dz 2 0 I afJ (Z1 b5) I I ⟨ai I,ai I,ai I,trivial⟩ I λau=>ae.dd (ae.nil ?_);exact aq.kc go
def YM{ab aj r}(h:Kj ab aj=some r):cn prog 364 [J.ptr ab,J.of aj] (J.of r):=by
 unfold Kj at h;refine cn.of func364 I ntmps364 I λW A=>?_;refine aP λbg=>?_;refine bn (acW underlying171 (ai I)) (b0 ?_);refine ax.tH (ai I) I (aP ?_);refine ae.share (α:=Int) 0 3 I I (bn (xm (F:=(λa0=>wz a0 aj)) (τs:=[J.ptr aj]) Um ⟨ai I,trivial⟩ (λ_ _ h=>Qv h)) ?_);refine aB h λan bs h=>nE Un (PH bs) ?_;exact go
instance Ap:eV prog 136 _ _ _ oR J.of J.of J.of:=.i func136 I ntmps136 I λab aj r h W A=>by
 unfold oR at h;exact go
def QT{hp ab aj r}(h:zd hp ab aj=some r):hA prog 80 [J.of ab,J.of aj] hp (J.of r.1) r.2:=by
 unfold zd at h;refine bJ.of func80 I ntmps80 I λW A=>cf (c7 (gB ?_));refine dr ?_;refine dr ?_;refine aB h λan bs h=>ae.gE (eL.ht 0 I Ua (QK bs) ⟨ai I,ai I,trivial⟩) I I I (c7 (h6 (ax.seq ?_)));refine aB h λbp cO h=>aB h λaW dq h=>aB h λc1 cY h=>aB h λb6 ez h=>aB h λc2 en h=>aB h λbP dI h=>aB h λbr eG h=>ax.lB mixed 19 (rg 9 19) [[],[0],[1],[2],[2],[2,3],[2,5],[2,4,6],[2,7],[2],[2,9],[2,10],[2,11],[2],[2,12,13],[2,14],[2,15],[2,8,16],[2,17]] [_,_,_,_,_,_,_,_,_,_,_,_,_,_,_,_,_,_,_] ⟨hg,mx qk,hg,eR λL' ar=>λhb=>cT (ai I),eR λL' ar=>λhb=>cT (ai I),eR λL' ar=>λhb=>kS (ij (cM I hb) (gW cO hb)),eR λL' ar=>λhb=>cq zQ.fd (cM I hb),eR λL' ar=>λhb=>rf (k:=aW) Ac (cM I hb) (cM I hb) (dt (gW dq hb)),eR λL' ar=>λhb=>nt (((aO.id hS).comp wv).comp (aO.idx (α:=Int) 6 aW (dt (gW dq hb)).1)) (r:=b9 c1.gK aW) cr (cM I hb) (nB (λi e q=>ar i e q I) (hX (n:=0) I (sm (gW cY hb)) I)) I I,eR λL' ar=>λhb=>cT (ai I),eR λL' ar=>λhb=>kS (ij (cM I hb) (gW ez hb)),eR λL' ar=>λhb=>cq acX.fd (cM I hb),eR λL' ar=>λhb=>nt ((aO.id hS).comp J2) (r:=c2.n0) Il (cM I hb) (nB (λi e q=>ar i e q I) (hX (n:=0) I (sm (gW en hb)) I)) I I,eR λL' ar=>λhb=>cT (ai I),eR λL' ar=>λhb=>o0 (k:=bP) underlying29 vk (cM I hb) (cM I hb) (dt (gW dI hb)),eR λL' ar=>λhb=>Af Ca acY.fd (cM I hb) I I,eR λL' ar=>λhb=>kQ cr (cM I hb),eR λL' ar=>λhb=>MU (cM I hb) (cM I hb),Xx eG λL' ar=>Dx (ai I) (ai I) (λh=>h),trivial⟩ (b0 ?_);refine mU h (λh=>?_) λh=>?_
 ·refine cf (c7 (b0 (ax.ret (aq.ret ?_))));cases h;exact aq.dV () (.refl _) I I (c9 I)
 refine kY (ax.seq (aB h λfX pS h=>aB h λdc jt h=>aB h λdM jF h=>aB h λeW kZ h=>ax.lB mixed 10 (rg 28 10) [[],[],[0],[2],[1,3],[4],[5],[0],[7],[1,8]] [_,_,_,_,_,_,_,_,_,_] ⟨hg,hg,fW λar=>kS (ij (ai I) pS),H1 (cq zQ.fd),fW λar=>rf (k:=dc) Ac (ai I) (ai I) (dt jt),fW λar=>nt (((aO.id hS).comp wv).comp (aO.idx (α:=Int) 6 dc (dt jt).1)) (r:=b9 dM.gK dc) cr (ai I) (nB (λi e q=>ar i e q I) (hX (n:=0) I (sm jF) I)) I I,mx ky,fW λar=>kS (ij (ai I) pS),H1 (cq zQ.fd),fW λar=>rf (k:=eW) Ac (ai I) (ai I) (dt kZ),trivial⟩ ?_));refine aB h λbH fy h=>ae.n2 (k':=Cell.qq ({dM with gK:=iq dM.gK eW (bz ((b9 dM.gK dc)+1))}:hS)) 0 I (((aO.id hS).comp wv).comp (aO.idx (α:=Int) 6 eW (dt kZ).1)) (v:=(bz ((b9 dM.gK dc)+1):Int)) cr (ai I) (ai I) (sm jF) I I I I (dh fy) (gB (c7 (b0 (ax.ret ?_))));cases h;exact aq.dV () (.refl _) I I (c9 I)
instance:eV prog 118 _ _ _ zB J.of J.of J.of:=.i func118 I ntmps118 I λab aj r h W A=>by
 unfold zB at h;exact go
instance:eV prog 154 _ _ _ zp J.of J.of J.of:=.i func154 I ntmps154 I λab aj r h W A=>by
 unfold zp at h;exact go
instance VI:h9 prog 115 _ _ K1 J.of J.of:=.i func115 I ntmps115 I λab r h W A=>by
 unfold K1 at h;refine aP λbg=>?_;refine aB h λan bs h=>bn (jT afK (X4 bs) ⟨ai I,Sm afL (λ_ _=>ZB),trivial⟩) ?_;exact go
def ZH{ab aj r}(h:Gp ab aj=some r):cn prog 70 [J.ptr ab,J.ptr aj] (J.of r):=by
 unfold Gp at h;refine cn.of func70 I ntmps70 I λW A=>?_;refine aP ?_;refine aB h λan bs h=>aB h λaW dq h=>aB h λaH b5 h=>ax.e4 12 ?_;exact go
instance:pj prog 73 _ _ _ _ La J.of J.of J.of J.of:=.i func73 I ntmps73 I λab aj aI r h W A=>by
 unfold La at h;exact go
instance:eV prog 171 _ _ _ K4 J.of J.of J.of:=.i func171 I ntmps171 I λab aj r h W A=>by
 unfold K4 at h;exact go
instance:pj prog 170 _ _ _ _ Lb J.of J.of J.of J.of:=.i func170 I ntmps170 I λab aj aI r h W A=>by
 unfold Lb at h;refine aP λbg bE=>?_;refine aB h λbr eG h=>lC eG (HX underlying9 (ai I) (fJ (ByteArray.mk #[112,114,101,102,105,120,95,108,101,110,103,116,104]))) ?_;refine aP (λh=>?_);refine bn (HX underlying9 (ai I) (fJ (ByteArray.mk #[109,97,115,107]))) ?_;refine aP (λh=>?_);refine bn (HX underlying9 (ai I) (fJ (ByteArray.mk #[104,105,103,104]))) ?_;exact go
def Y0{aj:Int}{aI:aX}{cy:Ref}:C3 prog 346 [J.ptr aj,J.ptr aI,J.ptr cy] (λv:Int=>J.of v) (λ{σ ε} hq step s0=>wJ (σ:=σ) (ε:=ε) aj aI cy hq step s0):=by
 refine C3.of func346 I ntmps346 I ?_;intro σ ε γ Ls Lx hq kn ov step s0 g0 R h W A u s6;replace h:wJ aj aI cy hq step s0 R:=h;unfold wJ at h;refine aP ?_;refine ax.TA (σ:=Int×(σ)) (ε:=(Int×Bool×(σ))⊕(Int×Int×Int×Bool×Bool×Bool×(ε))) (γ:=γ) (δ:=γ) h (λs1 g1=>[(0,J.eq u),(1,J.ptr aj),(2,J.ptr aI),(3,J.ptr cy),(7,J.of aj),(8,J.of s1.1)]) (λs1 g1=>(Ls s1.2 g1)) (λau=>Sum.elim (λau=>Exit.exit 0) (λau=>Exit.ret) au) (λau g1=>Sum.elim (λau=>[(0,J.eq u),(1,J.ptr aj),(2,J.ptr aI),(3,J.ptr cy),(7,J.of aj),(8,J.of au.1),(9,J.of au.2.1)]) (λau=>[(0,J.eq u),(1,J.ptr aj),(2,J.ptr aI),(3,J.ptr cy),(5,J.of au.1),(6,J.of au.2.1),(7,J.of aj),(8,J.of au.2.2.1),(9,J.of au.2.2.2.1),(19,J.of au.2.2.2.2.1),(23,J.of au.2.2.2.2.2.1)]) au) (λau g1=>Sum.elim (λau=>(Ls au.2.2 g1)) (λau=>(Lx au.2.2.2.2.2.2 g1)) au) g0 I .all (λs1 R h g1=>?_) (λaz h g1=>?_)
 ·refine go2 (λh=>?_) (λh=>?_)
  ·refine ah.bB h λbp cO h=>ah.bB h λc1 cY h=>ah.bB h λan bs h=>ax.lB mixed 9 (rg 11 9) [[],[],[1],[2],[3],[4],[],[5,6],[0,7]] [_,_,_,_,_,_,_,_,_] ⟨H1 (kQ hI),H1 (kQ Uo),fW λar=>kS (ij (ai I) cO),H1 (cq LZ.fd),fW λar=>nt ((aO.id ga).comp Cc) (r:=c1.gr) cr (ai I) (nB (λi e q=>ar i e q I) (Up (Ls:=Ls) (s:=s1.2) (g:=g1) 0 I ov (va cY) I)) I I,mx q4,hg,mx q4,rB Is.bU (Is.m _ _ _ bs),trivial⟩ (b0 ?_);refine ah.bB h λm1 b7 h=>ax.cj (γ:=Unit) (λg2=>[(0,J.eq u),(1,J.ptr aj),(2,J.ptr aI),(3,J.ptr cy),(5,J.of s1.1),(6,J.of m1),(7,J.of aj),(8,J.of s1.1),(9,J.of (decide (s1.1<aj))),(19,J.of an)]) (λg2=>(Ls s1.2 g1)) (ai I) (λg2=>?_) (λhm ak=>?_) (λhm ak=>?_)
   ·refine aP ?_;refine ae.ad4 (Lin:=[]) (Ls:=Ls) (Lx:=Lx) (step:=step) (s:=s1.2) (gg:=g1) I s6 I (ai I) h I (λs2 h g3=>?_) (λcD h g3=>?_)
    ·simp only[Sum.elim_inl]at h;refine ae.ep (L2:=(Ls s2 g3)) I (db pH (b0 ?_));refine ax.tH (ai I) (by first|rfl|(rw[hb];rfl)) ?_;refine aP ?_;exact aq.xo h g3 0 I .all
    simp only[Sum.elim_inr]at h;refine ae.ep (L2:=(Lx cD g3)) I (db pH (b0 ?_));refine ax.Dc (ai I) (by first|rfl|(rw[hb];rfl)) ?_;exact ax.ret (aq.sI (aq.ret (aq.tE h g3 0 I (by simp) I .all)))
   ·have h:=gd ak b7;exact go
   have h:=gf ak b7;exact go
  exact aq.tE h g1 0 I (by simp) I .all
 rcases az with az|az
 ·simp only[Sum.elim_inl]at h;exact aq.q6 (aq.kc (aq.lk (⟨⟨(.inl az.2.2:σ⊕ε),h⟩,g1⟩: {r // _}×_) (.refl _) I I))
 simp only[Sum.elim_inr]at h;exact aq.sI (aq.lk (⟨⟨(.inr az.2.2.2.2.2.2:σ⊕ε),h⟩,g1⟩: {r // _}×_) (.refl _) I I)
def QH{hp:aE Cell}{aj:Int}{aI:aX}{cy:Ref}:C4 prog 346 [J.ptr aj,J.ptr aI,J.ptr cy] hp (λv:Int=>J.of v) (λ{σ ε} =>te (σ:=σ) (ε:=ε) hp aj aI cy):=by
 refine C4.of func346 I ntmps346 I ?_;intro σ ε γ Ls Lx kn ov step s0 g0 r h W A u s6;replace h:te hp aj aI cy step s0=some r:=h;unfold te at h;refine aP ?_;refine aB h λaz ao h=>ax.HZ (σ:=Int×(σ)) (ε:=(Int×Bool×(σ))⊕(Int×Int×Int×Bool×Bool×Bool×(ε))) (γ:=γ) (δ:=γ) ao (λs1 g1=>[(0,J.eq u),(1,J.ptr aj),(2,J.ptr aI),(3,J.ptr cy),(7,J.of aj),(8,J.of s1.1)]) (λs1 g1=>(Ls s1.2 g1)) (λau=>Sum.elim (λau=>Exit.exit 0) (λau=>Exit.ret) au) (λau g1=>Sum.elim (λau=>[(0,J.eq u),(1,J.ptr aj),(2,J.ptr aI),(3,J.ptr cy),(7,J.of aj),(8,J.of au.1),(9,J.of au.2.1)]) (λau=>[(0,J.eq u),(1,J.ptr aj),(2,J.ptr aI),(3,J.ptr cy),(5,J.of au.1),(6,J.of au.2.1),(7,J.of aj),(8,J.of au.2.2.1),(9,J.of au.2.2.2.1),(19,J.of au.2.2.2.2.1),(23,J.of au.2.2.2.2.2.1)]) au) (λau g1=>Sum.elim (λau=>(Ls au.2.2 g1)) (λau=>(Lx au.2.2.2.2.2.2 g1)) au) g0 I .all (λs1 r h g1=>?_) (λg1=>?_)
 ·refine go2 (λh=>?_) (λh=>?_)
  ·refine aB h λbp cO h=>aB h λc1 cY h=>aB h λan bs h=>ax.lB mixed 9 (rg 11 9) [[],[],[1],[2],[3],[4],[],[5,6],[0,7]] [_,_,_,_,_,_,_,_,_] ⟨H1 (kQ hI),H1 (kQ Uo),fW λar=>kS (ij (ai I) cO),H1 (cq LZ.fd),fW λar=>nt ((aO.id ga).comp Cc) (r:=c1.gr) cr (ai I) (nB (λi e q=>ar i e q I) (afM (Ls:=Ls) (s:=s1.2) (g:=g1) 0 I ov (va cY) I)) I I,mx q4,hg,mx q4,rB Is.bU (Is.m _ _ _ bs),trivial⟩ (b0 ?_);refine aB h λm1 b7 h=>ax.cj (γ:=Unit) (λg2=>[(0,J.eq u),(1,J.ptr aj),(2,J.ptr aI),(3,J.ptr cy),(5,J.of s1.1),(6,J.of m1),(7,J.of aj),(8,J.of s1.1),(9,J.of (decide (s1.1<aj))),(19,J.of an)]) (λg2=>(Ls s1.2 g1)) (ai I) (λg2=>?_) (λhm ak=>?_) (λhm ak=>?_)
   ·refine aP ?_;refine aB h λaH b5 h=>ae.yield (Lin:=[]) (Ls:=Ls) (Lx:=Lx) (step:=step) (s:=s1.2) (gg:=g1) I s6 I (ai I) b5 I (λs2 aC g3=>?_) (λcD aC g3=>?_)
    ·subst aC;simp only[Sum.elim_inl]at h;refine ae.ep (L2:=(Ls s2 g3)) I (db pH (b0 ?_));refine ax.tH (ai I) (by first|rfl|(rw[hb];rfl)) ?_;refine aP ?_;cases h;exact lq g3 0
    subst aC;simp only[Sum.elim_inr]at h;refine ae.ep (L2:=(Lx cD g3)) I (db pH (b0 ?_));refine ax.Dc (ai I) (by first|rfl|(rw[hb];rfl)) ?_;refine ax.ret (aq.sI (aq.ret ?_));cases h;exact kg g3 0
   ·have h:=gd ak b7;exact go
   have h:=gf ak b7;exact go
  cases h;exact kg g1 0
 rcases az with az|az
 ·simp only[Sum.elim_inl]at h;refine aq.q6 (aq.kc ?_);cases h;exact aq.lk g1 (.refl _) I I
 simp only[Sum.elim_inr]at h;refine aq.sI ?_;cases h;exact aq.lk g1 (.refl _) I I
instance:h9 prog 138 _ _ qX J.of J.of:=.i func138 I ntmps138 I λab r h W A=>by
 unfold qX at h;exact go
def ZI{hp ab aj r}(h:Cl hp ab aj=some r):hA prog 127 [J.of ab,J.of aj] hp (J.of r) hp:=by
 unfold Cl at h;refine bJ.of func127 I ntmps127 I λW A=>?_;refine aP ?_;refine aB h λbp cO h=>aB h λc1 cY h=>aB h λan bs h=>aB h λaW dq h=>ax.e4 14 ?_;exact go
def aaG{hp ab Q}(h:CI hp ab Q):kl prog 19 [J.of ab] hp Q:=by
 unfold CI at h;refine bJ.of func19 I ntmps19 I λW A=>cf (pP λbg=>?_);refine bn (cP mL) ?_;refine aP ?_;refine ae.C1 (α:=Int) (β:=Ref) 1 I (Cell.qu ([]:aa (Int×Ref))) (λ_=>rfl) I λbK oq=>?_;replace h:=ah.nZ h bK oq;refine ah.bB h λbr eG h=>lC eG (kt (b:= {iH:=ab,qY:=(⟨some bK.1⟩:dZ),me:=1:jQ}) I afN afO (.cons Qw I (ai I) I (.cons FM I (ai I) I (.cons F0 I (c8 1) I (.nil))))) ?_;refine ae.vq 1 I (Cell.o4 br) (λ_=>rfl) (ai I) I λa2 tY=>?_;replace h:=ah.nZ h a2 tY;refine aP λc1 cY h=>?_;refine AI (σ:=Int×(aE Cell)) (ε:=(Int×Bool×(aE Cell))) (γ:=Unit) (δ:=Unit) h 1 [0,1,2,3,14,15] (λs1 g1=>[(16,J.of s1.1)]) (λs1 g1=>[]) (λs1 g1=>aY s1.2) (λau=>Exit.exit 0) (λau g1=>[(16,J.of au.1),(17,J.of au.2.1)]) (λau g1=>[]) (λau g1=>aY au.2.2) () (λs1 R h g1=>?_) (λaz h g1=>?_)
 ·refine go2 (λaW dq bE h=>?_) (λh=>?_)
  ·refine ah.bB h λgy qD h=>?_;obtain⟨mq,qv,sJ⟩:=ah.ex h;refine gu [0,1,2,3,5,14,15,16,17,18,19] ?_;refine ax.x0 mixed [9,10] [(0,20,J.of (some a2.1:Ref)),(1,21,J.cV a2.1),(2,22,J.lE a2.1 FM),(3,23,J.of gy.qY),(4,24,J.lE bE wR),(5,25,J.of ((aF c1.iH.bM aW).b2)),(6,26,J.of ab),(7,27,J.lE bE wR),(8,28,J.of ((aF c1.iH.bM aW).b2))] ?_;refine fM.md [] [0,1,2,3,4,5,6,7,8] [9] ⟨?_,trivial⟩;refine gP.of (ks:=[]) (λx:Subtype mq=>[(29,J.of x.1.1)]) (λx=>[]) (λx=>(bb bE (aF c1.iH.bM aW:bC)::bb bg ab::aY x.1.2)) (λ⟨an,hJ⟩=>?_) (λo aS ea hM aK k=>?_)
   ·have anc:=ah.akE (sJ an hJ);have h:=sJ an hJ;replace h:=ah.ail h;refine fM.md [8,7,6] [0,1,2,3,4,5] [10] ⟨gP.tail [9,8,7,6,5,4,3,2,1,0] ?_,trivial⟩;refine ae.ep (L2:=(bb bE (aF c1.iH.bM aW:bC)::bb bg ab::aY an.2)) I (ae.le (E':=[(0,J.of ab),(1,J.cV bg),(2,J.of (none:Ref)),(3,J.of (some a2.1:Ref)),(5,J.cV bE),(14,J.of c1.iH.bM),(15,J.of (c1.iH.bM.length:Int)),(16,J.of s1.1),(17,J.of (decide (s1.1<(c1.iH.bM.length:Int)))),(18,J.ptr (aF c1.iH.bM aW)),(19,J.of (aF c1.iH.bM aW)),(23,J.of gy.qY),(25,J.of ((aF c1.iH.bM aW).b2)),(29,J.of an.1)]) .all (ah.bB h λbp cO h=>ah.bB h λia sP h=>ah.bB h λbH fy h=>?_));refine ae.Df (k':=Cell.qu (fm ia ((aF c1.iH.bM aW).b2) an.1)) 2 I (by first|exact .inl I|exact .inr I) underlying127 xZ (jR (ai I) cO) (ai I) (ai I) (u9 sP) I I I (dh fy) ?_;refine aP ?_;exact aq.xo h () 1 I .all
   cases aS;refine ae.dz 2 0 I aim (aaF qv) I I ⟨ai (aK I),ai (aK I),trivial⟩ I λ⟨⟨an,hJ⟩,_⟩=>ae.dd (ae.nil ?_);exact k ⟨an,hJ⟩
  exact aq.tE h () 0 I (by simp) I .all
 refine aP ?_;exact aq.dV (⟨⟨((some a2.1:Ref),az.2.2),h⟩,()⟩: {r // _}×_) (ej 1) I I (c9 I)
def ZJ{ab aj aI r}(h:Gq ab aj aI=some r):cn prog 60 [J.ptr ab,J.ptr aj,J.ptr aI] (J.of r):=by
 unfold Gq at h;refine cn.of func60 I ntmps60 I λW A=>?_;exact go
def ZK{ab aj aI r}(h:Gr ab aj aI=some r):cn prog 62 [J.ptr ab,J.ptr aj,J.ptr aI] (J.of r):=by
 unfold Gr at h;refine cn.of func62 I ntmps62 I λW A=>?_;refine aP λan bs bg h=>?_;refine aB h λaz ao h=>hx (γ:=Unit) (δ:=Unit) ao [0,1,2,3,4,17,18] (λs1 g1=>[(19,J.of s1)]) (λs1 g1=>[]) (λau=>Sum.elim (λau=>Exit.exit 0) (λau=>Exit.ret) au) (λau g1=>Sum.elim (λau=>[(19,J.of au.1),(20,J.of au.2)]) (λau=>[(6,J.of au.1),(19,J.of au.2.1),(20,J.of au.2.2.1),(31,J.of au.2.2.2)]) au) (λau g1=>[]) () (λs1 r h g1=>?_) λg1=>?_
 ·exact go
 rcases az with az|az
 ·simp only[Sum.elim_inl]at h;exact go
 simp only[Sum.elim_inr]at h;exact go
def aal{ab aj aI r}(h:K2 ab aj aI=some r):cn prog 113 [J.of ab,J.of aj,J.of aI] (J.of r):=by
 unfold K2 at h;refine cn.of func113 I ntmps113 I λW A=>?_;refine akF (λbg an bs aH b5 bf eM h=>?_) (λbg an bs aH b5 bf eM h=>?_) (λbg an bs aH b5 bf eM h=>?_)
 ·refine aB h λbI fN h=>aB h λbZ hZ h=>aB h λbr eG h=>ax.e4 21 ?_;exact go
 ·refine aB h λcS iw h=>aB h λz2 jZ h=>ax.e4 14 ?_;exact go
 refine aB h λdg lP h=>aB h λz3 nG h=>ax.e4 11 ?_;exact go
def ZL{ab aj aI r}(h:Gs ab aj aI=some r):cn prog 72 [J.ptr ab,J.ptr aj,J.ptr aI] (J.of r):=by
 unfold Gs at h;refine cn.of func72 I ntmps72 I λW A=>?_;exact go
instance:eV prog 75 _ _ _ Ks J.of J.of J.of:=.i func75 I ntmps75 I λab aj r h W A=>by
 unfold Ks at h;refine aP (λbg bE an bs cx aH b5 bf eM aW dq br eG h=>?_);refine aB h λaz ao h=>hx (γ:=Unit) (δ:=Unit) ao [0,1,2,3,5,6,7,8,34,46,48,49] (λs1 g1=>[(4,J.of (0:Int)),(50,J.of s1)]) (λs1 g1=>[]) (λau=>Sum.elim (λau=>Exit.exit 0) (λau=>Exit.ret) au) (λau g1=>Sum.elim (λau=>[(4,J.of (0:Int)),(50,J.of au.1),(51,J.of au.2)]) (λau=>[(4,J.of au.1),(9,J.of au.2.1),(50,J.of au.2.2.1),(51,J.of au.2.2.2.1),(62,J.of au.2.2.2.2)]) au) (λau g1=>[]) () (λs1 r h g1=>?_) λg1=>?_
 ·refine aP (λbP dI eN h=>?_);refine aB h λdc jt h=>aB h λbI fN h=>ax.e4 8 ?_;exact go
 rcases az with az|az
 ·simp only[Sum.elim_inl]at h;exact go
 simp only[Sum.elim_inr]at h;exact go
def aaH{ab aj aI r}(h:Lf ab aj aI=some r):cn prog 122 [J.of ab,J.of aj,J.of aI] (J.of r):=by
 unfold Lf at h;refine cn.of func122 I ntmps122 I λW A=>?_;refine aP λbg bE cx=>?_;refine bn (cP (look_nil (α:=gU))) (gB ?_);refine ae.own (α:=gU) 304 (bn (cP mb) ?_);refine aP ?_;refine aB h λaz ao h=>hx (γ:=(av Nat×Nat)) (δ:=(av Nat×Nat)) ao [0,1,2,3,4,5,6,15,16] (λs1 g1=>[(7,J.eq (aZ g1.1 s1.2.length g1.2)),(17,J.of s1.1)]) (λs1 g1=>[(0,⟨g1.1,.row 304 s1.2 g1.2⟩)]) (λau=>Exit.exit 0) (λau g1=>[(7,J.eq (aZ g1.1 au.2.2.length g1.2)),(17,J.of au.1),(18,J.of au.2.1)]) (λau g1=>[(0,⟨g1.1,.row 304 au.2.2 g1.2⟩)]) (none,0) (λs1 r h g1=>?_) λg1=>?_
 ·refine go2 (λaW dq eN qL h=>?_) (λh=>?_)
  ·refine aB h λm1 b7 h=>iu (γ:=Unit) [0,1,2,3,4,5,6,7,8,9,10,15,16,17,18,26] (λg2=>[]) (λg2=>[(0,bb qL m1)]) (λg2=>?_) (λhm ak=>?_) λhm ak=>?_
   ·refine aP λbr eG an bs h=>?_;refine aB h λaH b5 h=>bn (He underlying238 Dd (ai I) .none (.some (ai I)) b5) ?_;refine aP ?_;refine aB h λa8 ao h=>hx (γ:=(av Nat×Nat)) (δ:=(av Nat×Nat)) ao [0,1,2,3,4,5,6,8,9,10,11,15,16,17,18,26,40,41] (λs2 g3=>[(7,J.eq (aZ g3.1 s2.2.length g3.2)),(42,J.of s2.1)]) (λs2 g3=>[(2,⟨g3.1,.row 304 s2.2 g3.2⟩)]) (λcD=>Exit.exit 2) (λcD g3=>[(7,J.eq (aZ g3.1 cD.2.2.length g3.2)),(42,J.of cD.1),(43,J.of cD.2.1)]) (λcD g3=>[(2,⟨g3.1,.row 304 cD.2.2 g3.2⟩)]) (g1.1,g1.2) (λs2 r h g3=>?_) λg3=>?_
    ·refine go2 (λbP dI anM h=>?_) (λh=>?_)
     ·refine aB h λbf eM h=>aB h λbI fN h=>aB h λz2 jZ h=>ax.e4 15 ?_;refine aB h λbZ hZ h=>iv 3 underlying241 H0 MV hZ λeU c5=>?_;refine aP ?_;cases h;exact lq (eU,c5) 1
     cases h;exact kg (g3.1,g3.2) 0
    refine aP ?_;cases h;exact lq (g3.1,g3.2) 2
   ·have h:=gd ak b7;exact go
   have h:=gf ak b7;exact go
  cases h;exact kg (g1.1,g1.2) 0
 refine aP λcS iw z3 nG h=>?_;refine aB h λdg lP h=>iv 0 underlying241 H0 MV lP λfL oi=>?_;refine c7 (b0 (ax.ret ?_));exact aq.ku (α:=gU) 0 [6,70] ⟨rfl,rfl,trivial⟩ I go
def QX{hp ab aj aI r}(h:zh hp ab aj aI=some r):hA prog 342 [J.of ab,J.of aj,J.of aI] hp (J.of r) hp:=by
 unfold zh at h;refine bJ.of func342 I ntmps342 I λW A=>?_;refine aP λbg=>?_;refine aB h λbp cO h=>aB h λc1 cY h=>aB h λb6 ez h=>aB h λc2 en h=>aB h λan bs h=>aB h λaH b5 h=>aB h λbr eG h=>ax.e4 26 ?_;exact go
def Rb{hp ab Q}(h:wZ hp ab Q):kl prog 7 [J.of ab] hp Q:=by
 unfold wZ at h;refine bJ.of func7 I ntmps7 I λW A=>cf (pP λbg=>?_);refine bn (cP mL) (h6 ?_);obtain⟨mq,qv,sJ⟩:=ah.ex h;obtain⟨akG,ain,aio⟩:=ah.akH sJ;refine gu [1,2] ?_;refine ax.x0 mixed [1,3,5] [(0,3,J.of ab),(2,5,J.of ab),(4,7,J.of ab)] ?_;refine fM.md [] [0,2,4] [1] ⟨?_,trivial⟩;refine gP.of (ks:=[]) (λx:Subtype mq=>[(4,J.of x.1.1)]) (λx=>[]) (λx=>(bb bg ab::aY x.1.2)) (λ⟨an,hJ⟩=>?_) (λo aS ea hM aK k=>?_)
 ·refine fM.md [0] [2,4] [3] ⟨?_,trivial⟩
  ·refine gP.of (ks:=[]) (λx: {z // akG (an,z)} =>[(6,J.of x.1.1)]) (λx=>[]) (λx=>(bb bg ab::aY x.1.2)) (λ⟨aH,NF⟩=>?_) (λo aS ea hM aK k=>?_)
   ·have h:=aio (an,aH) NF;refine fM.md [2,0] [4] [5] ⟨gP.tail [4,3,2,1,0] ?_,trivial⟩;refine ae.ep (L2:=(bb bg ab::aY aH.2)) I (ae.le (E':=[(1,J.cV bg),(2,J.of (none:Ref)),(4,J.of an.1),(6,J.of aH.1),(7,J.of ab)]) .all ?_);refine ae.dz 1 0 I aip (aaE h) I I ⟨ai I,trivial⟩ I λ⟨⟨bf,h⟩,au⟩=>ae.dd ?_;refine bn (sh (b:=({(default:et)with kR:=an.1,oZ:=aH.1,q0:=bf.1}:et)) [3] ad5 I aiq air (.cons Bx I (ai I) I (by rfl) (.cons Qx I (ai I) I (by rfl) (.cons Qh I (ai I) I (by rfl) (.nil))))) ?_;refine ae.own (α:=fh) 139 (ae.Vo (ai I) I λbE=>ae.IG (γ:=fh) (b':=({({(default:et)with kR:=an.1,oZ:=aH.1,q0:=bf.1}:et)with e7:=[]}:et)) ((aO.id et).comp Bs) 0 0 I I I (ae.Ub 3 2 (Cell.iZ ({({(default:et)with kR:=an.1,oZ:=aH.1,q0:=bf.1}:et)with e7:=([]:aa fh)}:et) none 0) I I I I j8 λbK oq akI=>?_));replace h:=ah.nZ (h (none,0)) bK oq;refine ae.Uc 10 I akI (c7 (b0 (ax.ret ?_)));exact aq.dV (⟨⟨((some bK.1:Ref),bK.2),h⟩,()⟩: {r // _}×_) (ej 1) I I (c9 I)
   cases aS;refine ae.dz 1 0 I ais (aaZ (ain an hJ)) I I ⟨ai (aK I),trivial⟩ I λ⟨⟨aH,NF⟩,_⟩=>ae.dd (ae.nil ?_);exact k ⟨aH,NF⟩
 cases aS;refine ae.dz 1 0 I ait (aaG qv) I I ⟨ai (aK I),trivial⟩ I λ⟨⟨an,hJ⟩,_⟩=>ae.dd (ae.nil ?_);exact k ⟨an,hJ⟩
instance:eV prog 69 _ _ _ KW J.of J.of J.of:=.i func69 I ntmps69 I λab aj r h W A=>by
 unfold KW at h;refine cf (pP λbg=>?_);refine pP λbE=>?_;refine c7 (gB ?_);refine o6 1 pL ?_;refine o6 0 tQ ?_;refine aB h λan bs h=>nE Vu.bU (Vu.m _ _ _ bs) ?_;refine dr ?_;refine AJ ?_;refine AJ ?_;refine rz qt λcx=>?_;refine DY 0 jW ?_;refine c7 (h6 (cf ?_));refine dr ?_;refine db pH (b0 ?_);refine mU h (λh=>?_) λh=>?_
 ·refine cf (c7 (b0 (ax.ret (aq.ret ?_))));cases h;exact pR
 refine kY (ax.seq (cf (db (cq HB.fd) ?_)));refine qE 1 wF Ao ?_;refine db (sB underlying50) ?_;refine db (cq sn.fd) ?_;refine qE 0 nU rj ?_;refine db (sB underlying38) ?_;refine ea MW (b0 ?_);refine mU h (λh=>?_) λh=>?_
 ·refine cf (c7 (b0 (ax.ret (aq.ret ?_))));cases h;exact pR
 refine kY (ax.seq (cf (db (cq HB.fd) ?_)));refine qE 1 wF Ao ?_;refine db (sB underlying50) ?_;refine dr (b0 (ax.block ?_));refine aB h λaz ao h=>hx (γ:=Unit) (δ:=Unit) ao [0,1,2,3,5,6,18,25,27,28] (λs1 g1=>[(4,J.of (0:Int)),(29,J.of s1)]) (λs1 g1=>[]) (λau=>Sum.elim (λau=>Exit.exit 0) (λau=>Exit.ret) au) (λau g1=>Sum.elim (λau=>[(4,J.of (0:Int)),(29,J.of au.1),(30,J.of au.2)]) (λau=>[(4,J.of au.1),(7,J.of au.2.1),(29,J.of au.2.2.1),(30,J.of au.2.2.2.1),(42,J.of au.2.2.2.2)]) au) (λau g1=>[]) () (λs1 r h g1=>?_) λg1=>?_
 ·refine cf (ea qk (h6 ?_));refine mU h (λh=>?_) λh=>?_
  ·refine kY (ax.seq (ax.block (cf (dr ?_))));refine aB h λaW dq h=>N9 dq underlying50 sH ?_;refine db (kQ sH) ?_;refine rz Dv λeN=>?_;refine c7 ?_;refine DY 0 sH (h6 (ax.seq ?_));refine aB h λbP dI h=>aB h λaH b5 h=>ax.lB mixed 9 (rg 34 9) [[],[],[1],[],[2,3],[4],[5],[0,6],[7]] [_,_,_,_,_,_,_,_,_] ⟨sN 0 sH,H1 (cq sn.fd),k0 1 nU rj,hg,Wy dI underlying38 ri,akJ wS TB.fd,H1 (kQ cr),rB Vp.bU (Vp.m _ _ _ b5),H1 pH,trivial⟩ (b0 ?_);refine mU h (λh=>?_) λh=>?_
   ·refine cf (c7 (b0 (ax.ret (aq.ret ?_))));refine aq.sI (aq.ret ?_);cases h;exact kg () 1
   refine kY (ax.seq (aB h λdc jt h=>aB h λeW kZ h=>aB h λbf eM h=>aB h λbI fN h=>ax.lB mixed 20 (rg 43 20) [[],[0],[1],[2],[2],[2,4],[2],[2,5,6],[2,7],[2,8],[2],[2],[2,11],[2],[2,12,13],[2,14],[2,10,15],[2,3,9,16],[2,17],[2,18]] [_,_,_,_,_,_,_,_,_,_,_,_,_,_,_,_,_,_,_,_] ⟨H1 (cq ad6.fd),k0 0 BJ nF,hg,eR λL' ar=>λhb=>j9 (i:=0) (aO.id cJ) (r:=(aF aj.cm aW)) sH (ai I) (ar _ _ I I) I I,eR λL' ar=>λhb=>cq sn.fd (ai I),eR λL' ar=>λhb=>j9 (i:=1) ((aO.id bC).comp nU) (r:=an.1.ca) rj (cM I hb) (ar _ _ I I) I I,eR λL' ar=>λhb=>cT (ai I),eR λL' ar=>λhb=>o0 (k:=dc) underlying38 ri (cM I hb) (cM I hb) (dt (gW jt hb)),eR λL' ar=>λhb=>Af wS TB.fd (cM I hb) I I,eR λL' ar=>λhb=>kQ cr (cM I hb),eR λL' ar=>λhb=>j9 (i:=3) (aO.id aR) (r:=ab) pL (ai I) (ar _ _ I I) I I,eR λL' ar=>λhb=>cq sn.fd (ai I),eR λL' ar=>λhb=>j9 (i:=1) ((aO.id bC).comp nU) (r:=an.1.ca) rj (cM I hb) (ar _ _ I I) I I,eR λL' ar=>λhb=>cT (ai I),eR λL' ar=>λhb=>o0 (k:=eW) underlying38 ri (cM I hb) (cM I hb) (dt (gW kZ hb)),eR λL' ar=>λhb=>kQ ri (cM I hb),eR λL' ar=>λhb=>jT afP (aak (gW eM hb)) ⟨cM I hb,cM I hb,trivial⟩,eR λL' ar=>λhb=>jT afQ (aal (gW fN hb)) ⟨cM I hb,cM I hb,cM I hb,trivial⟩,eR λL' ar=>λhb=>pH (cM I hb),fW λar=>xv (ai I) (ai I) (λh=>h),trivial⟩ (b0 ?_)));refine mU h (λh=>?_) λh=>?_
   ·refine cf (c7 (b0 (ax.ret ?_)));refine aq.sI (aq.ret ?_);cases h;exact kg () 1
   refine ax.skip (aq.q7 (aq.next (ax.fc (ea ky ?_))));refine dr (ae.nil ?_);cases h;exact lq () 1
  refine ax.exit (aq.exit ?_);cases h;exact kg () 0
 rcases az with az|az
 ·simp only[Sum.elim_inl]at h;refine aq.q6 (aq.next (cf (c7 ?_)));refine c7 (h6 (cf ?_));refine o6 0 jW ?_;refine aB h λbZ hZ h=>nE VI.bU (VI.m _ _ hZ) (b0 ?_);refine aB h λm1 b7 h=>iu (γ:=Unit) [0,1,2,3,4,5,6,18,25,27,28,29,30,65] (λg2=>[(9,J.of m1.1),(10,J.of m1.2)]) (λg2=>[]) (λg2=>?_) (λhm ak=>?_) λhm ak=>?_
  ·refine aq.next (ax.seq (cf (db (cq HC.fd) ?_)))
   refine qE 1 BD cr ?_;refine dr ?_;refine ea qk ?_;refine dr ?_;refine o7 (cq HC.fd) ?_;refine kH (λhb=>j9 (i:=1) ((aO.id bD).comp BD) (r:=aj.jj) cr (cM I hb) I I I) ?_;refine o7 cT ?_;refine DT Ae ?_;refine N8 (b0 ?_);refine mU h (λh=>?_) λh=>?_
   ·refine cf (c7 (b0 (ax.ret (aq.ret ?_))));cases h;exact pR
   refine kY (cf (c7 (b0 (ax.ret ?_))));cases h;exact pR
  ·have h:=gd ak b7;refine ax.fc (c7 ?_);refine c7 (ae.nil ?_);cases h;exact eA 0 (hm ())
  have h:=gf ak b7;refine ax.skip ?_;cases h;exact eA 0 (hm ())
 simp only[Sum.elim_inr]at h;refine aq.sI (aq.ret ?_);cases h;exact pR
def ZM{ab aj r}(h:Gt ab aj=some r):cn prog 74 [J.ptr ab,J.ptr aj] (J.of r):=by
 unfold Gt at h;refine cn.of func74 I ntmps74 I λW A=>?_;exact go
def XZ{ab:aa aJ}{aj aI:Int}{sC:av Nat}{fu:Nat}{r:aa aJ}(h:JC ab aj aI=some r):bJ prog 368 [J.eq (aZ sC ab.length fu),J.of aj,J.of aI] [⟨sC,.row 186 ab fu⟩] (δ:=(av Nat×Nat)) (λd=>J.eq (aZ d.1 r.length d.2)) (λd=>[⟨d.1,.row 186 r d.2⟩]):=by
 unfold JC at h;obtain⟨m,n,rfl,rfl,ua,aG,rfl⟩:=abo h;refine bJ.of func368 I ntmps368 I λW A=>?_;refine ax.seq (ax.fc (ae.v (cP mb) I I I (ae.nil (aq.next (ax.seq (ax.fc (ae.v (cT (ai I)) I I I (ae.v (cT (ai I)) I I I (ae.v (cT (ai I)) I I I (ae.v (cT (ai I)) I I I (ae.v (q2 (i:=0) (xs:=ab) underlying61 (ai I) I I) I I I ?_)))))))))));refine ae.v (ab7 (i:=0) (xs:=ab) underlying61 fD (ai I) I (ai I) (ai I) (ai I) ⟨ua,aG,h5 _⟩) I I I ?_;refine ae.nil (aq.next (ax.seq (ax.seq (ax.fc (ae.v (cT (ai I)) I I I (ae.v (cT (ai I)) I I I (ae.v (nz (ai I) (ai I)) I I I (ae.nil (aq.next (ax.cond (ai I) (λak=>?_) (λak=>?_)))))))))))
 ·have aiu:m=n:=by simp only[nV]at ak;omega
  subst aiu;rw[fw];refine ax.seq (ax.fc (ae.v (cT (ai I)) I I I (ae.v (cP (ai I)) I I I (ae.nil (aq.next (ax.ret ?_))))));repeat (apply aq.ret)
  exact aq.dV (sC,fu) (.cons_cons _ (qT _)) I I (c9 I)
 have bS:m<n:=by simp only[Qa]at ak;omega
 refine ax.skip (aq.next (ax.some (i:=0) (xs:=ab) I (by omega) λp hp vr x1=>?_));subst hp;refine ax.seq (ax.fc (ae.v (cT (ai I)) I I I (ae.v (q2 (i:=0) (xs:=ab) underlying61 (ai I) I I) I I I ?_)));refine ae.v (cP (ai I)) I I I (ae.nil (aq.next ?_));have hlen:(ab.take m++ab.drop n++ab.drop (m+(ab.length-n))).length=ab.length:=by simp only[fB,fg,jh];omega
 have AK:(ab.take m++ab.drop n).length=m+(ab.length-n):=by simp only[fB,fg,jh];omega
 refine ax.seq (ax.le (E':=[(0,J.eq (aZ (some p) ab.length fu)),(1,J.of (m:Int)),(2,J.of (n:Int)),(7,J.of (ab.length:Int))]) .all ?_);refine ax.Jm mixed (⟨some 20,[],[],[],λ_=>J.eq (aZ (some p) ab.length fu),λ_ _=>⟨none,.dead⟩⟩::⟨some 21,[],[],[],λ_=>J.of (m:Int),λ_ _=>⟨none,.dead⟩⟩::⟨some 22,(0::1::[]),(0::[]),[],λ_=>J.eq (hK (some p) 0 (m-0) fu (ag.size aJ)),λ_ _=>⟨none,.dead⟩⟩::⟨some 23,[],[],[],λ_=>J.eq (aZ (some p) ab.length fu),λ_ _=>⟨none,.dead⟩⟩::⟨some 24,[],[],[],λ_=>J.of (n:Int),λ_ _=>⟨none,.dead⟩⟩::⟨some 25,(3::4::[]),(0::[]),[],λ_=>J.eq (hK (some p) n (ab.length-n) fu (ag.size aJ)),λ_ _=>⟨none,.dead⟩⟩::⟨some 26,(0::1::2::3::4::5::[]),(0::[]),(0::[]),λ_=>J.eq (aZ (some p) (m+(ab.length-n)) fu),λ_ _=>⟨some p,.row 186 (ab.take m++ab.drop n++ab.drop (m+(ab.length-n))) fu⟩⟩::⟨some 0,(0::1::2::3::4::5::6::[]),[],[],λ_=>J.eq (aZ (some p) (m+(ab.length-n)) fu),λ_ _=>⟨none,.dead⟩⟩::[]) (0::1::2::7::[]) ⟨?_,?_,?_,?_,?_,?_,?_,?_,trivial⟩ λhd=>?_
 ·exact iL I I I λhd E' L' aK ar=>cT (ai (aK _ _ I))
 ·exact iL I I I λhd E' L' aK ar=>cT (ai (aK _ _ I))
 ·exact iL I I I λhd E' L' aK ar=>CQ (i:=0) (xs:=ab) underlying61 fD (ai (aK _ _ I)) (ar 0 _ I I) .none (.some (ai (aK _ _ I))) I I ⟨uO _,by omega⟩
 ·exact iL I I I λhd E' L' aK ar=>cT (ai (aK _ _ I))
 ·exact iL I I I λhd E' L' aK ar=>cT (ai (aK _ _ I))
 ·exact iL I I I λhd E' L' aK ar=>CQ (i:=0) (xs:=ab) underlying61 fD (ai (aK _ _ I)) (ar 0 _ I I) (.some (ai (aK _ _ I))) .none I I ⟨aG,h5 _⟩
 ·intro hd E' L' aK ar;have bw:=ar 0 _ I I;refine ae.ad7 (i:=0) (m:=m) (n:=n) (xs:=ab) underlying61 fD (ai (aK _ _ I)) (ai (aK _ _ I)) bw bS aG I ?_;exact ae.nil (aq.fin (fe []) I I)
 ·exact iL I I I λhd E' L' aK ar=>cP (ai (aK _ _ I))
 refine aq.next (ax.seq (ax.fc (ae.v (cT (ai I)) I I I (ae.v (cT (ai I)) I I I (ae.v (ad8 underlying61 (ai I)) I I I (ae.v (cT (ai I)) I I I (ae.v (ts (α:=aJ) (m:=m+(ab.length-n)) (h:=ab.length) underlying61 fD (ai I) (.some (ai I)) (.some (ai I)) I I ⟨by omega,vr⟩) I I I ?_)))))))
 refine ae.clear (i:=0) (lo:=m+(ab.length-n)) (n:=ab.length-(m+(ab.length-n))) (xs:=ab.take m++ab.drop n++ab.drop (m+(ab.length-n))) underlying61 fD o1 I (ai I) I (by rw[hlen];omega) I ?_;refine ae.nil (aq.next (ax.seq (ax.fc (ae.v (cT (ai I)) I I I (ae.v (cP (ai I)) I I I (ae.nil (aq.next (ax.ret ?_))))))));have VJ:(sq (ab.take m++ab.drop n++ab.drop (m+(ab.length-n))) (m+(ab.length-n)) (ab.length-(m+(ab.length-n)))).take (m+(ab.length-n))=ab.take m++ab.drop n:=by
  unfold sq;rw[h3,yQ (by rw[fg,hlen];omega),p8,Nat.min_self,yQ (by rw[AK];exact h5 _),<-AK,l7]
 refine aq.again (.row 186 (ab.take m++ab.drop n) fu) 0 I (λA W o h=>?_) (λh=>?_) ?_
 ·have e5:=G8 (n:=m+(ab.length-n)) (by unfold sq;simp only[fB,fg,Bp,jh,hlen];omega) h;rwa[VJ]at e5
 ·exact⟨by rw[<-VJ,h.1];simp,h.2⟩
 refine aq.dV ((some p,fu):av Nat×Nat) (.cons_cons _ (qT _)) I ?_ (c9 I);rw[AK]
def QC{hp ab aj r}(h:y2 hp ab aj=some r):hA prog 82 [J.of ab,J.of aj] hp (J.bR []) r:=by
 unfold y2 at h;refine bJ.of func82 I ntmps82 I λW A=>?_;refine aP ?_;refine aB h λm1 b7 h=>xU (γ:=Unit) 0 [0,1,5] (λg1=>[]) (λg1=>[]) (λg1=>aY m1) (λg1=>?_) (λhm ak=>?_) (λhm ak=>?_)
 ·exact aq.kc go
 ·have h:=gd ak b7;refine aP λbp cO h=>?_;exact aB h λc1 cY h=>aB h λbH fy h=>ae.n2 (k':=Cell.o4 ({c1 with me:=max 1 aj}:jQ)) 0 I ((aO.id jQ).comp F0) (v:=(max 1 aj:Int)) cr (ai I) (ai I) (tF cY) I I I I (dh fy) go
 have h:=gf ak b7;exact go
instance:eV prog 215 _ _ _ zv J.of J.of J.of:=.i func215 I ntmps215 I λab aj r h W A=>by
 unfold zv at h;exact go
instance:eV prog 216 _ _ _ Cy J.of J.of J.of:=.i func216 I ntmps216 I λab aj r h W A=>by
 unfold Cy at h;exact go
def QU{hp ab aj aI cy r}(h:ze hp ab aj aI cy=some r):hA prog 175 [J.of ab,J.of aj,J.of aI,J.of cy] hp (J.bR []) r:=by
 unfold ze at h;refine bJ.of func175 I ntmps175 I λW A=>?_;refine aP λbg=>?_;refine aB h λbp cO h=>aB h λc1 cY h=>aB h λb6 ez h=>aB h λc2 en h=>aB h λbr eG h=>ax.H2 1 1 (gu [0,1,2,3,5] ?_);refine ax.bU 2 (aM 9 [] [] _::aM 10 [0] [] _::aM 11 [1] [] _::aM 12 [2] [] _::aM 13 [] [0] _::aM 14 [3,4] [] (J.of br)::rA 8 [] 1 6 _::j5 [5,6] [1] [1] (λhd=>bb ((hd 6 0).getD 0) br)::[]) (eQ ?_ jJ) (λdJ=>?_)
 ·intro hd E' L' aK ar cb;refine bn (tv (r:=br) underlying132 MX afR (jR (ai (aK _ _ I)) ez) (ai (aK _ _ I)) (hX (n:=2) (cb.trans I) (sr en) I) (dh eG)) (ae.nil ?_);exact aq.fin (fe []) I I
 refine aq.ep (L2:=(bb bg aj::bb ((dJ 6 0).getD 0) br::aY hp)) I (ix ?_);refine aq.bV 1 I (aq.next (cf (db (cq S8.fd) ?_)));refine qE 0 BK cr ?_;refine dr ?_;refine ea ky ?_;refine db (cq S8.fd) ?_;refine Wz 0 BK cr (gB ?_);refine db (cq S9.fd) ?_;refine qE 0 By cr ?_;refine dr ?_;refine ea ky ?_;refine db (cq S9.fd) ?_;refine aB h λz2 jZ h=>WA 0 By cr (hb:=by exact jZ) ?_;refine go2 (λh=>?_) (λh=>?_)
 ·refine aB h λfX pS h=>aB h λdM jF h=>ax.e4 5 ?_;exact aB h λkm vG h=>aB h λgy qD h=>aB h λbH fy h=>ae.H3 (k':=Cell.qp (hv gy aj)) 2 I underlying132 MX (jR (ai I) vG) (ai I) (sr qD) I I I (dh fy) go
 refine aB h λkI x2 h=>aB h λia sP h=>ax.e4 6 ?_;refine aB h λur WB h=>aB h λib sQ h=>aB h λcw xG h=>ae.Df (k':=Cell.qp (fm ib aj z2)) 2 I (by first|exact .inl I|exact .inr I) underlying132 MX (jR (ai I) WB) (ai I) (ai I) (sr sQ) I I I (dh xG) ?_;exact ae.nil (aq.kc go)
def Y1{hp ab aj r}(h:F5 hp ab aj=some r):hA prog 329 [J.of ab,J.of aj] hp (J.of r.1) r.2:=by
 unfold F5 at h;refine bJ.of func329 I ntmps329 I λW A=>?_;refine aP λbg=>?_;refine aB h λan bs h=>ae.gE (eL.ht 1 I Uq (Q1 bs) ⟨ai I,ai I,trivial⟩) I I I (aP (λh=>?_));refine aB h λbp cO h=>aB h λc1 cY h=>ax.e4 5 ?_;exact aB h λb6 ez h=>aB h λc2 en h=>aB h λbH fy h=>ae.H3 (k':=Cell.o2 (hv c2 aj)) 1 I underlying218 HW (jR (ai I) ez) (ai I) (so en) I I I (dh fy) go
def Yc(n:Nat):∀(hp:aE Cell) (ab:Ref) (aj:Ref) (aI:aX) (cy:Int) (hN:aa eu) (sR:Nat) (tw:av Nat) (tx:Nat) (r:(aa eu)),wu n hp ab aj aI cy hN=some r->bJ prog 350 [J.of ab,J.of aj,J.of aI,J.of cy,J.of (⟨349,some [.pointer (some ⟨sR,0,none⟩)]⟩:Raw)] ([⟨some sR,.ck ([]:aa eu) [(0,aZ tw hN.length tx)]⟩,⟨tw,.row 465 hN tx⟩]++aY hp) (δ:=(av Nat×Nat)) (λd=>J.bR []) (λd=>[⟨some sR,.ck ([]:aa eu) [(0,aZ d.1 r.length d.2)]⟩,⟨d.1,.row 465 r d.2⟩]++aY hp):=by
 induction n with
 |zero=>intro hp ab aj aI cy hN sR tw tx r h;simp[wu]at h
 | succ n bN=>
   intro hp ab aj aI cy hN sR tw tx r h
   simp only[wu]at h
   refine bJ.of func350 I ntmps350 I λW A=>?_
   refine go2 (λbg h=>?_) (λbg h=>?_)
   ·refine aq.bV 2 I (aq.bV 2 I ?_)
    cases h
    exact aq.lk (tw,tx) (.cons_cons _ (.cons_cons _ (.cons _ (.refl _)))) I I
   refine ae.bV 2 I (ae.bV 2 I (aB h λan bs h=>ae.pq (dE.aiv (τs:=[J.of (aj:Ref),J.of (aI:aX),J.of (cy:Int)]) 3 2 I afS (ab8 (ai I)) (Yr bs) I I ⟨ai I,ai I,ai I,trivial⟩) I I I λau=>ae.dd (h6 ?_)))
   refine aB h λbp cO h=>aB h λc1 cY h=>ax.lB mixed 10 (rg 17 10) [[],[],[1],[2],[3],[4],[],[],[7],[]] [_,_,_,_,_,_,_,_,_,_] ⟨hg,hg,fW λar=>kS (ij (ai I) cO),H1 (cq Hf.fd),fW λar=>rf (k:=0) MY (ai I) (c8 0) ⟨by decide,rfl⟩,fW λar=>nt (((aO.id dT).comp yZ).comp (aO.idx (α:=Ref) 2 0 (⟨by decide,rfl⟩:0<2∧(0:Int)=0).1)) (r:=b9 c1.cX 0) iK (ai I) (nB (λi e q=>ar i e q I) (hX (n:=3) I (pE cY) I)) I I,sN 2 hI,hg,mx ky,hg,trivial⟩ ?_
   refine aB h λaH b5 h=>ae.pq (dE.dz 3 2 I MZ (bN _ _ _ _ _ _ _ _ _ _ b5) I I ⟨ai I,ai I,ai I,ai I,ai I,trivial⟩) I I I λcD=>ae.dd (b0 ?_)
   refine aB h λbf eM h=>aB h λb6 ez h=>aB h λc2 en h=>aB h λbI fN h=>aB h λbZ hZ h=>ax.lB mixed 20 (rg 28 20) [[],[],[1],[2],[3],[4],[],[],[],[8],[9],[10],[11],[],[12,13],[7,14],[6,15],[],[17],[]] [_,_,_,_,_,_,_,_,_,_,_,_,_,_,_,_,_,_,_,_] ⟨hg,hg,fW λar=>kS (ij (ai I) cO),H1 (cq Hf.fd),fW λar=>rf (k:=1) MY (ai I) (c8 1) ⟨by decide,rfl⟩,fW λar=>nt (((aO.id dT).comp yZ).comp (aO.idx (α:=Ref) 2 1 (⟨by decide,rfl⟩:1<2∧(1:Int)=1).1)) (r:=b9 c1.cX 1) iK (ai I) (nB (λi e q=>ar i e q I) (hX (n:=3) I (pE cY) I)) I I,sN 2 hI,fW λar=>jT afT (Rv eM) ⟨xe 1 I,trivial⟩,hg,fW λar=>kS (ij (ai I) ez),H1 (cq LZ.fd),fW λar=>nt ((aO.id ga).comp Cc) (r:=c2.gr) cr (ai I) (nB (λi e q=>ar i e q I) (hX (n:=3) I (va en) I)) I I,mx q4,hg,mx q4,rB Vr.bU (Vr.m _ _ _ fN),rB Vs.bU (Vs.m _ _ _ hZ),hg,mx ky,hg,trivial⟩ ?_
   refine aB h λcS iw h=>ae.pq (dE.dz 3 2 I MZ (bN _ _ _ _ _ _ _ _ _ _ iw) I I ⟨ai I,ai I,ai I,ai I,ai I,trivial⟩) I I I λgm=>ae.dd (ae.nil ?_)
   refine aq.kc (aq.bV 1 I (aq.bV 1 I ?_))
   cases h
   exact aq.lk (gm.1,gm.2) (.cons_cons _ (.cons_cons _ (.cons _ (.refl _)))) I I
def Yh{hp ab aj aI cy hN sR tw tx r}(h:JZ hp ab aj aI cy hN=some r):bJ prog 350 [J.of ab,J.of aj,J.of aI,J.of cy,J.of (⟨349,some [.pointer (some ⟨sR,0,none⟩)]⟩:Raw)] ([⟨some sR,.ck ([]:aa eu) [(0,aZ tw hN.length tx)]⟩,⟨tw,.row 465 hN tx⟩]++aY hp) (δ:=(av Nat×Nat)) (λd=>J.bR []) (λd=>[⟨some sR,.ck ([]:aa eu) [(0,aZ d.1 r.length d.2)]⟩,⟨d.1,.row 465 r d.2⟩]++aY hp):=Yc dW hp ab aj aI cy hN sR tw tx r h
def Yn{ab aj cG hC hD r}(h:FN ab aj=some r):bJ prog 364 [J.cV cG,J.of aj] [⟨some cG,.ck ({ab with cK:=[]}:dH) [(10,aZ hC ab.cK.length hD)]⟩,⟨hC,.row 186 ab.cK hD⟩] (δ:=Unit) (λd=>J.of r) (λd=>[⟨some cG,.ck ({ab with cK:=[]}:dH) [(10,aZ hC ab.cK.length hD)]⟩,⟨hC,.row 186 ab.cK hD⟩]):=by
 unfold FN at h;refine bJ.of func364 I ntmps364 I λW A=>?_;refine aP λbg=>?_;refine bn (Hx underlying171 (ai I)) (b0 ?_);refine ax.tH (ai I) I (aP ?_);refine bn (fQ (i:=1) (q:=0) (β:=dH) (γ:=aJ) vt (ai I) I I) ?_;refine ae.share (α:=Int) 0 3 I I (bn (xm (F:=(λa0=>wz a0 aj)) (τs:=[J.ptr aj]) Um ⟨ai I,trivial⟩ (λ_ _ h=>Qv h)) ?_);refine aB h λan bs h=>bn (ba.VK (α:=aJ) 2 10 I I xf (jT Un (PH bs) ⟨ai I,ai I,trivial⟩)) ?_;refine c7 (b0 (ax.ret ?_));refine aq.bV 2 I (aq.bV 2 I ?_);cases h;exact ru ()
instance:eV prog 174 _ _ _ CE J.of J.of J.of:=.i func174 I ntmps174 I λab aj r h W A=>by
 unfold CE at h;refine aP λbg bE=>?_;refine bn (cP (look_nil (α:=b8))) (gB ?_);refine ae.own (α:=b8) 200 (bn (cP mb) ?_);refine aP ?_;refine aB h λaz ao h=>hx (γ:=(av Nat×Nat)) (δ:=(av Nat×Nat)) ao [0,1,2,3,4,9,10] (λs1 g1=>[(5,J.eq (aZ g1.1 s1.2.length g1.2)),(11,J.of s1.1)]) (λs1 g1=>[(0,⟨g1.1,.row 200 s1.2 g1.2⟩)]) (λau=>Exit.exit 0) (λau g1=>[(5,J.eq (aZ g1.1 au.2.2.length g1.2)),(11,J.of au.1),(12,J.of au.2.1)]) (λau g1=>[(0,⟨g1.1,.row 200 au.2.2 g1.2⟩)]) (none,0) (λs1 r h g1=>?_) λg1=>?_
 ·refine go2 (λaW dq cx h=>?_) (λh=>?_)
  ·refine aB h λm1 b7 h=>iu (γ:=(av Nat×Nat)) [0,1,2,3,4,7,9,10,11,12,15] (λg2=>[(5,J.eq (aZ g2.1 m1.length g2.2))]) (λg2=>[(1,⟨g2.1,.row 200 m1 g2.2⟩)]) (λg2=>?_) (λhm ak=>?_) λhm ak=>?_
   ·refine aP ?_;cases h;exact lq (g2.1,g2.2) 1
   ·have h:=gd ak b7;refine ax.skip ?_;cases h;exact eA 0 (hm (g1.1,g1.2))
   have h:=gf ak b7;refine aP ?_;refine aB h λm2 dy h=>iu (γ:=(av Nat×Nat)) [0,1,2,3,4,7,9,10,11,12,15,21] (λg3=>[(5,J.eq (aZ g3.1 m2.length g3.2))]) (λg3=>[(1,⟨g3.1,.row 200 m2 g3.2⟩)]) (λg3=>?_) (λhm ak=>?_) λhm ak=>?_
   ·cases h;exact eA 0 (hm (g3.1,g3.2))
   ·have h:=gd ak dy;refine aB h λan bs h=>aB h λbr eG h=>ax.e4 11 ?_;refine aB h λaH b5 h=>iv 1 underlying93 Ag H4 b5 λeU c5=>?_;refine c7 (ae.nil ?_);cases h;exact eA 0 (hm (eU,c5))
   have h:=gf ak dy;refine aP ?_;refine aB h λm3 fE h=>iu (γ:=(av Nat×Nat)) [0,1,2,3,4,7,9,10,11,12,15,21,37] (λg4=>[(5,J.eq (aZ g4.1 m3.length g4.2))]) (λg4=>[(1,⟨g4.1,.row 200 m3 g4.2⟩)]) (λg4=>?_) (λhm ak=>?_) λhm ak=>?_
   ·cases h;exact eA 0 (hm (g4.1,g4.2))
   ·have h:=gd ak fE;refine aB h λbf eM h=>aB h λz2 jZ h=>ax.e4 11 ?_;refine aB h λbI fN h=>iv 1 underlying93 Ag H4 fN λfL oi=>?_;refine c7 (ae.nil ?_);cases h;exact eA 0 (hm (fL,oi))
   have h:=gf ak fE;refine ax.skip ?_;cases h;exact eA 0 (hm (g1.1,g1.2))
  cases h;exact kg (g1.1,g1.2) 0
 refine aP ?_;exact aq.ku (α:=b8) 0 [4,5,56] ⟨rfl,rfl,rfl,trivial⟩ I go
def X5{ab aj r}(h:Bl ab aj=some r):cn prog 217 [J.of ab,J.of aj] (J.of r):=by
 unfold Bl at h;refine cn.of func217 I ntmps217 I λW A=>?_;exact go
def YN{hp ab aj r}(h:BS hp ab aj=some r):hA prog 325 [J.of ab,J.of aj] hp (J.bR []) r:=by
 unfold BS at h;refine bJ.of func325 I ntmps325 I λW A=>?_;refine aP λbg bE=>?_;refine aB h λan bs h=>ax.e4 5 ?_;refine aB h λaH b5 h=>ae.dz 2 0 I afU (Y1 b5) I I ⟨ai I,ai I,trivial⟩ I λau=>ae.dd (ae.nil ?_);exact aq.kc go
def Yd{hp ab aI ub key02_0 cap02_0 r}(h:FA hp ab aI=some r):bJ prog 348 [J.of ab,J.of (⟨349,some [.pointer (some ⟨ub,0,none⟩)]⟩:Raw)] ([⟨some ub,.ck ([]:aa eu) [(0,aZ key02_0 aI.length cap02_0)]⟩,⟨key02_0,.row 465 aI cap02_0⟩]++aY hp) (δ:=(av Nat×Nat)) (λd=>J.bR []) (λd=>[⟨some ub,.ck ([]:aa eu) [(0,aZ d.1 r.length d.2)]⟩,⟨d.1,.row 465 r d.2⟩]++aY hp):=by
 unfold FA at h;refine bJ.of func348 I ntmps348 I λW A=>?_;refine aP ?_;refine aB h λm1 b7 h=>xU (γ:=(av Nat×Nat)) 2 [0,1,5] (λg1=>[]) (λg1=>[(0,⟨some ub,.ck ([]:aa eu) [(0,aZ g1.1 m1.length g1.2)]⟩),(1,⟨g1.1,.row 465 m1 g1.2⟩)]) (λg1=>aY hp) (λg1=>?_) (λhm ak=>?_) (λhm ak=>?_)
 ·refine aq.kc (aq.bV 1 I (aq.bV 1 I ?_));cases h;exact aq.lk (g1.1,g1.2) (.cons_cons _ (.cons_cons _ (.refl _))) I I
 ·have h:=gd ak b7;refine aP λbp cO c1 cY h=>?_;refine aB h λan bs h=>ae.pq (dE.dz 2 2 I MZ (Yh bs) I I ⟨ai I,ai I,ai I,c8 0,ai I,trivial⟩) I I I λau=>ae.dd (ae.nil ?_);cases h;exact eA 0 (hm (au.1,au.2))
 have h:=gf ak b7;refine ax.skip ?_;cases h;exact eA 0 (hm (key02_0,cap02_0))
def Yi{ab aj cG hC hD r}(h:Bu ab aj=some r):bJ prog 361 [J.cV cG,J.of aj] [⟨some cG,.ck ({ab with cK:=[]}:dH) [(10,aZ hC ab.cK.length hD)]⟩,⟨hC,.row 186 ab.cK hD⟩] (δ:=(av Nat×Nat)) (λd=>J.of r.1) (λd=>[⟨some cG,.ck ({r.2 with cK:=[]}:dH) [(10,aZ d.1 r.2.cK.length d.2)]⟩,⟨d.1,.row 186 r.2.cK d.2⟩]):=by
 unfold Bu at h;refine bJ.of func361 I ntmps361 I λW A=>?_;refine aP ?_;refine aB h λan bs h=>ae.gE (eL.call [0,1] Ur (Yn bs) ⟨ai I,ai I,trivial⟩ I ⟨rfl,rfl,trivial⟩ I) I I I ?_;refine go2 (λh=>?_) (λh=>?_)
 ·refine aq.bV 1 I (aq.bV 1 I ?_);cases h;exact ru (hC,hD)
 refine bn (fQ (i:=0) (q:=0) (β:=dH) (γ:=aJ) vt (ai I) I I) ?_;refine aP ?_;refine ae.bV 1 I (aB h λaH b5 h=>gj 1 afV (XZ b5) λau=>?_);refine aP ?_;refine ae.jS (i:=1) (γ:=aJ) (b':=({ab with cK:=[]}:dH)) (os':=[(10,aZ au.1 aH.length au.2)]) ((aO.id dH).comp zb) vt (ai I) (ai I) iI I I I I ?_;refine aP ?_;refine aq.bV 0 I (aq.bV 1 I ?_);cases h;exact ru (au.1,au.2)
instance:eV prog 176 _ _ _ Cz J.of J.of J.of:=.i func176 I ntmps176 I λab aj r h W A=>by
 unfold Cz at h;refine aP λbg bE=>?_;refine bn (cP (look_nil (α:=b8))) (gB ?_);refine ae.own (α:=b8) 200 (bn (cP mb) ?_);refine aP ?_;refine aB h λaz ao h=>hx (γ:=(av Nat×Nat)) (δ:=(av Nat×Nat)) ao [0,1,2,3,4,10,11] (λs1 g1=>[(5,J.eq (aZ g1.1 s1.2.length g1.2)),(12,J.of s1.1)]) (λs1 g1=>[(0,⟨g1.1,.row 200 s1.2 g1.2⟩)]) (λau=>Exit.exit 0) (λau g1=>[(5,J.eq (aZ g1.1 au.2.2.length g1.2)),(12,J.of au.1),(13,J.of au.2.1)]) (λau g1=>[(0,⟨g1.1,.row 200 au.2.2 g1.2⟩)]) (none,0) (λs1 r h g1=>?_) λg1=>?_
 ·refine go2 (λaW dq cx h=>?_) (λh=>?_)
  ·refine aB h λan bs h=>aB h λbr eG h=>ax.qs 1 (gu [0,1,2,3,4,5,7,10,11,12,13,14,15] ?_);refine ax.A7 5 (aM 16 [] [] _::aM 17 [0] [0] _::aM 18 [] [] _::aM 19 [2] [0] _::aM 20 [] [2] _::aM 21 [] [] _::aM 22 [5] [0] _::aM 23 [4,6] [] _::aM 24 [1,3,7] [] _::rA 8 [] 4 9 _::j5 [8,9] [4] [4] (λhd=>bb ((hd 9 0).getD 0) br)::[]) (λdJ=>?_);refine aq.ep (L2:=[bb cx (aF ab.eE aW:ev),⟨g1.1,.row 200 s1.2 g1.2⟩,bb bE aj,bb bg ab,bb ((dJ 9 0).getD 0) br]) I (ix ?_);refine aq.bV 4 I (aP ?_);refine aB h λaH b5 h=>kH (λhb=>ba.akK 31 I hb (ba.VK (α:=b8) 2 31 I I G5 (jT afW (X5 (gW b5 hb)) ⟨ai I,cM I hb,trivial⟩))) ?_;refine aP ?_;refine aB h λm1 b7 h=>iu (γ:=(av Nat×Nat)) [0,1,2,3,4,7,8,10,11,12,13,35] (λg2=>[(5,J.eq (aZ g2.1 m1.length g2.2))]) (λg2=>[(2,⟨g2.1,.row 200 m1 g2.2⟩)]) (λg2=>?_) (λhm ak=>?_) λhm ak=>?_
   ·refine aP ?_;cases h;exact lq (g2.1,g2.2) 2
   ·have h:=gd ak b7;refine aP ?_;refine aB h λbf eM h=>iv 2 underlying93 Ag H4 eM λeU c5=>?_;refine c7 (ae.nil ?_);cases h;exact eA 0 (hm (eU,c5))
   have h:=gf ak b7;refine ax.skip ?_;cases h;exact eA 0 (hm (g1.1,g1.2))
  cases h;exact kg (g1.1,g1.2) 0
 refine aP ?_;exact aq.ku (α:=b8) 0 [4,5,41] ⟨rfl,rfl,rfl,trivial⟩ I go
def YO{ab aj r}(h:BT ab aj=some r):cn prog 134 [J.of ab,J.of aj] (J.of r):=by
 unfold BT at h;refine cn.of func134 I ntmps134 I λW A=>?_;refine aP λbg bE=>?_;refine aB h λan bs h=>aB h λaH b5 h=>aB h λbf eM h=>aB h λbI fN h=>ax.e4 23 ?_;exact go
def Y2{ab aj r}(h:B2 ab aj=some r):cn prog 184 [J.of ab,J.of aj] (J.of r):=by
 unfold B2 at h;refine cn.of func184 I ntmps184 I λW A=>?_;refine aP (λbg bE h=>?_);refine aB h λan bs h=>aB h λaH b5 h=>aB h λbf eM h=>aB h λbI fN h=>aB h λbZ hZ h=>aB h λcS iw h=>aB h λdg lP h=>aB h λeB qB h=>ax.e4 27 ?_;exact go
def aaw{ab sC fu r}(h:zC ab=some r):bJ prog 362 [J.eq (aZ sC ab.length fu)] [⟨sC,.row 186 ab fu⟩] (δ:=Unit) (λd=>J.of r) (λd=>[⟨sC,.row 186 ab fu⟩]):=by
 unfold zC at h;refine bJ.of func362 I ntmps362 I λW A=>cf (bn (cP (look_nil (α:=aJ))) (gB ?_));refine ae.own (α:=aJ) 186 (bn (cP mb) ?_);refine aP ?_;refine bn (q2 (i:=1) underlying61 (ai I) I I) ?_;refine dr (b0 (ax.block ?_));refine aB h λaz ao h=>hx (γ:=(av Nat×Nat)) (δ:=(av Nat×Nat)) ao [0,2,6,7] (λs1 g1=>[(3,J.eq (aZ g1.1 s1.2.length g1.2)),(8,J.of s1.1)]) (λs1 g1=>[(0,⟨g1.1,.row 186 s1.2 g1.2⟩)]) (λau=>Exit.exit 0) (λau g1=>[(3,J.eq (aZ g1.1 au.2.2.length g1.2)),(8,J.of au.1),(9,J.of au.2.1)]) (λau g1=>[(0,⟨g1.1,.row 186 au.2.2 g1.2⟩)]) (none,0) (λs1 r h g1=>?_) λg1=>?_
 ·refine go2 (λh=>?_) (λh=>?_)
  ·refine aB h λaW dq h=>bn (mO (i:=1) (k:=aW) (xs:=(ab:aa aJ)) underlying61 fD (ai I) (ai I) I (dt dq)) ?_;refine bn (u3 (i:=1) (k:=aW) (aO.id aJ) (r:=(aF ab aW)) fD (ai I) I (dt dq).1 I I) ?_;refine aP λbg an bs h=>?_;refine aB h λaH b5 h=>iv 1 underlying61 fD o1 b5 λeU c5=>?_;refine aP ?_;cases h;exact lq (eU,c5) 1
  cases h;exact kg (g1.1,g1.2) 0
 refine aP ?_;exact aq.ku (α:=aJ) 0 [2,3,18] ⟨rfl,rfl,rfl,trivial⟩ I go
def Zh{hp ab aj aI r}(h:Ce hp ab aj aI=some r):hA prog 173 [J.of ab,J.of aj,J.of aI] hp (J.bR [J.of r.1,J.of r.2]) hp:=by
 unfold Ce at h;refine bJ.of func173 I ntmps173 I λW A=>?_;refine aP (λbg bp cO c1 cY h=>?_);refine aB h λb6 ez h=>aB h λc2 en h=>aB h λbr eG h=>bn (tv (r:=br) underlying159 xZ o1 (jR (ai I) ez) (ai I) (hX (n:=1) I (q3 en) I) (dh eG)) ?_;exact go
instance:eV prog 374 _ _ _ zw J.of J.of J.of:=.i func374 I ntmps374 I λab aj r h W A=>by
 unfold zw at h;refine aP λbg bE an bs cx h=>?_;refine aB h λaH b5 h=>bn (jT Uj (P4 b5) ⟨ai I,Sm afX (λ_ _=>ZF),trivial⟩) ?_;exact go
def aae{hp ab r}(h:GM hp ab=some r):hA prog 345 [J.of ab] hp (J.of r) hp:=by
 unfold GM at h;refine bJ.of func345 I ntmps345 I λW A=>cf (bn (cP (look_nil (α:=eu))) (gB ?_));refine ae.qg (z:=(default:aa eu)) [0] acZ afY I λbg=>ae.own (α:=eu) 465 (aP ?_);refine bn (Us (f:=349) (us:=[.pointer (some ⟨bg,0,none⟩)]) ⟨ai I,trivial⟩) ?_;refine ae.IG (γ:=eu) (b':=([]:aa eu)) (aO.id (aa eu)) 1 0 I I I (ae.bV 0 I (ae.bV 1 I (aB h λan bs h=>ae.pq (dE.dz 2 2 I afZ (Yd (key02_0:=none) (cap02_0:=0) bs) I I ⟨ai I,ai I,trivial⟩) I I I λau=>ae.dd (gB ?_))));refine bn (fQ (i:=0) (q:=0) (β:=aa eu) (γ:=eu) MM (ai I) I I) ?_;refine c7 (b0 (ax.ret ?_));exact aq.H5 (β:=aa eu) (γ:=eu) (b':=an) (aO.id (aa eu)) 0 1 0 2 I I I I I I I (aq.ql 0 I go)
def YP{hp ab aj Q}(h:BU hp ab aj Q):x3 prog 357 [J.of ab,J.of aj] hp Q:=by
 unfold BU at h;refine bJ.of func357 I ntmps357 I λW A=>?_;refine aP λbg bE=>?_;refine ah.bB h λbp cO h=>ah.bB h λc1 cY h=>ah.bB h λan bs h=>ae.pq (dE.obj 2 (λq:av Nat×Nat=>Cell.sF an.2 q.1 q.2) I (xp cY) af0 (Yi bs) I (λ_=>rfl) ⟨ij (ai I) cO,ai I,trivial⟩) I I I λau=>?_;replace h:=ah.any_bind h au;refine ah.bB h λbH fy h=>ae.ep (L2:=(bb bE aj::bb bg ab::aY bH)) (by rw[<-dh fy];rfl) ?_;exact ae.nil (aq.kc (aq.lk (⟨⟨bH,h⟩,()⟩: {r // _}×_) (ej 2) I I))
def QV{hp ab aj aI r}(h:zf hp ab aj aI=some r):hA prog 131 [J.of ab,J.of aj,J.of aI] hp (J.bR []) r:=by
 unfold zf at h;refine bJ.of func131 I ntmps131 I λW A=>?_;refine aP (λbg h=>?_);refine aB h λbp cO h=>aB h λc1 cY h=>aB h λan bs h=>ax.e4 8 (b0 (ax.block ?_));refine aB h λaz ao h=>xT (σ:=Int×(aE Cell)) (ε:=(Int×Bool×(aE Cell))) (γ:=Unit) (δ:=Unit) ao 1 [0,1,2,4,11,17,18] (λs1 g1=>[(19,J.of s1.1)]) (λs1 g1=>[]) (λs1 g1=>aY s1.2) (λau=>Exit.exit 0) (λau g1=>[(19,J.of au.1),(20,J.of au.2.1)]) (λau g1=>[]) (λau g1=>aY au.2.2) () (λs1 r h g1=>?_) (λg1=>?_)
 ·refine aP (λaW dq bE h=>?_);refine aB h λaH b5 h=>ae.dz 2 0 I Ut (QU b5) I I ⟨ai I,ai I,ai I,c8 0,trivial⟩ I λcD=>ae.dd ?_;exact go
 refine aq.q6 (aq.next (ax.seq (aB h λc2 en h=>aB h λbf eM h=>ax.e4 8 (b0 (ax.block ?_)))));refine aB h λa8 ao h=>xT (σ:=Int×(aE Cell)) (ε:=(Int×Bool×(aE Cell))) (γ:=Unit) (δ:=Unit) ao 1 [0,1,2,4,11,17,18,19,20,33,34] (λs2 g2=>[(35,J.of s2.1)]) (λs2 g2=>[]) (λs2 g2=>aY s2.2) (λgm=>Exit.exit 2) (λgm g2=>[(35,J.of gm.1),(36,J.of gm.2.1)]) (λgm g2=>[]) (λgm g2=>aY gm.2.2) () (λs2 r h g2=>?_) (λg2=>?_)
 ·refine aP (λbP dI cx h=>?_);refine aB h λbI fN h=>ae.dz 2 0 I Ut (QU fN) I I ⟨ai I,ai I,c8 0,ai I,trivial⟩ I λlD=>ae.dd ?_;exact go
 exact aq.q6 (aq.kc go)
def Z2{hp ab Q}(h:Cq hp ab Q):kl prog 92 [J.of ab] hp Q:=by
 unfold Cq at h;refine bJ.of func92 I ntmps92 I λW A=>cf (bn (cP (look_nil (α:=hj))) (h6 (cf ?_)));refine dr ?_;refine bn (zK underlying83 (ai I)) (b0 ?_);refine D0 h (λh=>?_) λh=>?_
 ·refine cf (bn (cP (look_nil (α:=hj))) (b0 (ax.ret (aq.ret ?_))));exact aq.dV (⟨⟨(([]:aa hj),hp),h⟩,()⟩: {r // _}×_) (.refl _) I I (c9 I)
 refine kY (cf (ae.own (α:=hj) 202 (bn (cP mb) ?_)));refine aP λbp cO c1 cY h=>?_;refine ah.bB h λb6 ez h=>ah.bB h λc2 en h=>ae.TC (α:=b8) (β:=ji) (kv:=c2) 1 I underlying132 (jR (ai I) ez) (sr en) I I λbg m1 jy bH=>b0 (ax.block (AI (σ:=(aa Nat)×(aa hj)) (ε:=(Bool×(aa Nat)×(aa hj))) (γ:=(av Nat×Nat)) (δ:=(av Nat×Nat)) h 2 [0,2,7,12] (λs1 g1=>[(3,J.eq (aZ g1.1 s1.2.length g1.2))]) (λs1 g1=>[(0,⟨some bg,.is (lR b6 m1 jy s1.1)⟩),(1,⟨g1.1,.row 202 s1.2 g1.2⟩)]) (λs1 g1=>nI b6 (.map m1 jy) (aY hp)) (λau=>Exit.exit 0) (λau g1=>[(3,J.eq (aZ g1.1 au.2.2.length g1.2)),(14,J.of au.1)]) (λau g1=>[(0,⟨some bg,.is (lR b6 m1 jy au.2.1)⟩),(1,⟨g1.1,.row 202 au.2.2 g1.2⟩)]) (λau g1=>nI b6 (.map m1 jy) (aY hp)) (none,0) (λs1 R h g1=>?_) (λaz h g1=>?_)))
 ·refine cf (ae.Uu (kv:=c2) 0 (ai I) I (HD 2 I (sr en) I) bH I λoK D1=>?_);replace h:=ah.RU h oK D1;refine bn (TD (ai I)) ?_;refine go2 (λh=>?_) (λh=>?_)
  ·refine ah.bB h λaW dq h=>bn (Sn (kv:=c2) (vis:=s1.1) 0 (ai I) I (HD 2 I (sr en) I) bH D1 dq) ?_;refine aP λbE cx br eG h=>?_;refine ah.bB h λan bs h=>iv 3 underlying197 Uv af1 bs λeU c5=>?_;refine c7 (ae.nil ?_);exact aq.q7 (aq.xo h (eU,c5) 2 I .all)
  exact aq.tE h (g1.1,g1.2) 0 I (by simp) I .all
 refine aP ?_;refine ae.bV 1 I (ae.pq (dE.pI 1 af2 (X2 h) I I ⟨ai I,Sp af3 (λ_ _ _ h=>YO h),trivial⟩) I I I λ⟨aH,VL,h⟩=>?_);refine ae.dd ?_;refine ae.mg (m:=aH.length) 3 I VL (ae.mg (m:=aH.length) 27 I VL (aP ?_));exact aq.H6 2 I (aq.ku (α:=hj) 0 [2,3,27,29] ⟨rfl,rfl,rfl,rfl,trivial⟩ I (aq.dV (⟨⟨(aH,hp),h⟩,()⟩: {r // _}×_) (ej 2) I I (c9 I)))
instance:eV prog 141 _ _ _ CA J.of J.of J.of:=.i func141 I ntmps141 I λab aj r h W A=>by
 unfold CA at h;refine aP λbg bE=>?_;refine aB h λan bs h=>aB h λaH b5 h=>aB h λbf eM h=>aB h λbI fN h=>aB h λbZ hZ h=>aB h λcS iw h=>ax.lB mixed 27 (rg 5 27) [[],[0],[],[2],[1,3],[],[5],[],[7],[6,8],[],[10],[],[12],[11,13],[],[15],[],[17],[16,18],[],[20],[],[22],[21,23],[4,9,14,19,24],[25]] [_,_,_,_,_,_,_,_,_,_,_,_,_,_,_,_,_,_,_,_,_,_,_,_,_,_,_] ⟨H1 (cq C5.fd),k0 1 wK cr,H1 (cq C5.fd),k0 0 wK cr,rB Ap.bU (Ap.m _ _ _ bs),H1 (cq HC.fd),k0 0 BD cr,H1 (cq HC.fd),k0 1 BD cr,rB Ap.bU (Ap.m _ _ _ b5),H1 (cq HB.fd),k0 1 wF Ao,H1 (cq HB.fd),k0 0 wF Ao,fW λar=>jT af4 (X0 eM) ⟨ai I,ai I,Sq af5 (λ_ _ _=>Y2),trivial⟩,H1 (cq HE.fd),k0 1 y5 cr,H1 (cq HE.fd),k0 0 y5 cr,rB Ap.bU (Ap.m _ _ _ fN),H1 (cq HA.fd),k0 1 Cd Dw,H1 (cq HA.fd),k0 0 Cd Dw,fW λar=>jT af6 (X1 hZ) ⟨ai I,ai I,Sq af7 (λ_ _ _=>Q4),trivial⟩,fW λar=>Db (r:=[an,aH,bf,bI,bZ]) underlying39 cr xX I I (.cons (by simp) (ai I) (.cons (by simp) (ai I) (.cons (by simp) (ai I) (.cons (by simp) (ai I) (.cons (by simp) (ai I) (.nil)))))),rB VG.bU (VG.m _ _ iw),trivial⟩ ?_;exact go
theorem akL:cN prog 290 (⟨.slice none 0 0⟩:dL):=⟨_,.slice none 0 0,rfl,by kernel_rfl,λ_ _=>vl.2 ⟨rfl,rfl⟩⟩
theorem IL:bG prog 290 dL:=bG.of (by rfl) underlying290 (by kernel_rfl)
theorem IM:bG prog 292 dL:=bG.of (by rfl) underlying292 (by kernel_rfl)
theorem WC:cN prog 292 (⟨.nilIface⟩:dL):=⟨_,.nilIface,rfl,by kernel_rfl,λ_ _=>vl.2 ⟨rfl,rfl⟩⟩
def af8{p:Nat}{key:av Nat}{cap:Nat}{x:dL}:bJ prog 166 [J.of (0:Int),J.cV p] [bb p (⟨aZ key 1 cap⟩:dL),⟨key,.row 292 [x] cap⟩] (δ:=Unit) (λ_=>J.of x) (λ_=>[bb p (⟨aZ key 1 cap⟩:dL),⟨key,.row 292 [x] cap⟩]):=by
 refine bJ.of func166 I ntmps166 I λW A=>cf (bn (cP (Hw .nilIface)) (h6 (cf ?_)));refine dr ?_;refine ea qk ?_;refine dr ?_;refine kH (λhb=>cT (ai I)) ?_;refine kH (λhb=>j9 (aO.id dL) IL (ai I) (i:=0) I I I) ?_;refine kH (λhb=>q2 (i:=1) (xs:=[x]) underlying290 (L0 (cM I hb)) I I) ?_;refine kH (λhb=>MU (cM I hb) (cM I hb)) ?_;refine N8 (b0 ?_);refine ax.tH (ai I) (by decide) (ax.skip (aq.next ?_));refine cf (o6 0 IL ?_);refine dr ?_;refine bn (mO (i:=1) (k:=0) (xs:=[x]) underlying290 IM (L0 (ai I)) (ai I) I ⟨by simp,rfl⟩) ?_;refine bn (u3 (i:=1) (k:=0) (xs:=[x]) (aO.id dL) (r:=x) IM (ai I) I (by simp) I I) ?_;refine c7 (b0 (ax.ret ?_));exact ru ()
def af9:bx prog 161:=⟨_,func161,rfl,by kernel_rfl⟩
def ad9:bx prog 166:=⟨_,func166,rfl,by kernel_rfl⟩
def aga{b:Bool}{name:String}(hm:((prog.info? 293).bind λi=>(i.methods.find? (λx=>x.name==name)).map λm=>(m.path.size,m.func))=some (0,some (263,false))):lg prog name (J.of (⟨.iface 293 (.bool b)⟩:dL)) [] [] (λ_:Unit=>J.of b) (λ_=>[]):=by
 refine lg.of (t:=293) (f:=263) (σ:=J.of b) (jK.sS hm underlying293 I ⟨_,func263,rfl,by kernel_rfl⟩) (λA W u h=>⟨_,(vl.1 h).1,of_bool.2 I⟩) ?_;refine bJ.of func263 I ntmps263 I λW A=>cf (bn (cP (gI _)) (gB ?_));refine dr ?_;refine c7 (b0 (ax.ret ?_));exact ru ()
def Rg{ab aj r}(h:GR ab aj=some r):cn prog 121 [J.of ab,J.of aj] (J.of r):=by
 unfold GR at h;split at h
 ·rename_i n;cases qF:(n.kV==2)with
  |false=>rw[qF]at h;cases h
  |true=>
  rw[qF]at h;replace h:(uY 1#64).bind (λv=>some (decide (n.b3=v)))=some r:=h;have aiw:n.kV=2:=by simpa using qF
  refine aB h λv a7 h=>?_;have aC:decide (n.b3=v)=r:=by simpa using h
  subst aC;refine cn.of func121 I ntmps121 I λW A=>cf (bn (cP (gI _)) (gB ?_));refine rz akL λqL=>gB ?_;refine bn (De (f:=166) (τs:=[J.cV qL]) ⟨ai I,trivial⟩) ?_;refine c7 (h6 (cf ?_));refine dr ?_;refine db (sB underlying235) ?_;refine dr (b0 (ax.block ?_));refine ax.HZ (σ:=Bool) (ε:=Unit) (γ:=av Nat×Nat) (δ:=av Nat×Nat) (N:=2) (b:=λs=>some (bif s then .inr ()else .inl true)) (s0:=false) (e:=()) I
   (λs g=>[(12,J.of (bif s then 1 else 0:Int)),(10,J.of [n]),(11,J.of (([n]:aa nY).length:Int)),(6,J.ju 166 [J.cV qL]),(5,J.cV qL),(0,J.of [n])])
   (λs g=>bif s then [bb qL (⟨aZ g.1 1 g.2⟩:dL),⟨g.1,.row 292 [(⟨.iface 293 (.bool (decide (n.b3=v)))⟩:dL)] g.2⟩]else [bb qL (⟨.slice none 0 0⟩:dL)])
   (λ_=>.exit 0) (λ_ g=>[(6,J.ju 166 [J.cV qL]),(0,J.of [n])]) (λ_ g=>[bb qL (⟨aZ g.1 1 g.2⟩:dL),⟨g.1,.row 292 [(⟨.iface 293 (.bool (decide (n.b3=v)))⟩:dL)] g.2⟩]) (none,0) I (by repeat (first|exact eb.nil|refine eb.same I ?_)) (λs r hs g=>?_) λg=>?_
  ·cases s with
   | false=>
     cases hs
     refine cf (ea qk (h6 ?_))
     refine ax.Dc (ai I) (by rfl) ?_
     refine kY (ax.seq (ax.block (cf (N9 (j:=0) (xs:=[n]) I underlying235 H7 ?_))))
     refine db (kQ H7) ?_
     refine rz agb λanN=>?_
     refine DY 0 H7 (gB ?_)
     refine db (cq ac0.fd) ?_
     refine qE 0 QW cr (b0 (ax.block ?_))
     refine cf (ea nz ?_)
     refine c7 (b0 ?_)
     refine ax.tH (ai I) (by show(n.kV==1)=false;rw[aiw];rfl) ?_
     refine cf (ea nz ?_)
     refine c7 (b0 ?_)
     refine ax.Dc (ai I) qF (ax.lB mixed 7 (rg 44 7) [[],[],[1],[],[2,3],[4],[5]] [_,_,_,_,_,J.of (⟨.iface 293 (.bool (decide (n.b3=v)))⟩:dL),J.of [(⟨.iface 293 (.bool (decide (n.b3=v)))⟩:dL)]] ⟨k0 1 (aO.id dL) IL,H1 (cq ac1.fd),k0 0 QD hI,rB af9 (aij.m _ _ a7) (λ_=>⟨xe 1#64 I,trivial⟩),mx (Uw vm I Ux I),H1 (λal=>Hy underlying293 I al λA W u h=>vl.2 ⟨by rw[of_bool.1 h],rfl⟩),(λL' _=>.v (Db underlying290 IM WC I I (nw.cons (by simp) (ai I) .nil)) I),trivial⟩ ?_)
     refine ae.own (α:=dL) 292 (iv 0 underlying290 IM WC (xs:=[]) (ys:=[_]) (r:=[(⟨.iface 293 (.bool (decide (n.b3=v)))⟩:dL)]) (bytes:=16) (by rfl) (hs:=L0 (ai I)) λkey cap=>?_)
     refine DY 2 IL (hy:=ac2 (ai I) iI) (ae.nil ?_)
     refine aq.q7 (aq.q7 (aq.next (ax.fc (ea ky ?_))))
     refine dr (ae.nil ?_)
     exact aq.bV 2 I (aq.bV 2 I (aq.TE (key,cap) 1 I (by repeat (first|exact eb.nil|refine eb.same I ?_))))
   | true=>
     cases hs
     refine cf (ea qk (h6 ?_))
     refine ax.tH (ai I) (by rfl) ?_
     exact ax.exit (aq.exit (aq.TF g 0 I (by simp) I (by repeat (first|exact eb.nil|refine eb.same I ?_))))
  refine aq.q6 (aq.next (cf (dr ?_)));refine dr ?_;refine db (sB underlying235) ?_;refine ea q4 ?_;refine ae.pq (dE.ju (τs:=[J.of (0:Int)]) 2 ad9 (ai I) af8 I I ⟨ai I,trivial⟩) I I I λ_=>?_;refine ae.NG (aga (by kernel_rfl)) (ai I) I ?_;refine c7 (b0 (ax.ret ?_));exact pR
 cases h
def aaf{ab aj r}(h:KY ab aj=some r):cn prog 124 [J.of ab,J.of aj] (J.of r):=by
 unfold KY at h;refine cn.of func124 I ntmps124 I λW A=>cf (pP λbg=>?_);refine bn (cP (look_nil (α:=gU))) (gB ?_);refine ae.own (α:=gU) 304 (bn (cP mb) ?_);refine aP λan bs h=>?_;refine aB h λaz ao h=>hx (γ:=(av Nat×Nat)) (δ:=(av Nat×Nat)) ao [0,1,2,4,10,11] (λs1 g1=>[(5,J.eq (aZ g1.1 s1.2.length g1.2)),(12,J.of s1.1)]) (λs1 g1=>[(0,⟨g1.1,.row 304 s1.2 g1.2⟩)]) (λau=>Exit.exit 0) (λau g1=>[(5,J.eq (aZ g1.1 au.2.2.length g1.2)),(12,J.of au.1),(13,J.of au.2.1)]) (λau g1=>[(0,⟨g1.1,.row 304 au.2.2 g1.2⟩)]) (none,0) (λs1 r h g1=>?_) λg1=>?_
 ·refine go2 (λaW dq bE br eG cx h=>?_) (λh=>?_)
  ·refine aB h λm1 b7 h=>iu (γ:=Unit) [0,1,2,4,5,6,7,8,10,11,12,13,23] (λg2=>[]) (λg2=>[(0,bb cx m1)]) (λg2=>?_) (λhm ak=>?_) λhm ak=>?_
   ·refine aP ?_;refine aB h λaH b5 h=>iv 2 underlying241 H0 MV b5 λeU c5=>?_;refine aP ?_;cases h;exact lq (eU,c5) 2
   ·have h:=gd ak b7;exact go
   have h:=gf ak b7;exact go
  cases h;exact kg (g1.1,g1.2) 0
 refine aP ?_;exact aq.ku (α:=gU) 0 [4,5,34] ⟨rfl,rfl,rfl,trivial⟩ I go
def Zi{hp ab aj r}(h:Cf hp ab aj=some r):hA prog 322 [J.of ab,J.of aj] hp (J.bR [J.of r.1,J.of r.2]) hp:=by
 unfold Cf at h;refine bJ.of func322 I ntmps322 I λW A=>?_;refine aP λbg bE=>?_;refine aB h λan bs h=>aB h λaH b5 h=>gu [0,1,2,3] ?_;refine ax.bU 2 (aM 6 [] [] _::aM 7 [0] [1] _::aM 8 [] [0] _::aM 9 [2] [] _::aM 10 [1,3] [] (J.bR [J.of aH.1,J.of aH.2])::aM 11 [4] [] _::aM 12 [4] [] _::aM 4 [5] [] _::aM 5 [6] [] _::[]) (eQ ?_ jJ) (λdJ=>?_)
 ·intro hd E' L' aK ar cb;exact ae.gE (eL.ht 2 (cb.trans I) Uq (Q1 b5) ⟨ai (aK _ _ I),ai (aK _ _ I),trivial⟩) I I I (ae.nil (aq.fin (fe []) I I))
 refine aq.ep (L2:=(bb bE aj::bb bg ab::aY hp)) I (ix ?_);exact go
instance:eV prog 77 _ _ _ K5 J.of J.of J.of:=.i func77 I ntmps77 I λab aj r h W A=>by
 unfold K5 at h;refine cf (pP λbg=>?_);refine pP λbE=>?_;refine c7 (gB ?_);refine o6 1 pL ?_;refine db (cq C5.fd) ?_;refine qE 0 wK cr ?_;refine aB h λan bs h=>nE Wu.bU (Wu.m _ _ _ bs) ?_;refine c7 (h6 (cf ?_));refine dr ?_;refine ea qk (b0 ?_);refine mU h (λh=>?_) λh=>?_
 ·refine cf (c7 (b0 (ax.ret (aq.ret ?_))));cases h;exact pR
 refine kY (ax.seq (aB h λaW dq h=>aB h λbP dI h=>aB h λaH b5 h=>aB h λbf eM h=>gu [0,1,2,3,4,5,8,9,10,11,12,13] ?_));refine ax.O7 mixed (aM 15 [] [] _::aM 16 [0] [1] _::aM 17 [] [] _::aM 18 [1,2] [] _::aM 19 [3] [] _::aM 20 [4] [] _::aM 21 [] [] _::aM 22 [6] [1] _::aM 23 [] [] _::aM 24 [7,8] [] _::aM 25 [9] [] _::aM 26 [10] [] _::aM 27 [5,11] [] _::aM 14 [12] [] _::aM 28 [13] [] _::aM 29 [13] [] _::aM 6 [14] [] _::aM 7 [15] [] _::[]) ⟨po (cq n3.fd),D2 1 qU lM,pn,iP λaK ar=>o0 (k:=aW) underlying27 jW (ai (aK _ _ I)) (ai (aK _ _ I)) (dt dq),iP λaK ar=>Af yW C2.fd (ai (aK _ _ I)) I I,po (kQ kB),po (cq n3.fd),D2 1 qU lM,pn,iP λaK ar=>o0 (k:=bP) underlying27 jW (ai (aK _ _ I)) (ai (aK _ _ I)) (dt dI),po (kQ jW),iP λaK ar=>jT VF.bU (VF.m _ _ b5) ⟨ai (aK _ _ I),trivial⟩,iP λaK ar=>jT Iq.bU (Iq.m _ _ _ eM) ⟨ai (aK _ _ I),ai (aK _ _ I),trivial⟩,pn,iP λaK ar=>Ah (ai (aK _ _ I)) I,iP λaK ar=>Ah (ai (aK _ _ I)) I,iP λaK ar=>cP (ai (aK _ _ I)),iP λaK ar=>cP (ai (aK _ _ I)),trivial⟩ λdJ=>?_;refine aq.ep (L2:=[bb bE aj,bb bg ab]) I (ix (aq.next (ax.seq (ax.seq ?_))));refine aB h λdc jt h=>aB h λbI fN h=>aB h λbZ hZ h=>ax.lB mixed 15 (rg 30 15) [[],[0],[1],[2],[2],[2],[2,5],[2],[2,6,7],[2,8],[2],[2,4,9,10],[2,3,11],[2,12],[2,13]] [_,_,_,_,_,_,_,_,_,_,_,_,_,_,_] ⟨hg,mx MW,hg,eR λL' ar=>λhb=>cT (ai I),eR λL' ar=>λhb=>j9 (i:=1) (aO.id aR) (r:=ab) pL (ai I) (ar _ _ I I) I I,eR λL' ar=>λhb=>cq n3.fd (ai I),eR λL' ar=>λhb=>j9 (i:=1) ((aO.id aR).comp qU) (r:=ab.bM) lM (cM I hb) (ar _ _ I I) I I,eR λL' ar=>λhb=>cT (ai I),eR λL' ar=>λhb=>o0 (k:=dc) underlying27 jW (cM I hb) (cM I hb) (dt (gW jt hb)),eR λL' ar=>λhb=>kQ jW (cM I hb),eR λL' ar=>λhb=>j9 (i:=0) (aO.id bD) (r:=aj) tQ (ai I) (ar _ _ I I) I I,eR λL' ar=>λhb=>jT agc (aaH (gW fN hb)) ⟨cM I hb,cM I hb,cM I hb,trivial⟩,eR λL' ar=>λhb=>jT Uy (Rg (gW hZ hb)) ⟨cM I hb,cM I hb,trivial⟩,eR λL' ar=>λhb=>pH (cM I hb),fW λar=>Dx (ai I) (ai I) (λh=>h),trivial⟩ (b0 ?_);refine mU h (λh=>?_) λh=>?_
 ·refine cf (c7 (b0 (ax.ret (aq.ret ?_))));cases h;exact pR
 refine kY (ax.seq (cf (db (cq HE.fd) ?_)));refine qE 0 y5 cr ?_;refine ea nz (b0 ?_);refine mU h (λh=>?_) λh=>?_
 ·refine cf (c7 (b0 (ax.ret (aq.ret ?_))));cases h;exact pR
 refine kY (cf (o6 1 pL ?_));refine db (cq HE.fd) ?_;refine qE 0 y5 cr ?_;refine aB h λcS iw h=>nE VE.bU (VE.m _ _ _ iw) ?_;refine c7 (h6 (cf ?_));refine dr ?_;refine ea qk (b0 ?_);refine mU h (λh=>?_) λh=>?_
 ·refine cf (c7 (b0 (ax.ret (aq.ret ?_))));cases h;exact pR
 refine kY (ax.seq (aB h λeW kZ h=>aB h λhP IN h=>aB h λdg lP h=>aB h λeB qB h=>gu [0,1,2,3,4,5,8,9,10,11,12,13,14,15,16,17,18,19,20,21,22,23,24,25,26,27,28,29,30,31,32,33,34,35,36,37,38,39,40,41,42,43,44,45,46,47,48,49,50,51,52,53] ?_));refine ax.O7 mixed (aM 55 [] [] _::aM 56 [0] [1] _::aM 57 [] [] _::aM 58 [1,2] [] _::aM 59 [3] [] _::aM 60 [4] [] _::aM 61 [] [] _::aM 62 [6] [1] _::aM 63 [] [] _::aM 64 [7,8] [] _::aM 65 [9] [] _::aM 66 [10] [] _::aM 67 [5,11] [] _::aM 54 [12] [] _::aM 68 [13] [] _::aM 69 [13] [] _::aM 6 [14] [] _::aM 7 [15] [] _::[]) ⟨po (cq Hz.fd),D2 1 BC Du,pn,iP λaK ar=>o0 (k:=eW) underlying26 tK (ai (aK _ _ I)) (ai (aK _ _ I)) (dt kZ),iP λaK ar=>Af Fy LY.fd (ai (aK _ _ I)) I I,po (kQ kB),po (cq Hz.fd),D2 1 BC Du,pn,iP λaK ar=>o0 (k:=hP) underlying26 tK (ai (aK _ _ I)) (ai (aK _ _ I)) (dt IN),po (kQ tK),iP λaK ar=>jT VD.bU (VD.m _ _ lP) ⟨ai (aK _ _ I),trivial⟩,iP λaK ar=>jT Iq.bU (Iq.m _ _ _ qB) ⟨ai (aK _ _ I),ai (aK _ _ I),trivial⟩,pn,iP λaK ar=>Ah (ai (aK _ _ I)) I,iP λaK ar=>Ah (ai (aK _ _ I)) I,iP λaK ar=>cP (ai (aK _ _ I)),iP λaK ar=>cP (ai (aK _ _ I)),trivial⟩ λiY=>?_;refine aq.ep (L2:=[bb bE aj,bb bg ab]) I (ix (aq.next (ax.seq ?_)));refine aB h λJn akM h=>aB h λiD xW h=>aB h λiy xI h=>ax.lB mixed 14 (rg 70 14) [[],[0],[1],[2],[2],[2,4],[2],[2,5,6],[2,7],[2],[2,9],[2,8,10],[2,3,11],[2,12]] [_,_,_,_,_,_,_,_,_,_,_,_,_,_] ⟨hg,mx nz,hg,eR λL' ar=>λhb=>cT (ai I),eR λL' ar=>λhb=>cq Hz.fd (ai I),eR λL' ar=>λhb=>j9 (i:=1) ((aO.id aR).comp BC) (r:=ab.dD) Du (cM I hb) (ar _ _ I I) I I,eR λL' ar=>λhb=>cT (ai I),eR λL' ar=>λhb=>o0 (k:=Jn) underlying26 tK (cM I hb) (cM I hb) (dt (gW akM hb)),eR λL' ar=>λhb=>kQ tK (cM I hb),eR λL' ar=>λhb=>cq HA.fd (ai I),eR λL' ar=>λhb=>j9 (i:=0) ((aO.id bD).comp Cd) (r:=aj.ho) Dw (cM I hb) (ar _ _ I I) I I,eR λL' ar=>λhb=>jT agd (aaf (gW xW hb)) ⟨cM I hb,cM I hb,trivial⟩,eR λL' ar=>λhb=>jT Uy (Rg (gW xI hb)) ⟨cM I hb,cM I hb,trivial⟩,fW λar=>xv (ai I) (ai I) (λh=>h),trivial⟩ ?_;refine c7 (b0 (ax.ret ?_));cases h;exact pR
def Q2{hp ab aj aI r}(h:zn hp ab aj aI=some r):hA prog 341 [J.of ab,J.of aj,J.of aI] hp (J.of r) hp:=by
 unfold zn at h;refine bJ.ofM func341 I ntmps341 I λW A=>aP λbg bE=>?_;refine aB h λan bs h=>ae.gE (eL.ht 2 I Uz (QX bs) ⟨ai I,ai I,ai I,trivial⟩) I I I (db pH (b0 ?_));refine mU h (λh=>?_) λh=>?_
 ·refine cf (ae.store (i:=0) (aO.id Ref) (v:=(none:Ref)) (b':=(none:Ref)) iK (ai I) mL I I I (b0 (ax.ret (aq.ret ?_))));cases h;exact aq.Dy (aq.dV () (ej 2) I I (mh (i:=0) iK I I))
 refine aP λbp cO c1 cY cx h=>?_;refine aB h λaH b5 h=>nE M0 (KV b5) (b0 (ax.block ?_));refine aB h λaz ao h=>RV (hp:=hp) (γ:=Unit) (g0:=()) (Ls:=λs1 g1=>(bb cx s1::bb bE (default:Ref)::bb bg aj::aY hp)) (Lx:=λau g1=>(bb cx au.1::bb bE au.2::bb bg aj::aY hp)) (λs1 g1=>[bb cx s1,bb bE (default:Ref),bb bg aj]) (λau=>.ret) I M1 I QH ao (λ_ _=>rfl) I I (λAL s1 r h g1 o8 pr o9 l D rec D3=>?_) (λs1 aC g1 D=>?_) (λau aC g1 D=>?_)
 ·refine ax.fc (c7 (ae.nil ?_));refine aq.begin 0 I D3 (ax.block (ax.seq (cf ?_)));refine o6 2 iK ?_;refine bn (zK underlying450 (ai I)) (b0 ?_);refine mU h (λh=>?_) λh=>?_
  ·refine cf (ae.store (i:=3) (aO.id Ref) (v:=(none:Ref)) (b':=(none:Ref)) iK (ai I) mL I I I ?_);refine aP ?_;cases h;exact aq.aea () 0 I I I
  refine aP λb6 ez aW dq c2 en h=>?_;cases h;exact aq.WD () 0 I
 ·clear ao;subst aC;simp only[Sum.elim_inl]at h;refine aq.dd ?_;refine aP ?_;cases h;refine aq.It 0 I I ?_;exact aq.dV () (ej 4) I I (mh (i:=2) iK I I)
 clear ao;subst aC;simp only[Sum.elim_inr]at h;refine ax.ret (aq.dd ?_);refine aq.sI (aq.ret ?_);cases h;refine aq.It 0 I I ?_;exact aq.dV () (ej 4) I I (mh (i:=2) iK I I)
def Yu{ab cG hC hD r}(h:BL ab=some r):bJ prog 358 [J.cV cG] [⟨some cG,.ck ({ab with cK:=[]}:dH) [(10,aZ hC ab.cK.length hD)]⟩,⟨hC,.row 186 ab.cK hD⟩] (δ:=Unit) (λd=>J.of r) (λd=>[⟨some cG,.ck ({ab with cK:=[]}:dH) [(10,aZ hC ab.cK.length hD)]⟩,⟨hC,.row 186 ab.cK hD⟩]):=by
 unfold BL at h;refine bJ.of func358 I ntmps358 I λW A=>cf (bn (cP (look_nil (α:=aJ))) ?_);refine aP ?_;refine bn (Hx underlying171 (ai I)) (b0 ?_);refine ax.tH (ai I) I (aP ?_);refine bn (fQ (i:=0) (q:=0) (β:=dH) (γ:=aJ) vt (ai I) I I) ?_;refine aB h λan bs h=>ae.gE (eL.call [1] age (aaw bs) ⟨ai I,trivial⟩ I ⟨rfl,trivial⟩ I) I I I (c7 (b0 (ax.ret ?_)));refine aq.bV 1 I (aq.bV 1 I ?_);cases h;exact ru ()
instance:pj prog 371 _ _ _ _ zz J.of J.of J.of J.of:=.i func371 I ntmps371 I λab aj aI r h W A=>by
 unfold zz at h;refine aP λbg bE cx=>?_;refine aB h λan bs h=>aB h λaH b5 h=>aB h λbf eM h=>aB h λbI fN h=>aB h λbZ hZ h=>aB h λcS iw h=>ax.e4 24 ?_;exact go
def aag{hp ab r}(h:zq hp ab=some r):hA prog 339 [J.of ab] hp (J.of r) hp:=by
 unfold zq at h;refine bJ.of func339 I ntmps339 I λW A=>?_;refine aP ?_;exact aB h λan bs h=>ae.gE (eL.ht 0 I agf (aae bs) ⟨ai I,trivial⟩) I I I go
def KP{hp ab aj r}(h:Cr hp ab aj=some r):hA prog 83 [J.of ab,J.of aj] hp (J.bR []) r:=by
 unfold Cr at h;refine bJ.of func83 I ntmps83 I λW A=>?_;refine aP λbg=>?_;refine aB h λan bs h=>ae.dz 1 0 I UA (QV bs) I I ⟨ai I,ai I,c8 1,trivial⟩ I λau=>ae.dd (ae.nil ?_);exact aq.kc go
def Ko{hp ab aj r}(h:B3 hp ab aj=some r):hA prog 86 [J.of ab,J.of aj] hp (J.bR []) r:=by
 unfold B3 at h;refine bJ.of func86 I ntmps86 I λW A=>?_;refine aP λbg=>?_;refine aB h λan bs h=>ae.dz 1 0 I UA (QV bs) I I ⟨ai I,ai I,c8 (-1),trivial⟩ I λau=>ae.dd (ae.nil ?_);exact aq.kc go
def Yv{hp ab Q}(h:FU hp ab Q):kl prog 44 [J.of ab] hp Q:=by
 unfold FU at h;refine bJ.of func44 I ntmps44 I λW A=>cf (bn (cP (look_nil (α:=b8))) (gB ?_));refine ae.own (α:=b8) 200 (bn (cP mb) ?_);refine aP ?_;refine ae.dz 1 0 I aix (Z2 h) I I ⟨ai I,trivial⟩ I λ⟨⟨an,h⟩,au⟩=>ae.dd ?_;refine aP ?_;refine ah.bB h λaz ao h=>xT (σ:=Int×(aa b8)) (ε:=(Int×Bool×(aa b8))) (γ:=(av Nat×Nat)) (δ:=(av Nat×Nat)) ao 1 [0,2,7,8] (λs1 g1=>[(3,J.eq (aZ g1.1 s1.2.length g1.2)),(9,J.of s1.1)]) (λs1 g1=>[(0,⟨g1.1,.row 200 s1.2 g1.2⟩)]) (λs1 g1=>aY an.2) (λcD=>Exit.exit 0) (λcD g1=>[(3,J.eq (aZ g1.1 cD.2.2.length g1.2)),(9,J.of cD.1),(10,J.of cD.2.1)]) (λcD g1=>[(0,⟨g1.1,.row 200 cD.2.2 g1.2⟩)]) (λcD g1=>aY an.2) (none,0) (λs1 r h g1=>?_) (λg1=>?_)
 ·refine go2 (λaW dq bg br eG h=>?_) (λh=>?_)
  ·refine aB h λm1 b7 h=>xU (γ:=(av Nat×Nat)) 2 [0,2,5,7,8,9,10,20] (λg2=>[(3,J.eq (aZ g2.1 m1.length g2.2))]) (λg2=>[(1,⟨g2.1,.row 200 m1 g2.2⟩)]) (λg2=>aY an.2) (λg2=>?_) (λhm ak=>?_) (λhm ak=>?_)
   ·refine aP ?_;cases h;exact lq (g2.1,g2.2) 1
   ·have h:=gd ak b7;refine aP ?_;refine aB h λaH b5 h=>iv 1 underlying93 Ag H4 b5 λeU c5=>?_;refine c7 (ae.nil ?_);cases h;exact eA 0 (hm (eU,c5))
   have h:=gf ak b7;refine ax.skip ?_;cases h;exact eA 0 (hm (g1.1,g1.2))
  cases h;exact kg (g1.1,g1.2) 0
 refine aP ?_;exact aq.ku (α:=b8) 0 [2,3,27] ⟨rfl,rfl,rfl,trivial⟩ I (aq.dV (⟨⟨(az.2.2,an.2),h⟩,()⟩: {r // _}×_) (ej 1) I I (c9 I))
def YQ{ab aj r}(h:F1 ab aj=some r):cn prog 140 [J.of ab,J.of aj] (J.of r):=by
 unfold F1 at h;refine cn.of func140 I ntmps140 I λW A=>?_;exact go
def ZN{ab aj r}(h:Gu ab aj=some r):cn prog 68 [J.ptr ab,J.ptr aj] (J.of r):=by
 unfold Gu at h;refine cn.of func68 I ntmps68 I λW A=>?_;exact go
def ZO{ab aj r}(h:Gw ab aj=some r):cn prog 76 [J.ptr ab,J.ptr aj] (J.of r):=by
 unfold Gw at h;refine cn.of func76 I ntmps76 I λW A=>?_;exact go
def Q5{hp ab aj aI r}(h:wV hp ab aj aI=some r):hA prog 335 [J.of ab,J.of aj,J.of aI] hp (J.bR [J.of r.1,J.of r.2]) hp:=by
 unfold wV at h;refine bJ.of func335 I ntmps335 I λW A=>?_;refine aP λbg=>?_;exact aB h λan bs h=>ae.gE (eL.ht 1 I UB (Q2 bs) ⟨ai I,ai I,ai I,trivial⟩) I I I go
def Zj{hp ab aj r}(h:Cg hp ab aj=some r):hA prog 354 [J.of ab,J.of aj] hp (J.bR [J.of r.1,J.of r.2]) hp:=by
 unfold Cg at h;refine bJ.of func354 I ntmps354 I λW A=>?_;refine aP λbg bE=>?_;refine aB h λbp cO h=>aB h λc1 cY h=>aB h λan bs h=>ae.gE (eL.obj 2 I (xp cY) agh (Yu bs) I ⟨ij (ai I) cO,trivial⟩) I I I ?_;refine aP ?_;refine aB h λaz ao h=>xT (σ:=Int) (ε:=(Int×Bool)⊕(Int×Bool×Int×Bool×Bool)) (γ:=Unit) (δ:=Unit) ao 2 [0,1,2,3,10,11] (λs1 g1=>[(4,J.of (0:Int)),(5,J.of false),(12,J.of s1)]) (λs1 g1=>[]) (λs1 g1=>aY hp) (λau=>Sum.elim (λau=>Exit.exit 0) (λau=>Exit.ret) au) (λau g1=>Sum.elim (λau=>[(4,J.of (0:Int)),(5,J.of false),(12,J.of au.1),(13,J.of au.2)]) (λau=>[(4,J.of au.1),(5,J.of au.2.1),(12,J.of au.2.2.1),(13,J.of au.2.2.2.1),(19,J.of au.2.2.2.2)]) au) (λau g1=>[]) (λau g1=>Sum.elim (λau=>aY hp) (λau=>aY hp) au) () (λs1 r h g1=>?_) (λg1=>?_)
 ·exact go
 rcases az with az|az
 ·simp only[Sum.elim_inl]at h;exact go
 simp only[Sum.elim_inr]at h;exact go
def aah{hp ab aj aI cy Q}(h:zr hp ab aj aI cy Q):kl prog 337 [J.of ab,J.of aj,J.of aI,J.of cy] hp Q:=by
 unfold zr at h;refine bJ.ofM func337 I ntmps337 I λW A=>aP λbg=>?_;refine ah.bB h λan bs h=>ae.gE (eL.ht 1 I Uz (QX bs) ⟨ai I,ai I,ai I,trivial⟩) I I I (go2 (λh=>?_) (λh=>?_))
 ·exact aq.Dy (aq.dV (⟨⟨(false,hp),h⟩,()⟩: {r // _}×_) (ej 1) I I (c9 I))
 refine ah.bB h λaH b5 h=>ae.gE (eL.ht 1 I UB (Q2 b5) ⟨ai I,ai I,ai I,trivial⟩) I I I (go2 (λbp cO c1 cY h=>?_) (λbp cO c1 cY b6 ez c2 en h=>?_))
 ·exact aq.Dy (aq.dV (⟨⟨(false,hp),h⟩,()⟩: {r // _}×_) (ej 1) I I (c9 I))
 refine AF (γ:=Unit) h 1 [0,1,2,3,5,8,9,16,28,33] (λm1 g1=>[]) (λm1 g1=>[]) (λm1 g1=>aY m1) (λm1 g1 h=>?_) (λhm ak h=>?_) (λhm ak h=>?_)
 ·refine aP λdM jF bE h=>?_;refine ah.bB h λbf eM h=>nE M0 (KV eM) (b0 (ax.block ?_));refine abp (σ:=Ref×(aE Cell)) (ε:=Empty) (γ:=Unit) (g0:=()) (Ls:=λs2 g3=>(bb bE s2.1::bb bg aj::aY s2.2)) (Lx:=λcD g3=>Empty.elim cD) (hq:=λs2=>s2.2) (λs2 g3=>[bb bE s2.1,bb bg aj]) (λcD=>Empty.elim cD) I M1 I Y0 h (λ_ _=>rfl) I I (λIP s2 R h g3 o8 pr o9 l D rec D3=>?_) (λs2 h g3 D=>?_) (λcD h g3 D=>?_)
  ·refine ax.fc (c7 (ae.nil ?_));refine aq.begin 0 I D3 ?_;refine aP λfX pS aW dq gy qD h=>?_;refine AF (γ:=Unit) h 4 [0,1,2,3,5,8,9,10,11,16,28,33,46,47,54] (λm2 g4=>[]) (λm2 g4=>[]) (λm2 g4=>aY m2) (λm2 g4 h=>?_) (λhm ak h=>?_) (λhm ak h=>?_)
   ·refine aP λbP dI ia sP h=>?_;exact aq.aiy h () 0 I
   ·refine ax.fc (o6 2 iK ?_);refine dr ?_;refine qA UC UD (default:dT) .nil ?_;refine ae.vq 4 I (Cell.fT (default:dT)) (λ_=>rfl) (ai I) I λbK oq=>?_;replace h:=ah.nZ h bK oq;refine aP λdc jt h=>?_;exact ah.bB h λib sQ h=>ah.bB h λbH fy h=>ae.n2 (k':=Cell.fT ({ib with cX:=iq ib.cX dc (some bK.1:Ref)}:dT)) 4 I (((aO.id dT).comp yZ).comp (aO.idx (α:=Ref) 2 dc (dt jt).1)) (v:=(some bK.1:Ref)) iK (ai I) (ai I) (pE sQ) I I I I (dh fy) (ae.nil (eA 0 (hm bH () h)))
   exact ax.skip (eA 0 (hm s2.2 () h))
  ·simp only[Sum.elim_inl]at h;refine aq.dd ?_;refine aq.q7 (aq.next (ax.seq (ah.bB h λur WB h=>ah.bB h λA8 WE h=>ah.bB h λcw xG h=>gu [3,8,10] ?_)));refine ax.x0 mixed [5,6] [(0,68,J.of s2.1),(1,69,J.of s2.1),(2,70,J.of cy),(3,71,J.cV ur),(4,72,J.lE ur B9)] ?_;refine fM.md [] [0,1,2,3,4] [5] ⟨?_,trivial⟩;refine gP.of (ks:=[]) (λx:Unit=>[]) (λx=>[]) (λx=>(⟨some D,.e8⟩::bb bE s2.1::bb bg aj::aY cw)) (λ_=>?_) (λo aS ea hM aK k=>?_)
   ·refine fM.md [4,3,0] [1,2] [6] ⟨gP.tail [5,4,3,2,1,0] ?_,trivial⟩;refine ae.ep (L2:=(⟨some D,.e8⟩::bb bE s2.1::bb bg aj::aY cw)) I (ae.le (E':=[(3,J.of cy),(8,J.of false),(10,J.cV bE),(69,J.of s2.1),(70,J.of cy)]) .all ?_);refine aP λO8 ane h=>?_;refine ah.bB h λA9 WG h=>ah.bB h λgC Dn h=>ae.n2 (k':=Cell.fT ({A9 with jr:=cy}:dT)) 3 I ((aO.id dT).comp Gz) (v:=cy) cr (ai I) (ai I) (pE WG) I I I I (dh Dn) (aP ?_);refine aq.It 0 I I ?_;exact aq.dV (⟨⟨(true,gC),h⟩,()⟩: {r // _}×_) (ej 3) I I (c9 I)
   cases aS;exact ae.n2 (k':=Cell.fT ({A8 with fx:=true}:dT)) 3 I ((aO.id dT).comp B9) (v:=true) nF (ai (aK I)) (gI true) (pE WE) I I I I (dh xG) (ae.nil (k ()))
  exact Empty.elim cD
 ·refine ax.fc (dr ?_);refine qA UC UD (default:dT) .nil ?_;refine ae.vq 1 I (Cell.fT (default:dT)) (λ_=>rfl) (ai I) I λa2 tY=>?_;replace h:=ah.nZ h a2 tY;refine aP ?_;exact ah.bB h λvZ AM h=>ah.bB h λow NH h=>ae.n2 (k':=Cell.jX ({vZ with ek:=(some a2.1:Ref)}:ga)) 1 I ((aO.id ga).comp Gf) (v:=(some a2.1:Ref)) iK (ai I) (ai I) (va AM) I I I I (dh NH) (ae.nil (eA 0 (hm ow () h)))
 exact ax.skip (eA 0 (hm hp () h))
def Yw{ab aj aI r}(h:y3 ab aj aI=some r):cn prog 365 [J.ptr ab,J.of aj,J.of aI] (J.of r):=by
 unfold y3 at h;refine cn.of func365 I ntmps365 I λW A=>?_;refine aP λbg bE=>?_;refine aB h λan bs h=>ax.e4 7 ?_;refine aP (λh=>?_);refine aB h λaH b5 h=>ax.e4 7 ?_;exact go
def Yj{hp ab Q}(h:Bz hp ab Q):kl prog 27 [J.of ab] hp Q:=by
 unfold Bz at h;refine bJ.of func27 I ntmps27 I λW A=>cf (bn (cP (look_nil (α:=b8))) ?_);refine go2 (λh=>?_) (λbp cO c1 cY h=>?_)
 ·refine bn (cP (look_nil (α:=b8))) (b0 (ax.ret (aq.ret ?_)));exact aq.dV (⟨⟨(([]:aa b8),hp),h⟩,()⟩: {r // _}×_) (.refl _) I I (c9 I)
 refine ae.dz 0 0 I aiz (Yv h) I I ⟨ai I,trivial⟩ I λ⟨⟨an,h⟩,au⟩=>ae.dd ?_;refine c7 (b0 (ax.ret ?_));exact aq.dV (⟨⟨(an.1,an.2),h⟩,()⟩: {r // _}×_) (.refl _) I I (c9 I)
end Go.Proofs.YtdadopcnkghbaaaGreat
