/-
  Each function meets its functional program. Conditions: none.
-/
import Derived.Test.YtdadopcnkghbaaaGreatMd
import Derived.Test.YtdadopcnkghbaaaGreatMc0
set_option linter.defProp false
set_option linter.unusedVariables false
set_option linter.unusedSimpArgs false
set_option maxRecDepth 100000
set_option maxHeartbeats 2000000
namespace Go.Proofs.YtdadopcnkghbaaaGreat
open Go Gv Go.Proofs.Tryz
attribute [local irreducible] ae az ar bc aP ei fl fC J.of J.ptr J.eq J.cond J.bY
instance:ea prog 116 _ _ _ NM J.of J.of J.of:=.i func116 I ntmps116 I λab aj r h W A=>by
 unfold NM at h;refine aL ?_;refine aA h λau ao h=>fc (γ:=Unit) (δ:=Unit) ao [0,1,7] (λs1 g1=>[(4,J.of (0:Int)),(8,J.of s1)]) (λs1 g1=>[]) (λaq=>Sum.elim (λaq=>Exit.exit 0) (λaq=>Exit.ret) aq) (λaq g1=>Sum.elim (λaq=>[(4,J.of (0:Int)),(8,J.of aq.1),(9,J.of aq.2)]) (λaq=>[(4,J.of aq.1),(5,J.of aq.2.1),(8,J.of aq.2.2.1),(9,J.of aq.2.2.2.1),(16,J.of aq.2.2.2.2)]) aq) (λaq g1=>[]) () (λs1 r h g1=>?_) λg1=>?_
 ·exact go
 rcases au with au|au
 ·simp only[Sum.elim_inl]at h;exact go
 simp only[Sum.elim_inr]at h;exact go
def adv{ab aj r}(h:IS ab aj=some r):cm prog 159 [J.of ab,J.ptr aj] (J.of r):=by
 unfold IS at h;refine cm.of func159 I ntmps159 I λW A=>?_;exact go
def acq{ab aj r}(h:MT ab aj=some r):cm prog 158 [J.of ab,J.tl prog aj] (J.of r):=by
 unfold MT at h;refine cm.of func158 I ntmps158 I λW A=>?_;refine aL ?_;refine aA h λau ao h=>fc (γ:=Unit) (δ:=Unit) ao [0,1,7] (λs1 g1=>[(4,J.of (0:Int)),(8,J.of s1)]) (λs1 g1=>[]) (λaq=>Sum.elim (λaq=>Exit.exit 0) (λaq=>Exit.ret) aq) (λaq g1=>Sum.elim (λaq=>[(4,J.of (0:Int)),(8,J.of aq.1),(9,J.of aq.2)]) (λaq=>[(4,J.of aq.1),(5,J.of aq.2.1),(8,J.of aq.2.2.1),(9,J.of aq.2.2.2.1),(16,J.of aq.2.2.2.2)]) aq) (λaq g1=>[]) () (λs1 r h g1=>?_) λg1=>?_
 ·refine aL (λaJ cQ h=>?_);refine aA h λan bs h=>bk (zB (ag I) (ag I) bs) ?_;exact go
 rcases au with au|au
 ·simp only[Sum.elim_inl]at h;exact go
 simp only[Sum.elim_inr]at h;exact go
instance:gx prog 165 _ _ NN J.of J.of:=.i func165 I ntmps165 I λab r h W A=>by
 unfold NN at h;refine b6 (bk (cV (look_nil (α:=ByteArray))) ?_);refine aL (λh=>?_);refine bk (cV (look_nil (α:=ByteArray))) ?_;exact go
def Vo{ab r}(h:xl ab=some r):cm prog 161 [J.of ab] (J.of r):=by
 unfold xl at h;refine cm.of func161 I ntmps161 I λW A=>?_;exact go
instance anf:gx prog 161 _ _ xl J.of J.of:=
 ⟨⟨_,func161,rfl,by kernel_rfl⟩,λ_ _ h=>Vo h⟩
instance Zw:gx prog 123 _ _ Jc J.of J.of:=.i func123 I ntmps123 I λab r h W A=>by
 unfold Jc at h;refine b6 (ny λbj=>?_);refine bk (cV (look_nil (α:=iW))) (fD ?_);refine ae.own (α:=iW) 289 (bk (cV k2) ?_);refine aL ?_;refine aA h λau ao h=>fc (γ:=(aw Nat×Nat)) (δ:=(aw Nat×Nat)) ao [0,1,2,7,8] (λs1 g1=>[(3,J.eq (aO g1.1 s1.2.length g1.2)),(9,J.of s1.1)]) (λs1 g1=>[(0,⟨g1.1,.row 289 s1.2 g1.2⟩)]) (λaq=>Exit.exit 0) (λaq g1=>[(3,J.eq (aO g1.1 aq.2.2.length g1.2)),(9,J.of aq.1),(10,J.of aq.2.1)]) (λaq g1=>[(0,⟨g1.1,.row 289 aq.2.2 g1.2⟩)]) (none,0) (λs1 r h g1=>?_) λg1=>?_
 ·refine go2 (λaJ cQ bB bg ej h=>?_) (λh=>?_)
  ·refine aA h λan bs h=>fF 1 underlying238 F2 Qr bs λed dq=>?_;refine aL ?_;cases h;exact hY (ed,dq) 1
  cases h;exact ho (g1.1,g1.2) 0
 refine aL ?_;exact ar.jW (α:=iW) 0 [2,3,20] ⟨rfl,rfl,rfl,trivial⟩ I go
def ER{hp ab aj r}(h:sK hp ab aj=some r):iG prog 93 [J.of ab,J.of aj] hp (J.of r) hp:=by
 unfold sK at h;refine bR.of func93 I ntmps93 I λW A=>b6 (bk (cV ou) ?_);refine go2 (λh=>?_) (λbz dd c1 dj h=>?_)
 ·refine bk (cV ou) ?_;exact go
 refine aA h λcc eS h=>aA h λc2 eX h=>aA h λbg ej h=>bk (vF (r:=bg) underlying127 AD Ye (k1 (ag I) eS) (ag I) (jc (n:=0) I (xw eX) I) (cZ ej)) ?_;exact go
instance:gx prog 327 _ _ xg J.of J.of:=.i func327 I ntmps327 I λab r h W A=>by
 unfold xg at h;refine aL λbj bB bX=>?_;refine aA h λan bs h=>bk (FJ underlying50 sf (ag I) .none (.some (ag I)) bs) ?_;refine aL ?_;refine aA h λau ao h=>fc (γ:=Unit) (δ:=Unit) ao [0,1,2,3,12,13] (λs1 g1=>[(14,J.of s1.1)]) (λs1 g1=>[(0,a8 bX s1.2)]) (λaq=>Exit.exit 0) (λaq g1=>[(14,J.of aq.1),(15,J.of aq.2.1)]) (λaq g1=>[(0,a8 bX aq.2.2)]) () (λs1 r h g1=>?_) λg1=>?_
 ·exact go
 exact go
def US{hp ab aj r}(h:BO hp ab aj=some r):iG prog 326 [J.of ab,J.of aj] hp (J.bY [J.of r.1,J.of r.2]) hp:=by
 unfold BO at h;refine bR.of func326 I ntmps326 I λW A=>?_;refine aL (λbj h=>?_);refine aA h λbz dd h=>aA h λc1 dj h=>aA h λcc eS h=>aA h λc2 eX h=>aA h λbg ej h=>gU [0,1,3,4,5,8,9] ?_;refine az.cf 1 (aQ 11 [] [] _::aQ 12 [0] [] _::aQ 13 [1] [] _::aQ 14 [2] [] _::aQ 15 [] [0] _::aQ 16 [3,4] [] (J.bY [J.of (bg.getD default),J.of bg.isSome])::aQ 10 [5] [] _::aQ 17 [6] [] _::aQ 18 [6] [] _::aQ 6 [7] [] _::aQ 7 [8] [] _::[]) (fo ?_ kT) (λek=>?_)
 ·intro hd E' L' aM av cC;refine bk (Pe (r:=bg) underlying218 K0 pb (k1 (ag (aM _ _ I)) eS) (ag (aM _ _ I)) (jc (n:=1) (cC.trans I) (ur eX) I) (cZ ej)) (ae.nil ?_);exact ar.fin (fK []) I I
 refine ar.eL (L2:=(a8 bj aj::a6 hp)) I (je ?_);exact go
instance:ea prog 340 _ _ _ IE J.of J.of (λr=>J.bY [J.of r.1,J.of r.2]):=.i func340 I ntmps340 I λab aj r h W A=>by
 unfold IE at h;refine aL λbj bB bX ey aJ cQ pj bE dJ h=>?_;refine gU [0,1,2,3,4,5,6,7,8,9,10,11,12,13,14] ?_;refine az.Bb 5 (aQ 15 [] [3] _::aQ 16 [] [0] _::j9 [0] [2] [2] (λhd=>a8 bX ((dS aj bE (default:aV)):Vector aV 4))::j9 [1] [1] [1] (λhd=>a8 ey ((cu aj aJ):aV))::[]) (λek=>?_);refine ar.eL (L2:=[a8 pj (cu aj aJ:aV),a8 ey ((cu aj aJ):aV),a8 bX ((dS aj bE (default:aV)):Vector aV 4),a8 bB (dS aj bE (default:aV):Vector aV 4),a8 bj ab]) I (je ?_);exact go
def N6{ab aj aG r}(h:E9 ab aj aG=some r):cm prog 343 [J.of ab,J.of aj,J.of aG] (J.kE 346 [J.ptr r.1,J.ptr r.2.1,J.ptr r.2.2]):=by
 unfold E9 at h;refine cm.of func343 I ntmps343 I λW A=>?_;refine aL λbj bB bX=>?_;refine bk (cV (KB .nilFunc)) (fD ?_);refine ae.share (α:=Int) 0 5 I I (ae.share (α:=aV) 1 4 I I (ae.share (α:=Ref) 2 3 I I (bk (F3 (f:=346) (τs:=[J.ptr aG,J.ptr aj,J.ptr ab]) ⟨ag I,ag I,ag I,trivial⟩) ?_)));exact go
instance:gx prog 227 _ _ Iu J.of J.of:=.i func227 I ntmps227 I λab r h W A=>by
 unfold Iu at h;refine b6 (bk (cV (look_nil (α:=ct))) ?_);refine aL ?_;refine bk (Yf underlying50 (ag I)) (b7 ?_);refine az.Yg (ag I) (λal=>?_) ?_
 ·subst al;replace h:=VI h;subst h;have h:some ([]:aa ct)=some []:=rfl;refine b6 (bk (cV (look_nil (α:=ct))) (b7 (az.ret (ar.ret ?_))));replace h:=cZ h;exact pd
 refine k8 (b6 (ae.sa (α:=ct) (r:=([]:aa ct)) underlying50 sf xW I I (.nil) I λed=>cJ ?_));refine aA h λan bs h=>fF 0 underlying50 sf xW bs λj0 dq=>?_;refine cO (b7 (az.ret ?_));exact ar.jW (α:=ct) 0 [2,7] ⟨rfl,rfl,trivial⟩ I go
instance:ea prog 71 _ _ _ Eu J.of J.of J.of:=.i func71 I ntmps71 I λab aj r h W A=>by
 unfold Eu at h;exact go
instance Zx:ea prog 117 _ _ _ Jv J.of J.of J.of:=.i func117 I ntmps117 I λab aj r h W A=>by
 unfold Jv at h;refine aL λbj bB=>?_;refine ae.share (α:=Int) 0 3 I I (bk (zK (F:=(λa0=>IS a0 aj)) (τs:=[J.ptr aj]) akp ⟨ag I,trivial⟩ (λ_ _ h=>adv h)) ?_);refine aA h λan bs h=>lD akq (acq bs) ?_;exact go
instance Zy:gx prog 120 _ _ Jm J.of J.of:=.i func120 I ntmps120 I λab r h W A=>by
 unfold Jm at h;refine b6 (ny λbj=>?_);refine bk (cV (look_nil (α:=iW))) (fD ?_);refine ae.own (α:=iW) 289 (bk (cV k2) ?_);refine aL ?_;refine aA h λau ao h=>fc (γ:=(aw Nat×Nat)) (δ:=(aw Nat×Nat)) ao [0,1,2,9,10] (λs1 g1=>[(3,J.eq (aO g1.1 s1.2.length g1.2)),(11,J.of s1.1)]) (λs1 g1=>[(0,⟨g1.1,.row 289 s1.2 g1.2⟩)]) (λaq=>Exit.exit 0) (λaq g1=>[(3,J.eq (aO g1.1 aq.2.2.length g1.2)),(11,J.of aq.1),(12,J.of aq.2.1)]) (λaq g1=>[(0,⟨g1.1,.row 289 aq.2.2 g1.2⟩)]) (none,0) (λs1 r h g1=>?_) λg1=>?_
 ·refine go2 (λaJ cQ bB an bs h=>?_) (λh=>?_)
  ·refine aA h λaW ao h=>fc (γ:=(aw Nat×Nat)) (δ:=(aw Nat×Nat)) ao [0,1,2,5,9,10,11,12,17,18] (λs2 g2=>[(3,J.eq (aO g2.1 s2.2.length g2.2)),(19,J.of s2.1)]) (λs2 g2=>[(1,⟨g2.1,.row 289 s2.2 g2.2⟩)]) (λcA=>Exit.exit 2) (λcA g2=>[(3,J.eq (aO g2.1 cA.2.2.length g2.2)),(19,J.of cA.1),(20,J.of cA.2.1)]) (λcA g2=>[(1,⟨g2.1,.row 289 cA.2.2 g2.2⟩)]) (g1.1,g1.2) (λs2 r h g2=>?_) λg2=>?_
   ·refine go2 (λbE dJ bg ej h=>?_) (λh=>?_)
    ·refine aA h λaF b5 h=>fF 1 underlying238 F2 Qr b5 λed dq=>?_;refine aL ?_;cases h;exact hY (ed,dq) 0
    cases h;exact ho (g2.1,g2.2) 0
   refine aL ?_;cases h;exact hY (g2.1,g2.2) 1
  cases h;exact ho (g1.1,g1.2) 0
 refine aL λz2 iD h=>?_;refine aA h λbd dY h=>fF 0 underlying238 F2 Qr dY λj0 ly=>?_;refine cO (b7 (az.ret ?_));exact ar.jW (α:=iW) 0 [2,35] ⟨rfl,rfl,trivial⟩ I go
instance Lp:ea prog 119 _ _ _ Jy J.of J.of (λr=>J.bY [J.of r.1,J.of r.2]):=.i func119 I ntmps119 I λab aj r h W A=>by
 unfold Jy at h;refine b6 (bk (cV (look_nil (α:=py))) ?_);refine aL ?_;refine bk (z7 underlying9 (ag I) (gM (ByteArray.mk #[]))) ?_;refine aL (λh=>?_);cases h
instance:gx prog 172 _ _ Jz J.of J.of:=.i func172 I ntmps172 I λab r h W A=>by
 unfold Jz at h;exact go
theorem apM:c4 prog 290 (⟨.slice none 0 0⟩:eu):=⟨_,.slice none 0 0,rfl,by kernel_rfl,λ_ _=>xO.2 ⟨rfl,rfl⟩⟩
theorem LS:bK prog 290 eu:=bK.of (by rfl) underlying290 (by kernel_rfl)
theorem LU:bK prog 292 eu:=bK.of (by rfl) underlying292 (by kernel_rfl)
theorem aaO:c4 prog 292 (⟨.nilIface⟩:eu):=⟨_,.nilIface,rfl,by kernel_rfl,λ_ _=>xO.2 ⟨rfl,rfl⟩⟩
def akr{p:Nat}{key:aw Nat}{cap:Nat}{x:eu}:bR prog 166 [J.of (0:Int),J.df p] [a8 p (⟨aO key 1 cap⟩:eu),⟨key,.row 292 [x] cap⟩] (δ:=Unit) (λ_=>J.of x) (λ_=>[a8 p (⟨aO key 1 cap⟩:eu),⟨key,.row 292 [x] cap⟩]):=by
 refine bR.of func166 I ntmps166 I λW A=>b6 (bk (cV (KB .nilIface)) (ht (b6 ?_)));refine cJ ?_;refine ef o3 ?_;refine cJ ?_;refine jM (λhb=>c8 (ag I)) ?_;refine jM (λhb=>gA (aN.id eu) LS (ag I) (i:=0) I I I) ?_;refine jM (λhb=>oZ (i:=1) (xs:=[x]) underlying290 (PA (b1 I hb)) I I) ?_;refine jM (λhb=>K1 (b1 I hb) (b1 I hb)) ?_;refine RJ (b7 ?_);refine az.vO (ag I) (by decide) (az.skip (ar.next ?_));refine b6 (n2 0 LS ?_);refine cJ ?_;refine bk (lU (i:=1) (k:=0) (xs:=[x]) underlying290 LU (PA (ag I)) (ag I) I ⟨by simp,rfl⟩) ?_;refine bk (sU (i:=1) (k:=0) (xs:=[x]) (aN.id eu) (r:=x) LU (ag I) I (by simp) I I) ?_;refine cO (b7 (az.ret ?_));exact tk ()
def aks:bD prog 161:=⟨_,func161,rfl,by kernel_rfl⟩
def aiP:bD prog 166:=⟨_,func166,rfl,by kernel_rfl⟩
def akt{b:Bool}{name:String}(hm:((prog.info? 293).bind λi=>(i.methods.find? (λx=>x.name==name)).map λm=>(m.path.size,m.func))=some (0,some (263,false))):mJ prog name (J.of (⟨.iface 293 (.bool b)⟩:eu)) [] [] (λ_:Unit=>J.of b) (λ_=>[]):=by
 refine mJ.of (t:=293) (f:=263) (σ:=J.of b) (kU.uP hm underlying293 I ⟨_,func263,rfl,by kernel_rfl⟩) (λA W u h=>⟨_,(xO.1 h).1,of_bool.2 I⟩) ?_;refine bR.of func263 I ntmps263 I λW A=>b6 (bk (cV (hN _)) (fD ?_));refine cJ ?_;refine cO (b7 (az.ret ?_));exact tk ()
def U9{ab aj r}(h:JI ab aj=some r):cm prog 121 [J.of ab,J.of aj] (J.of r):=by
 unfold JI at h;split at h
 ·rename_i n;cases pU:(n.fX==2)with
  |false=>rw[pU]at h;cases h
  |true=>
  rw[pU]at h;replace h:(xl 1#64).bind (λv=>some (decide (n.bV=v)))=some r:=h;have ang:n.fX=2:=by simpa using pU
  refine aA h λv ba h=>?_;have aD:decide (n.bV=v)=r:=by simpa using h
  subst aD;refine cm.of func121 I ntmps121 I λW A=>b6 (bk (cV (hN _)) (fD ?_));refine pQ apM λpj=>fD ?_;refine bk (F3 (f:=166) (τs:=[J.df pj]) ⟨ag I,trivial⟩) ?_;refine cO (ht (b6 ?_));refine cJ ?_;refine db (xP underlying235) ?_;refine cJ (b7 (az.block ?_));refine az.K2 (σ:=Bool) (ε:=Unit) (γ:=aw Nat×Nat) (δ:=aw Nat×Nat) (N:=2) (b:=λs=>some (bif s then .inr ()else .inl true)) (s0:=false) (e:=()) I
   (λs g=>[(12,J.of (bif s then 1 else 0:Int)),(10,J.of [n]),(11,J.of (([n]:aa py).length:Int)),(6,J.kE 166 [J.df pj]),(5,J.df pj),(0,J.of [n])])
   (λs g=>bif s then [a8 pj (⟨aO g.1 1 g.2⟩:eu),⟨g.1,.row 292 [(⟨.iface 293 (.bool (decide (n.bV=v)))⟩:eu)] g.2⟩]else [a8 pj (⟨.slice none 0 0⟩:eu)])
   (λ_=>.exit 0) (λ_ g=>[(6,J.kE 166 [J.df pj]),(0,J.of [n])]) (λ_ g=>[a8 pj (⟨aO g.1 1 g.2⟩:eu),⟨g.1,.row 292 [(⟨.iface 293 (.bool (decide (n.bV=v)))⟩:eu)] g.2⟩]) (none,0) I (by repeat (first|exact eN.nil|refine eN.same I ?_)) (λs r hs g=>?_) λg=>?_
  ·cases s with
   | false=>
     cases hs
     refine b6 (ef o3 (ht ?_))
     refine az.F0 (ag I) (by rfl) ?_
     refine k8 (az.seq (az.block (b6 (GS (j:=0) (xs:=[n]) I underlying235 K3 ?_))))
     refine db (jE K3) ?_
     refine pQ aku λarw=>?_
     refine AB 0 K3 (fD ?_)
     refine db (cg ahC.fd) ?_
     refine nz 0 UH b8 (b7 (az.block ?_))
     refine b6 (ef mh ?_)
     refine cO (b7 ?_)
     refine az.vO (ag I) (by show(n.fX==1)=false;rw[ang];rfl) ?_
     refine b6 (ef mh ?_)
     refine cO (b7 ?_)
     refine az.F0 (ag I) pU (az.lk mixed 7 (rg 44 7) [[],[],[1],[],[2,3],[4],[5]] [_,_,_,_,_,J.of (⟨.iface 293 (.bool (decide (n.bV=v)))⟩:eu),J.of [(⟨.iface 293 (.bool (decide (n.bV=v)))⟩:eu)]] ⟨ki 1 (aN.id eu) LS,H1 (cg ahD.fd),ki 0 Ur hV,n4 aks (anf.m _ _ ba) (λ_=>⟨vB 1#64 I,trivial⟩),mZ (Yh xQ I Yi I),H1 (λal=>KD underlying293 I al λA W u h=>xO.2 ⟨by rw[of_bool.1 h],rfl⟩),(λL' _=>.v (F4 underlying290 LU aaO I I (o0.cons (by simp) (ag I) .nil)) I),trivial⟩ ?_)
     refine ae.own (α:=eu) 292 (fF 0 underlying290 LU aaO (xs:=[]) (ys:=[_]) (r:=[(⟨.iface 293 (.bool (decide (n.bV=v)))⟩:eu)]) (bytes:=16) (by rfl) (hs:=PA (ag I)) λkey cap=>?_)
     refine AB 2 LS (hy:=ahE (ag I) hU) (ae.nil ?_)
     refine ar.ri (ar.ri (ar.next (az.fk (ef lr ?_))))
     refine cJ (ae.nil ?_)
     exact ar.b4 2 I (ar.b4 2 I (ar.Xv (key,cap) 1 I (by repeat (first|exact eN.nil|refine eN.same I ?_))))
   | true=>
     cases hs
     refine b6 (ef o3 (ht ?_))
     refine az.vO (ag I) (by rfl) ?_
     exact az.exit (ar.exit (ar.Xw g 0 I (by simp) I (by repeat (first|exact eN.nil|refine eN.same I ?_))))
  refine ar.qs (ar.next (b6 (cJ ?_)));refine cJ ?_;refine db (xP underlying235) ?_;refine ef uD ?_;refine ae.qV (eE.kE (τs:=[J.of (0:Int)]) 2 aiP (ag I) akr I I ⟨ag I,trivial⟩) I I I λ_=>?_;refine ae.Gp (akt (by kernel_rfl)) (ag I) I ?_;refine cO (b7 (az.ret ?_));exact pd
 cases h
instance:gx prog 228 _ _ Iv J.of J.of:=.i func228 I ntmps228 I λab r h W A=>by
 unfold Iv at h;refine b6 (bk (cV (look_nil (α:=aV))) ?_);refine aL ?_;refine bk (Yf underlying40 (ag I)) (b7 ?_);refine az.Yg (ag I) (λal=>?_) ?_
 ·subst al;replace h:=VI h;subst h;have h:some ([]:aa aV)=some []:=rfl;refine b6 (bk (cV (look_nil (α:=aV))) (b7 (az.ret (ar.ret ?_))));replace h:=cZ h;exact pd
 refine k8 (b6 (ae.sa (α:=aV) (r:=([]:aa aV)) underlying40 hV vX I I (.nil) I λed=>cJ ?_));refine aA h λan bs h=>fF 0 underlying40 hV vX bs λj0 dq=>?_;refine cO (b7 (az.ret ?_));exact ar.jW (α:=aV) 0 [2,7] ⟨rfl,rfl,trivial⟩ I go
instance:ea prog 363 _ _ _ D7 J.of J.of J.of:=.i func363 I ntmps363 I λab aj r h W A=>by
 unfold D7 at h;refine aL (λh=>?_);refine aA h λau ao h=>fc (γ:=Unit) (δ:=Unit) ao [0,1,4,10,12] (λs1 g1=>[(13,J.of s1)]) (λs1 g1=>[]) (λaq=>Sum.elim (λaq=>Exit.exit 0) (λaq=>Exit.ret) aq) (λaq g1=>Sum.elim (λaq=>[(13,J.of aq.1),(14,J.of aq.2)]) (λaq=>[(5,J.of aq.1),(13,J.of aq.2.1),(14,J.of aq.2.2.1),(24,J.of aq.2.2.2)]) aq) (λaq g1=>[]) () (λs1 r h g1=>?_) λg1=>?_
 ·refine aL (λh=>?_);refine aA h λaJ cQ h=>aA h λbE dJ h=>az.eM 9 ?_;exact go
 rcases au with au|au
 ·simp only[Sum.elim_inl]at h;exact go
 simp only[Sum.elim_inr]at h;exact go
def aeI{hp ab r}(h:E4 hp ab=some r):iG prog 126 [J.of ab] hp (J.of r) hp:=by
 unfold E4 at h;refine bR.of func126 I ntmps126 I λW A=>?_;refine aL (λbz dd c1 dj h=>?_);refine aA h λcc eS h=>aA h λc2 eX h=>bk (ahF underlying159 (k1 (ag I) eS) (jc (n:=0) I (s3 eX) I)) ?_;exact go
def aeJ{hp ab aj aG r}(h:Jn hp ab aj aG=some r):iG prog 328 [J.of ab,J.of aj,J.of aG] hp (J.of r.1) r.2:=by
 unfold Jn at h;refine bR.of func328 I ntmps328 I λW A=>?_;refine aL (λbj h=>?_);refine aA h λbz dd h=>aA h λc1 dj h=>aA h λcc eS h=>aA h λc2 eX h=>aA h λbg ej h=>gU [0,1,2,4,6,9,10] ?_;refine az.cf 1 (aQ 12 [] [] _::aQ 13 [0] [] _::aQ 14 [1] [] _::aQ 15 [2] [] _::aQ 16 [] [0] _::aQ 17 [3,4] [] (J.bY [J.of (bg.getD default),J.of bg.isSome])::aQ 11 [5] [] _::aQ 18 [6] [] _::aQ 19 [6] [] _::aQ 7 [7] [] _::aQ 8 [8] [] _::[]) (fo ?_ kT) (λek=>?_)
 ·intro hd E' L' aM av cC;refine bk (Pe (r:=bg) underlying218 K0 pb (k1 (ag (aM _ _ I)) eS) (ag (aM _ _ I)) (jc (n:=1) (cC.trans I) (ur eX) I) (cZ ej)) (ae.nil ?_);exact ar.fin (fK []) I I
 refine ar.eL (L2:=(a8 bj aj::a6 hp)) I (je ?_);refine aL (λh=>?_);refine aA h λgW rv h=>aA h λet jf h=>az.eM 6 ?_;refine aA h λlM yg h=>aA h λhB sn h=>aA h λbL gv h=>ae.F5 (k':=Cell.qA (gj hB aj aG)) 1 I (by first|exact .inl I|exact .inr I) underlying218 K0 (k1 (ag I) yg) (ag I) (ag I) (ur sn) I I I (cZ gv) ?_;exact go
def afJ{hp ab Q}(h:JV hp ab Q):lJ prog 336 [J.of ab] hp Q:=by
 unfold JV at h;refine bR.of func336 I ntmps336 I λW A=>b6 (bk (cV ou) (fD ?_));refine cJ ?_;refine ef Yj ?_;refine ef Yk ?_;refine ai.bA h λbg ej h=>iH ej (kc (b:=({(default:gZ)with hn:=min (max 1 ab) 128}:gZ)) I akv akw (.cons ES I (ag I) I (.nil))) ?_;refine ae.xT 0 I (Cell.k6 bg) (λ_=>rfl) (ag I) I λbS pP=>?_;replace h:=ai.pz h bS pP;refine cO (b7 (az.ret ?_));exact ar.eI (⟨⟨((some bS.1:Ref),bS.2),h⟩,()⟩: {r // _}×_) (.refl _) I I (dv I)
def Uk{ab aj r}(h:y7 ab aj=some r):cm prog 370 [J.of ab,J.ptr aj] (J.of r):=by
 unfold y7 at h;refine cm.of func370 I ntmps370 I λW A=>?_;exact go
def Tr{ab aj r}(h:yZ ab aj=some r):cm prog 369 [J.of ab,J.tl prog aj] (J.of r):=by
 unfold yZ at h;refine cm.of func369 I ntmps369 I λW A=>?_;refine aL ?_;refine aA h λau ao h=>fc (γ:=Unit) (δ:=Unit) ao [0,1,7] (λs1 g1=>[(4,J.of (0:Int)),(8,J.of s1)]) (λs1 g1=>[]) (λaq=>Sum.elim (λaq=>Exit.exit 0) (λaq=>Exit.ret) aq) (λaq g1=>Sum.elim (λaq=>[(4,J.of (0:Int)),(8,J.of aq.1),(9,J.of aq.2)]) (λaq=>[(4,J.of aq.1),(5,J.of aq.2.1),(8,J.of aq.2.2.1),(9,J.of aq.2.2.2.1),(16,J.of aq.2.2.2.2)]) aq) (λaq g1=>[]) () (λs1 r h g1=>?_) λg1=>?_
 ·refine aL (λaJ cQ h=>?_);refine aA h λan bs h=>bk (zB (ag I) (ag I) bs) ?_;exact go
 rcases au with au|au
 ·simp only[Sum.elim_inl]at h;exact go
 simp only[Sum.elim_inr]at h;exact go
def ach{ab aj aG r}(h:DO ab aj aG=some r):cm prog 366 [J.of ab,J.of aj,J.AE prog aG] (J.bY [J.of r.1,J.of r.2]):=by
 unfold DO at h;refine cm.of func366 I ntmps366 I λW A=>?_;refine aL λbj=>?_;refine aA h λau ao h=>fc (γ:=Unit) (δ:=Unit) ao [0,1,2,4,6,7,8] (λs1 g1=>[(9,J.of s1.1),(10,J.of s1.2)]) (λs1 g1=>[]) (λaq=>Exit.exit 0) (λaq g1=>[(9,J.of aq.1),(10,J.of aq.2.1),(17,J.of aq.2.2)]) (λaq g1=>[]) () (λs1 r h g1=>?_) λg1=>?_
 ·refine aL (λh=>?_);refine aA h λaJ cQ h=>aA h λan bs h=>az.lk mixed 8 (rg 24 8) [[],[],[],[1,2],[3],[],[0,4,5],[6]] [_,_,_,_,_,_,_,_] ⟨fP,fP,fP,aaP cQ underlying61 gB,H1 (jE gB),uQ 0 gB,gC λav=>Kc (ag I) (ag I) (ag I) bs,mZ o3,trivial⟩ (b7 ?_);refine aA h λm1 bW h=>gl (γ:=Unit) [0,1,2,4,6,7,8,11,17,31] (λg2=>[(9,J.of m1.1),(10,J.of m1.2)]) (λg2=>[]) (λg2=>?_) (λhm ak=>?_) λhm ak=>?_
  ·exact go
  ·have h:=e1 ak bW;exact go
  have h:=e2 ak bW;exact go
 refine ar.qs (ar.next (az.seq (aA h λbE dJ h=>aA h λaF b5 h=>gU [0,1,2,4,8,9,10,17] ?_)));refine az.cf 1 (aQ 35 [] [] _::aQ 36 [] [] _::aQ 37 [] [] _::aQ 38 [1,2] [] _::aQ 39 [3] [] _::aQ 40 [4] [] _::aQ 41 [4] [] _::aQ 42 [4] [] _::aQ 43 [4,6,7] [] _::aQ 44 [4,8] [] _::aQ 45 [4] [0] _::aQ 46 [4,5,9,10] [] (J.cond ((decide (au.1<(ab.length:Int)))=true) (J.of aF))::aQ 47 [4,11] [] _::aQ 48 [4,12] [] _::aQ 6 [0] [] _::aQ 7 [13] [] _::[]) (fo ?_ kT) (λek=>?_)
 ·exact fA.q (anh I I I I (λhd=>rfl) λhd E' L' aM av hb=>Kc (b1 (aM _ _ I) hb) (b1 (aM _ _ I) hb) (b1 (aM _ _ I) hb) (fz b5 hb))
 refine ar.eL (L2:=[a8 bj aj]) I (je ?_);exact go
instance:gx prog 179 _ _ Fa J.of J.of:=.i func179 I ntmps179 I λab r h W A=>by
 unfold Fa at h;exact go
def aeh{ab r}(h:NO ab=some r):cm prog 376 [J.of ab] (J.of r):=by
 unfold NO at h;refine cm.of func376 I ntmps376 I λW A=>?_;exact go
instance Zz:gx prog 182 _ _ vv J.of J.of:=.i func182 I ntmps182 I λab r h W A=>by
 unfold vv at h;refine aL ?_;refine aA h λau ao h=>fc (γ:=Unit) (δ:=Unit) ao [0,5,6] (λs1 g1=>[(2,J.of (0:Int)),(7,J.of s1)]) (λs1 g1=>[]) (λaq=>Sum.elim (λaq=>Exit.exit 0) (λaq=>Exit.ret) aq) (λaq g1=>Sum.elim (λaq=>[(2,J.of (0:Int)),(7,J.of aq.1),(8,J.of aq.2)]) (λaq=>[(2,J.of aq.1),(4,J.of aq.2.1),(7,J.of aq.2.2.1),(8,J.of aq.2.2.2.1),(12,J.of aq.2.2.2.2)]) aq) (λaq g1=>[]) () (λs1 r h g1=>?_) λg1=>?_
 ·exact go
 rcases au with au|au
 ·simp only[Sum.elim_inl]at h;exact go
 simp only[Sum.elim_inr]at h;exact go
def aeX{ab aj r}(h:Ob ab aj=some r):cm prog 124 [J.of ab,J.of aj] (J.of r):=by
 unfold Ob at h;refine cm.of func124 I ntmps124 I λW A=>b6 (ny λbj=>?_);refine bk (cV (look_nil (α:=h9))) (fD ?_);refine ae.own (α:=h9) 304 (bk (cV k2) ?_);refine aL λan bs h=>?_;refine aA h λau ao h=>fc (γ:=(aw Nat×Nat)) (δ:=(aw Nat×Nat)) ao [0,1,2,4,10,11] (λs1 g1=>[(5,J.eq (aO g1.1 s1.2.length g1.2)),(12,J.of s1.1)]) (λs1 g1=>[(0,⟨g1.1,.row 304 s1.2 g1.2⟩)]) (λaq=>Exit.exit 0) (λaq g1=>[(5,J.eq (aO g1.1 aq.2.2.length g1.2)),(12,J.of aq.1),(13,J.of aq.2.1)]) (λaq g1=>[(0,⟨g1.1,.row 304 aq.2.2 g1.2⟩)]) (none,0) (λs1 r h g1=>?_) λg1=>?_
 ·refine go2 (λaJ cQ bB bg ej bX h=>?_) (λh=>?_)
  ·refine aA h λm1 bW h=>gl (γ:=Unit) [0,1,2,4,5,6,7,8,10,11,12,13,23] (λg2=>[]) (λg2=>[(0,a8 bX m1)]) (λg2=>?_) (λhm ak=>?_) λhm ak=>?_
   ·refine aL ?_;refine aA h λaF b5 h=>fF 2 underlying241 K4 Qs b5 λed dq=>?_;refine aL ?_;cases h;exact hY (ed,dq) 2
   ·have h:=e1 ak bW;exact go
   have h:=e2 ak bW;exact go
  cases h;exact ho (g1.1,g1.2) 0
 refine aL ?_;exact ar.jW (α:=h9) 0 [4,5,34] ⟨rfl,rfl,rfl,trivial⟩ I go
def adP{hp ab aj r}(h:ET hp ab aj=some r):iG prog 322 [J.of ab,J.of aj] hp (J.bY [J.of r.1,J.of r.2]) hp:=by
 unfold ET at h;refine bR.of func322 I ntmps322 I λW A=>?_;refine aL λbj bB=>?_;refine aA h λan bs h=>aA h λaF b5 h=>gU [0,1,2,3] ?_;refine az.cf 2 (aQ 6 [] [] _::aQ 7 [0] [1] _::aQ 8 [] [0] _::aQ 9 [2] [] _::aQ 10 [1,3] [] (J.bY [J.of aF.1,J.of aF.2])::aQ 11 [4] [] _::aQ 12 [4] [] _::aQ 4 [5] [] _::aQ 5 [6] [] _::[]) (fo ?_ kT) (λek=>?_)
 ·intro hd E' L' aM av cC;exact ae.hA (fa.iA 2 (cC.trans I) Yl (US b5) ⟨ag (aM _ _ I),ag (aM _ _ I),trivial⟩) I I I (ae.nil (ar.fin (fK []) I I))
 refine ar.eL (L2:=(a8 bB aj::a8 bj ab::a6 hp)) I (je ?_);exact go
instance:ea prog 334 _ _ _ y8 J.of J.of (λr=>J.bY [J.of r.1,J.of r.2.1,J.of r.2.2]):=.i func334 I ntmps334 I λab aj r h W A=>by
 unfold y8 at h;refine aL λbj bB bX ey=>?_;refine aA h λan bs h=>aA h λaF b5 h=>az.sc 2 (gU [0,1,2,3,4,5,6] ?_);refine az.Bb 6 (aQ 10 [] [3] _::aQ 11 [] [2] _::aQ 12 [1] [] _::aQ 13 [0,2] [] _::aQ 9 [3] [] _::aQ 14 [4] [] _::aQ 15 [4] [] _::tn 7 [] 4 7 _::tn 8 [] 5 8 _::j9 [5,7] [4] [4] (λhd=>a8 ((hd 7 0).getD 0) aF.1)::j9 [6,8] [5] [5] (λhd=>a8 ((hd 8 0).getD 0) aF.2)::[]) (λek=>?_);refine ar.eL (L2:=[a8 ey (default:aV),a8 bX (default:Vector aV 4),a8 bB aj,a8 bj ab,a8 ((ek 7 0).getD 0) aF.1,a8 ((ek 8 0).getD 0) aF.2]) I (je ?_);refine ar.b4 4 I (ar.b4 5 I (go2 (λh=>?_) (λh=>?_)))
 ·refine gU [0,1,2,3,4,5,7,8,9,10,11,12,13,14,15,16,17,18,19,20,21] ?_;refine az.Bb 6 (aQ 22 [] [1] _::aQ 23 [] [0] _::j9 [0] [3] [3] (λhd=>a8 bX aF.1)::j9 [1] [2] [2] (λhd=>a8 ey aF.2)::aQ 6 [] [] _::[]) (λj5=>?_);refine ar.eL (L2:=[a8 ((ek 8 0).getD 0) aF.2,a8 ((ek 7 0).getD 0) aF.1,a8 ey aF.2,a8 bX aF.1,a8 bB aj,a8 bj ab]) I (je (ar.next (az.ret (ar.ret ?_))));cases h;exact ar.ZA I (LV 3 K5) (LV 2 hV) (Lq I)
 refine aA h λaJ cQ h=>gU [0,1,2,3,4,5,7,8,9,10,11,12,13,14,15,16,17,18,19,20,21] ?_;refine az.Bb 6 (aQ 24 [] [1] _::aQ 25 [] [0] _::aQ 26 [] [] _::aQ 27 [2] [4] _::aQ 28 [] [] _::aQ 29 [4] [5] _::aQ 30 [3,5] [] _::aQ 31 [6] [] _::aQ 32 [7] [] _::j9 [0] [3] [3] (λhd=>a8 bX aF.1)::j9 [1] [2] [2] (λhd=>a8 ey aF.2)::aQ 6 [8] [] _::[]) (λAF=>?_);refine ar.eL (L2:=[a8 ((ek 8 0).getD 0) aF.2,a8 ((ek 7 0).getD 0) aF.1,a8 ey aF.2,a8 bX aF.1,a8 bB aj,a8 bj ab]) I (je (ar.next (az.ret ?_)));cases h;exact ar.ZA I (LV 3 K5) (LV 2 hV) (Lq I)
instance Lt:ea prog 347 _ _ _ zt J.of J.of J.of:=.i func347 I ntmps347 I λab aj r h W A=>by
 unfold zt at h;refine aL λbj an bs h=>?_;refine jM (λhb=>ahG q6 aiQ tc I (b1 I hb) I I) ?_;exact go
instance:gx prog 180 _ _ JP J.of J.of:=.i func180 I ntmps180 I λab r h W A=>by
 unfold JP at h;refine aL λbj bB=>?_;refine aA h λan bs h=>aA h λaF b5 h=>az.eM 7 ?_;refine RK 1 sH vZ ?_;refine db (cg Cp.fd) ?_;refine aA h λbg ej h=>LR 1 xc Ao (hb:=by exact ej) ?_;exact go
instance:ea prog 359 _ _ _ Fb J.of J.of J.of:=.i func359 I ntmps359 I λab aj r h W A=>by
 unfold Fb at h;exact go
def aei{hp ab aj r}(h:E0 hp ab aj=some r):iG prog 324 [J.of ab,J.of aj] hp (J.bY []) r:=by
 unfold E0 at h;refine bR.of func324 I ntmps324 I λW A=>?_;refine aL λbj bB=>?_;refine aA h λan bs h=>az.eM 7 ?_;refine aA h λaF b5 h=>ae.dV 2 0 I akx (aeJ b5) I I ⟨ag I,ag I,ag I,trivial⟩ I λaq=>ae.dh (ae.nil ?_);exact ar.lv go
def adf{ab aj r}(h:Nr ab aj=some r):cm prog 364 [J.ptr ab,J.of aj] (J.of r):=by
 unfold Nr at h;refine cm.of func364 I ntmps364 I λW A=>?_;refine aL λbj=>?_;refine bk (ahH underlying171 (ag I)) (b7 ?_);refine az.vO (ag I) I (aL ?_);refine ae.share (α:=Int) 0 3 I I (bk (zK (F:=(λa0=>y7 a0 aj)) (τs:=[J.ptr aj]) Ym ⟨ag I,trivial⟩ (λ_ _ h=>Uk h)) ?_);refine aA h λan bs h=>lD Yn (Tr bs) ?_;exact go
instance CT:ea prog 136 _ _ _ qi J.of J.of J.of:=.i func136 I ntmps136 I λab aj r h W A=>by
 unfold qi at h;exact go
instance:ea prog 118 _ _ _ B5 J.of J.of J.of:=.i func118 I ntmps118 I λab aj r h W A=>by
 unfold B5 at h;exact go
instance:ea prog 154 _ _ _ BT J.of J.of J.of:=.i func154 I ntmps154 I λab aj r h W A=>by
 unfold BT at h;exact go
instance ZB:gx prog 115 _ _ Oi J.of J.of:=.i func115 I ntmps115 I λab r h W A=>by
 unfold Oi at h;refine aL λbj=>?_;refine aA h λan bs h=>bk (ib aky (aco bs) ⟨ag I,Wa akz (λ_ _=>aec),trivial⟩) ?_;exact go
def aej{ab aj r}(h:Jd ab aj=some r):cm prog 70 [J.ptr ab,J.ptr aj] (J.of r):=by
 unfold Jd at h;refine cm.of func70 I ntmps70 I λW A=>?_;refine aL ?_;refine aA h λan bs h=>aA h λaJ cQ h=>aA h λaF b5 h=>az.eM 12 ?_;exact go
instance:nL prog 73 _ _ _ _ OA J.of J.of J.of J.of:=.i func73 I ntmps73 I λab aj aG r h W A=>by
 unfold OA at h;exact go
instance:ea prog 171 _ _ _ On J.of J.of J.of:=.i func171 I ntmps171 I λab aj r h W A=>by
 unfold On at h;exact go
instance:nL prog 170 _ _ _ _ OB J.of J.of J.of J.of:=.i func170 I ntmps170 I λab aj aG r h W A=>by
 unfold OB at h;refine aL λbj bB=>?_;refine aA h λbg ej h=>iH ej (z7 underlying9 (ag I) (gM (ByteArray.mk #[112,114,101,102,105,120,95,108,101,110,103,116,104]))) ?_;refine aL (λh=>?_);refine bk (z7 underlying9 (ag I) (gM (ByteArray.mk #[109,97,115,107]))) ?_;refine aL (λh=>?_);refine bk (z7 underlying9 (ag I) (gM (ByteArray.mk #[104,105,103,104]))) ?_;exact go
def adw{aj:Int}{aG:aV}{cx:Ref}:FT prog 346 [J.ptr aj,J.ptr aG,J.ptr cx] (λv:Int=>J.of v) (λ{σ ε} hq step s0=>zc (σ:=σ) (ε:=ε) aj aG cx hq step s0):=by
 refine FT.of func346 I ntmps346 I ?_;intro σ ε γ Ls Lx hq lN pV step s0 g0 R h W A u sy;replace h:zc aj aG cx hq step s0 R:=h;unfold zc at h;refine aL ?_;refine az.Xx (σ:=Int×(σ)) (ε:=(Int×Bool×(σ))⊕(Int×Int×Int×Bool×Bool×Bool×(ε))) (γ:=γ) (δ:=γ) h (λs1 g1=>[(0,J.eq u),(1,J.ptr aj),(2,J.ptr aG),(3,J.ptr cx),(7,J.of aj),(8,J.of s1.1)]) (λs1 g1=>(Ls s1.2 g1)) (λaq=>Sum.elim (λaq=>Exit.exit 0) (λaq=>Exit.ret) aq) (λaq g1=>Sum.elim (λaq=>[(0,J.eq u),(1,J.ptr aj),(2,J.ptr aG),(3,J.ptr cx),(7,J.of aj),(8,J.of aq.1),(9,J.of aq.2.1)]) (λaq=>[(0,J.eq u),(1,J.ptr aj),(2,J.ptr aG),(3,J.ptr cx),(5,J.of aq.1),(6,J.of aq.2.1),(7,J.of aj),(8,J.of aq.2.2.1),(9,J.of aq.2.2.2.1),(19,J.of aq.2.2.2.2.1),(23,J.of aq.2.2.2.2.2.1)]) aq) (λaq g1=>Sum.elim (λaq=>(Ls aq.2.2 g1)) (λaq=>(Lx aq.2.2.2.2.2.2 g1)) aq) g0 I .all (λs1 R h g1=>?_) (λau h g1=>?_)
 ·refine go2 (λh=>?_) (λh=>?_)
  ·refine ai.bA h λbz dd h=>ai.bA h λc1 dj h=>ai.bA h λan bs h=>az.lk mixed 9 (rg 11 9) [[],[],[1],[2],[3],[4],[],[5,6],[0,7]] [_,_,_,_,_,_,_,_,_] ⟨H1 (jE hV),H1 (jE Yo),gC λav=>mg (jq (ag I) dd),H1 (cg PB.fd),gC λav=>oX ((aN.id gZ).comp ES) (r:=c1.hn) b8 (ag I) (o8 (λi e q=>av i e q I) (Yp (Ls:=Ls) (s:=s1.2) (g:=g1) 0 I pV (xx dj) I)) I I,mZ uD,fP,mZ uD,n4 Lt.cf (Lt.m _ _ _ bs),trivial⟩ (b7 ?_);refine ai.bA h λm1 bW h=>az.cb (γ:=Unit) (λg2=>[(0,J.eq u),(1,J.ptr aj),(2,J.ptr aG),(3,J.ptr cx),(5,J.of s1.1),(6,J.of m1),(7,J.of aj),(8,J.of s1.1),(9,J.of (decide (s1.1<aj))),(19,J.of an)]) (λg2=>(Ls s1.2 g1)) (ag I) (λg2=>?_) (λhm ak=>?_) (λhm ak=>?_)
   ·refine aL ?_;refine ae.aiR (Lin:=[]) (Ls:=Ls) (Lx:=Lx) (step:=step) (s:=s1.2) (gg:=g1) I sy I (ag I) h I (λs2 h g3=>?_) (λcA h g3=>?_)
    ·simp only[Sum.elim_inl]at h;refine ae.eL (L2:=(Ls s2 g3)) I (db qv (b7 ?_));refine az.vO (ag I) (by first|rfl|(rw[hb];rfl)) ?_;refine aL ?_;exact ar.xy h g3 0 I .all
    simp only[Sum.elim_inr]at h;refine ae.eL (L2:=(Lx cA g3)) I (db qv (b7 ?_));refine az.F0 (ag I) (by first|rfl|(rw[hb];rfl)) ?_;exact az.ret (ar.te (ar.ret (ar.s4 h g3 0 I (by simp) I .all)))
   ·have h:=e1 ak bW;exact go
   have h:=e2 ak bW;exact go
  exact ar.s4 h g1 0 I (by simp) I .all
 rcases au with au|au
 ·simp only[Sum.elim_inl]at h;exact ar.qs (ar.lv (ar.mL (⟨⟨(.inl au.2.2:σ⊕ε),h⟩,g1⟩: {r // _}×_) (.refl _) I I))
 simp only[Sum.elim_inr]at h;exact ar.te (ar.mL (⟨⟨(.inr au.2.2.2.2.2.2:σ⊕ε),h⟩,g1⟩: {r // _}×_) (.refl _) I I)
def Uw{hp:aH Cell}{aj:Int}{aG:aV}{cx:Ref}:FU prog 346 [J.ptr aj,J.ptr aG,J.ptr cx] hp (λv:Int=>J.of v) (λ{σ ε} =>vj (σ:=σ) (ε:=ε) hp aj aG cx):=by
 refine FU.of func346 I ntmps346 I ?_;intro σ ε γ Ls Lx lN pV step s0 g0 r h W A u sy;replace h:vj hp aj aG cx step s0=some r:=h;unfold vj at h;refine aL ?_;refine aA h λau ao h=>az.K2 (σ:=Int×(σ)) (ε:=(Int×Bool×(σ))⊕(Int×Int×Int×Bool×Bool×Bool×(ε))) (γ:=γ) (δ:=γ) ao (λs1 g1=>[(0,J.eq u),(1,J.ptr aj),(2,J.ptr aG),(3,J.ptr cx),(7,J.of aj),(8,J.of s1.1)]) (λs1 g1=>(Ls s1.2 g1)) (λaq=>Sum.elim (λaq=>Exit.exit 0) (λaq=>Exit.ret) aq) (λaq g1=>Sum.elim (λaq=>[(0,J.eq u),(1,J.ptr aj),(2,J.ptr aG),(3,J.ptr cx),(7,J.of aj),(8,J.of aq.1),(9,J.of aq.2.1)]) (λaq=>[(0,J.eq u),(1,J.ptr aj),(2,J.ptr aG),(3,J.ptr cx),(5,J.of aq.1),(6,J.of aq.2.1),(7,J.of aj),(8,J.of aq.2.2.1),(9,J.of aq.2.2.2.1),(19,J.of aq.2.2.2.2.1),(23,J.of aq.2.2.2.2.2.1)]) aq) (λaq g1=>Sum.elim (λaq=>(Ls aq.2.2 g1)) (λaq=>(Lx aq.2.2.2.2.2.2 g1)) aq) g0 I .all (λs1 r h g1=>?_) (λg1=>?_)
 ·refine go2 (λh=>?_) (λh=>?_)
  ·refine aA h λbz dd h=>aA h λc1 dj h=>aA h λan bs h=>az.lk mixed 9 (rg 11 9) [[],[],[1],[2],[3],[4],[],[5,6],[0,7]] [_,_,_,_,_,_,_,_,_] ⟨H1 (jE hV),H1 (jE Yo),gC λav=>mg (jq (ag I) dd),H1 (cg PB.fd),gC λav=>oX ((aN.id gZ).comp ES) (r:=c1.hn) b8 (ag I) (o8 (λi e q=>av i e q I) (akA (Ls:=Ls) (s:=s1.2) (g:=g1) 0 I pV (xx dj) I)) I I,mZ uD,fP,mZ uD,n4 Lt.cf (Lt.m _ _ _ bs),trivial⟩ (b7 ?_);refine aA h λm1 bW h=>az.cb (γ:=Unit) (λg2=>[(0,J.eq u),(1,J.ptr aj),(2,J.ptr aG),(3,J.ptr cx),(5,J.of s1.1),(6,J.of m1),(7,J.of aj),(8,J.of s1.1),(9,J.of (decide (s1.1<aj))),(19,J.of an)]) (λg2=>(Ls s1.2 g1)) (ag I) (λg2=>?_) (λhm ak=>?_) (λhm ak=>?_)
   ·refine aL ?_;refine aA h λaF b5 h=>ae.yield (Lin:=[]) (Ls:=Ls) (Lx:=Lx) (step:=step) (s:=s1.2) (gg:=g1) I sy I (ag I) b5 I (λs2 aD g3=>?_) (λcA aD g3=>?_)
    ·subst aD;simp only[Sum.elim_inl]at h;refine ae.eL (L2:=(Ls s2 g3)) I (db qv (b7 ?_));refine az.vO (ag I) (by first|rfl|(rw[hb];rfl)) ?_;refine aL ?_;cases h;exact hY g3 0
    subst aD;simp only[Sum.elim_inr]at h;refine ae.eL (L2:=(Lx cA g3)) I (db qv (b7 ?_));refine az.F0 (ag I) (by first|rfl|(rw[hb];rfl)) ?_;refine az.ret (ar.te (ar.ret ?_));cases h;exact ho g3 0
   ·have h:=e1 ak bW;exact go
   have h:=e2 ak bW;exact go
  cases h;exact ho g1 0
 rcases au with au|au
 ·simp only[Sum.elim_inl]at h;refine ar.qs (ar.lv ?_);cases h;exact ar.mL g1 (.refl _) I I
 simp only[Sum.elim_inr]at h;refine ar.te ?_;cases h;exact ar.mL g1 (.refl _) I I
instance:gx prog 138 _ _ sP J.of J.of:=.i func138 I ntmps138 I λab r h W A=>by
 unfold sP at h;exact go
def aek{hp ab aj r}(h:E1 hp ab aj=some r):iG prog 127 [J.of ab,J.of aj] hp (J.of r) hp:=by
 unfold E1 at h;refine bR.of func127 I ntmps127 I λW A=>?_;refine aL ?_;refine aA h λbz dd h=>aA h λc1 dj h=>aA h λan bs h=>aA h λaJ cQ h=>az.eM 14 ?_;exact go
def afm{hp ab Q}(h:Fq hp ab Q):lJ prog 19 [J.of ab] hp Q:=by
 unfold Fq at h;refine bR.of func19 I ntmps19 I λW A=>b6 (ny λbj=>?_);refine bk (cV ou) ?_;refine aL ?_;refine ae.FR (α:=Int) (β:=Ref) 1 I (Cell.sg ([]:aa (Int×Ref))) (λ_=>rfl) I λbS pP=>?_;replace h:=ai.pz h bS pP;refine ai.bA h λbg ej h=>iH ej (kc (b:= {jU:=ab,sS:=(⟨some bS.1⟩:eJ),nT:=1:k0}) I akB akC (.cons Ul I (ag I) I (.cons Iz I (ag I) I (.cons IM I (cH 1) I (.nil))))) ?_;refine ae.xT 1 I (Cell.qE bg) (λ_=>rfl) (ag I) I λa2 wh=>?_;replace h:=ai.pz h a2 wh;refine aL λc1 dj h=>?_;refine AG (σ:=Int×(aH Cell)) (ε:=(Int×Bool×(aH Cell))) (γ:=Unit) (δ:=Unit) h 1 [0,1,2,3,14,15] (λs1 g1=>[(16,J.of s1.1)]) (λs1 g1=>[]) (λs1 g1=>a6 s1.2) (λaq=>Exit.exit 0) (λaq g1=>[(16,J.of aq.1),(17,J.of aq.2.1)]) (λaq g1=>[]) (λaq g1=>a6 aq.2.2) () (λs1 R h g1=>?_) (λau h g1=>?_)
 ·refine go2 (λaJ cQ bB h=>?_) (λh=>?_)
  ·refine ai.bA h λhB sn h=>?_;obtain⟨n5,sh,uK⟩:=ai.ex h;refine gU [0,1,2,3,5,14,15,16,17,18,19] ?_;refine az.AH mixed [9,10] [(0,20,J.of (some a2.1:Ref)),(1,21,J.df a2.1),(2,22,J.my a2.1 Iz),(3,23,J.of hB.sS),(4,24,J.my bB zh),(5,25,J.of ((aB c1.jU.bH aJ).cd)),(6,26,J.of ab),(7,27,J.my bB zh),(8,28,J.of ((aB c1.jU.bH aJ).cd))] ?_;refine gI.md [] [0,1,2,3,4,5,6,7,8] [9] ⟨?_,trivial⟩;refine h2.of (ks:=[]) (λx:Subtype n5=>[(29,J.of x.1.1)]) (λx=>[]) (λx=>(a8 bB (aB c1.jU.bH aJ:bU)::a8 bj ab::a6 x.1.2)) (λ⟨an,iP⟩=>?_) (λo aU ef iR aM k=>?_)
   ·have aaQ:=ai.apN (uK an iP);have h:=uK an iP;replace h:=ai.ani h;refine gI.md [8,7,6] [0,1,2,3,4,5] [10] ⟨h2.tail [9,8,7,6,5,4,3,2,1,0] ?_,trivial⟩;refine ae.eL (L2:=(a8 bB (aB c1.jU.bH aJ:bU)::a8 bj ab::a6 an.2)) I (ae.le (E':=[(0,J.of ab),(1,J.df bj),(2,J.of (none:Ref)),(3,J.of (some a2.1:Ref)),(5,J.df bB),(14,J.of c1.jU.bH),(15,J.of (c1.jU.bH.length:Int)),(16,J.of s1.1),(17,J.of (decide (s1.1<(c1.jU.bH.length:Int)))),(18,J.ptr (aB c1.jU.bH aJ)),(19,J.of (aB c1.jU.bH aJ)),(23,J.of hB.sS),(25,J.of ((aB c1.jU.bH aJ).cd)),(29,J.of an.1)]) .all (ai.bA h λbz dd h=>ai.bA h λjk uR h=>ai.bA h λbL gv h=>?_));refine ae.F5 (k':=Cell.sg (gj jk ((aB c1.jU.bH aJ).cd) an.1)) 2 I (by first|exact .inl I|exact .inr I) underlying127 AD (k1 (ag I) dd) (ag I) (ag I) (xw uR) I I I (cZ gv) ?_;refine aL ?_;exact ar.xy h () 1 I .all
   cases aU;refine ae.dV 2 0 I anj (afl sh) I I ⟨ag (aM I),ag (aM I),trivial⟩ I λ⟨⟨an,iP⟩,_⟩=>ae.dh (ae.nil ?_);exact k ⟨an,iP⟩
  exact ar.s4 h () 0 I (by simp) I .all
 refine aL ?_;exact ar.eI (⟨⟨((some a2.1:Ref),au.2.2),h⟩,()⟩: {r // _}×_) (eV 1) I I (dv I)
def ael{ab aj aG r}(h:Je ab aj aG=some r):cm prog 60 [J.ptr ab,J.ptr aj,J.ptr aG] (J.of r):=by
 unfold Je at h;refine cm.of func60 I ntmps60 I λW A=>?_;exact go
def aem{ab aj aG r}(h:Jf ab aj aG=some r):cm prog 62 [J.ptr ab,J.ptr aj,J.ptr aG] (J.of r):=by
 unfold Jf at h;refine cm.of func62 I ntmps62 I λW A=>?_;refine aL λan bs bj h=>?_;refine aA h λau ao h=>fc (γ:=Unit) (δ:=Unit) ao [0,1,2,3,4,17,18] (λs1 g1=>[(19,J.of s1)]) (λs1 g1=>[]) (λaq=>Sum.elim (λaq=>Exit.exit 0) (λaq=>Exit.ret) aq) (λaq g1=>Sum.elim (λaq=>[(19,J.of aq.1),(20,J.of aq.2)]) (λaq=>[(6,J.of aq.1),(19,J.of aq.2.1),(20,J.of aq.2.2.1),(31,J.of aq.2.2.2)]) aq) (λaq g1=>[]) () (λs1 r h g1=>?_) λg1=>?_
 ·exact go
 rcases au with au|au
 ·simp only[Sum.elim_inl]at h;exact go
 simp only[Sum.elim_inr]at h;exact go
def ae4{ab aj aG r}(h:Oj ab aj aG=some r):cm prog 113 [J.of ab,J.of aj,J.of aG] (J.of r):=by
 unfold Oj at h;refine cm.of func113 I ntmps113 I λW A=>?_;refine aaR (λbj an bs aF b5 bd dY h=>?_) (λbj an bs aF b5 bd dY h=>?_) (λbj an bs aF b5 bd dY h=>?_)
 ·refine aA h λbq eW h=>aA h λbM fY h=>aA h λbg ej h=>az.eM 21 ?_;exact go
 ·refine aA h λcG hr h=>aA h λz2 iD h=>az.eM 14 ?_;exact go
 refine aA h λdF j3 h=>aA h λz3 sm h=>az.eM 11 ?_;exact go
def aen{ab aj aG r}(h:Jg ab aj aG=some r):cm prog 72 [J.ptr ab,J.ptr aj,J.ptr aG] (J.of r):=by
 unfold Jg at h;refine cm.of func72 I ntmps72 I λW A=>?_;exact go
instance:ea prog 75 _ _ _ Ny J.of J.of J.of:=.i func75 I ntmps75 I λab aj r h W A=>by
 unfold Ny at h;refine aL (λbj bB an bs bX aF b5 bd dY aJ cQ bg ej h=>?_);refine aA h λau ao h=>fc (γ:=Unit) (δ:=Unit) ao [0,1,2,3,5,6,7,8,34,46,48,49] (λs1 g1=>[(4,J.of (0:Int)),(50,J.of s1)]) (λs1 g1=>[]) (λaq=>Sum.elim (λaq=>Exit.exit 0) (λaq=>Exit.ret) aq) (λaq g1=>Sum.elim (λaq=>[(4,J.of (0:Int)),(50,J.of aq.1),(51,J.of aq.2)]) (λaq=>[(4,J.of aq.1),(9,J.of aq.2.1),(50,J.of aq.2.2.1),(51,J.of aq.2.2.2.1),(62,J.of aq.2.2.2.2)]) aq) (λaq g1=>[]) () (λs1 r h g1=>?_) λg1=>?_
 ·refine aL (λbE dJ ey h=>?_);refine aA h λcP ih h=>aA h λbq eW h=>az.eM 8 ?_;exact go
 rcases au with au|au
 ·simp only[Sum.elim_inl]at h;exact go
 simp only[Sum.elim_inr]at h;exact go
def afn{ab aj aG r}(h:OJ ab aj aG=some r):cm prog 122 [J.of ab,J.of aj,J.of aG] (J.of r):=by
 unfold OJ at h;refine cm.of func122 I ntmps122 I λW A=>?_;refine aL λbj bB bX=>?_;refine bk (cV (look_nil (α:=h9))) (fD ?_);refine ae.own (α:=h9) 304 (bk (cV k2) ?_);refine aL ?_;refine aA h λau ao h=>fc (γ:=(aw Nat×Nat)) (δ:=(aw Nat×Nat)) ao [0,1,2,3,4,5,6,15,16] (λs1 g1=>[(7,J.eq (aO g1.1 s1.2.length g1.2)),(17,J.of s1.1)]) (λs1 g1=>[(0,⟨g1.1,.row 304 s1.2 g1.2⟩)]) (λaq=>Exit.exit 0) (λaq g1=>[(7,J.eq (aO g1.1 aq.2.2.length g1.2)),(17,J.of aq.1),(18,J.of aq.2.1)]) (λaq g1=>[(0,⟨g1.1,.row 304 aq.2.2 g1.2⟩)]) (none,0) (λs1 r h g1=>?_) λg1=>?_
 ·refine go2 (λaJ cQ ey pj h=>?_) (λh=>?_)
  ·refine aA h λm1 bW h=>gl (γ:=Unit) [0,1,2,3,4,5,6,7,8,9,10,15,16,17,18,26] (λg2=>[]) (λg2=>[(0,a8 pj m1)]) (λg2=>?_) (λhm ak=>?_) λhm ak=>?_
   ·refine aL λbg ej an bs h=>?_;refine aA h λaF b5 h=>bk (FJ underlying238 F2 (ag I) .none (.some (ag I)) b5) ?_;refine aL ?_;refine aA h λaW ao h=>fc (γ:=(aw Nat×Nat)) (δ:=(aw Nat×Nat)) ao [0,1,2,3,4,5,6,8,9,10,11,15,16,17,18,26,40,41] (λs2 g3=>[(7,J.eq (aO g3.1 s2.2.length g3.2)),(42,J.of s2.1)]) (λs2 g3=>[(2,⟨g3.1,.row 304 s2.2 g3.2⟩)]) (λcA=>Exit.exit 2) (λcA g3=>[(7,J.eq (aO g3.1 cA.2.2.length g3.2)),(42,J.of cA.1),(43,J.of cA.2.1)]) (λcA g3=>[(2,⟨g3.1,.row 304 cA.2.2 g3.2⟩)]) (g1.1,g1.2) (λs2 r h g3=>?_) λg3=>?_
    ·refine go2 (λbE dJ SR h=>?_) (λh=>?_)
     ·refine aA h λbd dY h=>aA h λbq eW h=>aA h λz2 iD h=>az.eM 15 ?_;refine aA h λbM fY h=>fF 3 underlying241 K4 Qs fY λed dq=>?_;refine aL ?_;cases h;exact hY (ed,dq) 1
     cases h;exact ho (g3.1,g3.2) 0
    refine aL ?_;cases h;exact hY (g3.1,g3.2) 2
   ·have h:=e1 ak bW;exact go
   have h:=e2 ak bW;exact go
  cases h;exact ho (g1.1,g1.2) 0
 refine aL λcG hr z3 sm h=>?_;refine aA h λdF j3 h=>fF 0 underlying241 K4 Qs j3 λj0 ly=>?_;refine cO (b7 (az.ret ?_));exact ar.jW (α:=h9) 0 [6,70] ⟨rfl,rfl,trivial⟩ I go
def UN{hp ab aj aG r}(h:BK hp ab aj aG=some r):iG prog 342 [J.of ab,J.of aj,J.of aG] hp (J.of r) hp:=by
 unfold BK at h;refine bR.of func342 I ntmps342 I λW A=>?_;refine aL λbj=>?_;refine aA h λbz dd h=>aA h λc1 dj h=>aA h λcc eS h=>aA h λc2 eX h=>aA h λan bs h=>aA h λaF b5 h=>aA h λbg ej h=>az.eM 26 ?_;exact go
def U6{hp ab Q}(h:zo hp ab Q):lJ prog 7 [J.of ab] hp Q:=by
 unfold zo at h;refine bR.of func7 I ntmps7 I λW A=>b6 (ny λbj=>?_);refine bk (cV ou) (ht ?_);obtain⟨n5,sh,uK⟩:=ai.ex h;obtain⟨apO,ank,anl⟩:=ai.apP uK;refine gU [1,2] ?_;refine az.AH mixed [1,3,5] [(0,3,J.of ab),(2,5,J.of ab),(4,7,J.of ab)] ?_;refine gI.md [] [0,2,4] [1] ⟨?_,trivial⟩;refine h2.of (ks:=[]) (λx:Subtype n5=>[(4,J.of x.1.1)]) (λx=>[]) (λx=>(a8 bj ab::a6 x.1.2)) (λ⟨an,iP⟩=>?_) (λo aU ef iR aM k=>?_)
 ·refine gI.md [0] [2,4] [3] ⟨?_,trivial⟩
  ·refine h2.of (ks:=[]) (λx: {z // apO (an,z)} =>[(6,J.of x.1.1)]) (λx=>[]) (λx=>(a8 bj ab::a6 x.1.2)) (λ⟨aF,Rc⟩=>?_) (λo aU ef iR aM k=>?_)
   ·have h:=anl (an,aF) Rc;refine gI.md [2,0] [4] [5] ⟨h2.tail [4,3,2,1,0] ?_,trivial⟩;refine ae.eL (L2:=(a8 bj ab::a6 aF.2)) I (ae.le (E':=[(1,J.df bj),(2,J.of (none:Ref)),(4,J.of an.1),(6,J.of aF.1),(7,J.of ab)]) .all ?_);refine ae.dV 1 0 I anm (afk h) I I ⟨ag I,trivial⟩ I λ⟨⟨bd,h⟩,aq⟩=>ae.dh ?_;refine bk (sR (b:=({(default:e7)with me:=an.1,qq:=aF.1,sV:=bd.1}:e7)) [3] aiS I ann ano (.cons D8 I (ag I) I (by rfl) (.cons Um I (ag I) I (by rfl) (.cons T4 I (ag I) I (by rfl) (.nil))))) ?_;refine ae.own (α:=fb) 139 (ae.Zj (ag I) I λbB=>ae.LO (γ:=fb) (b':=({({(default:e7)with me:=an.1,qq:=aF.1,sV:=bd.1}:e7)with fN:=[]}:e7)) ((aN.id e7).comp D1) 0 0 I I I (ae.X9 3 2 (Cell.kj ({({(default:e7)with me:=an.1,qq:=aF.1,sV:=bd.1}:e7)with fN:=([]:aa fb)}:e7) none 0) I I I I ln λbS pP apQ=>?_));replace h:=ai.pz (h (none,0)) bS pP;refine ae.Ya 10 I apQ (cO (b7 (az.ret ?_)));exact ar.eI (⟨⟨((some bS.1:Ref),bS.2),h⟩,()⟩: {r // _}×_) (eV 1) I I (dv I)
   cases aU;refine ae.dV 1 0 I anp (afI (ank an iP)) I I ⟨ag (aM I),trivial⟩ I λ⟨⟨aF,Rc⟩,_⟩=>ae.dh (ae.nil ?_);exact k ⟨aF,Rc⟩
 cases aU;refine ae.dV 1 0 I anq (afm sh) I I ⟨ag (aM I),trivial⟩ I λ⟨⟨an,iP⟩,_⟩=>ae.dh (ae.nil ?_);exact k ⟨an,iP⟩
instance:ea prog 69 _ _ _ N7 J.of J.of J.of:=.i func69 I ntmps69 I λab aj r h W A=>by
 unfold N7 at h;refine b6 (ny λbj=>?_);refine ny λbB=>?_;refine cO (fD ?_);refine n2 1 kL ?_;refine n2 0 pL ?_;refine aA h λan bs h=>lD Zn.cf (Zn.m _ _ _ bs) ?_;refine cJ ?_;refine pW ?_;refine pW ?_;refine pQ sd λbX=>?_;refine AB 0 ke ?_;refine cO (ht (b6 ?_));refine cJ ?_;refine db qv (b7 ?_);refine mq h (λh=>?_) λh=>?_
 ·refine b6 (cO (b7 (az.ret (ar.ret ?_))));cases h;exact pd
 refine k8 (az.seq (b6 (db (cg zO.fd) ?_)));refine nz 1 sH vZ ?_;refine db (xP underlying50) ?_;refine db (cg sZ.fd) ?_;refine nz 0 oS se ?_;refine db (xP underlying38) ?_;refine ef Qt (b7 ?_);refine mq h (λh=>?_) λh=>?_
 ·refine b6 (cO (b7 (az.ret (ar.ret ?_))));cases h;exact pd
 refine k8 (az.seq (b6 (db (cg zO.fd) ?_)));refine nz 1 sH vZ ?_;refine db (xP underlying50) ?_;refine cJ (b7 (az.block ?_));refine aA h λau ao h=>fc (γ:=Unit) (δ:=Unit) ao [0,1,2,3,5,6,18,25,27,28] (λs1 g1=>[(4,J.of (0:Int)),(29,J.of s1)]) (λs1 g1=>[]) (λaq=>Sum.elim (λaq=>Exit.exit 0) (λaq=>Exit.ret) aq) (λaq g1=>Sum.elim (λaq=>[(4,J.of (0:Int)),(29,J.of aq.1),(30,J.of aq.2)]) (λaq=>[(4,J.of aq.1),(7,J.of aq.2.1),(29,J.of aq.2.2.1),(30,J.of aq.2.2.2.1),(42,J.of aq.2.2.2.2)]) aq) (λaq g1=>[]) () (λs1 r h g1=>?_) λg1=>?_
 ·refine b6 (ef o3 (ht ?_));refine mq h (λh=>?_) λh=>?_
  ·refine k8 (az.seq (az.block (b6 (cJ ?_))));refine aA h λaJ cQ h=>GS cQ underlying50 sf ?_;refine db (jE sf) ?_;refine pQ xW λey=>?_;refine cO ?_;refine AB 0 sf (ht (az.seq ?_));refine aA h λbE dJ h=>aA h λaF b5 h=>az.lk mixed 9 (rg 34 9) [[],[],[1],[],[2,3],[4],[5],[0,6],[7]] [_,_,_,_,_,_,_,_,_] ⟨uQ 0 sf,H1 (cg sZ.fd),ki 1 oS se,fP,aaP dJ underlying38 qD,apR xe P4.fd,H1 (jE b8),n4 Zk.cf (Zk.m _ _ _ b5),H1 qv,trivial⟩ (b7 ?_);refine mq h (λh=>?_) λh=>?_
   ·refine b6 (cO (b7 (az.ret (ar.ret ?_))));refine ar.te (ar.ret ?_);cases h;exact ho () 1
   refine k8 (az.seq (aA h λcP ih h=>aA h λfm mo h=>aA h λbd dY h=>aA h λbq eW h=>az.lk mixed 20 (rg 43 20) [[],[0],[1],[2],[2],[2,4],[2],[2,5,6],[2,7],[2,8],[2],[2],[2,11],[2],[2,12,13],[2,14],[2,10,15],[2,3,9,16],[2,17],[2,18]] [_,_,_,_,_,_,_,_,_,_,_,_,_,_,_,_,_,_,_,_] ⟨H1 (cg aiT.fd),ki 0 By n3,fP,cW λL' av=>λhb=>gA (i:=0) (aN.id ct) (r:=(aB aj.ck aJ)) sf (ag I) (av _ _ I I) I I,cW λL' av=>λhb=>cg sZ.fd (ag I),cW λL' av=>λhb=>gA (i:=1) ((aN.id bU).comp oS) (r:=an.1.bQ) se (b1 I hb) (av _ _ I I) I I,cW λL' av=>λhb=>c8 (ag I),cW λL' av=>λhb=>mM (k:=cP) underlying38 qD (b1 I hb) (b1 I hb) (cU (fz ih hb)),cW λL' av=>λhb=>vR xe P4.fd (b1 I hb) I I,cW λL' av=>λhb=>jE b8 (b1 I hb),cW λL' av=>λhb=>gA (i:=3) (aN.id aS) (r:=ab) kL (ag I) (av _ _ I I) I I,cW λL' av=>λhb=>cg sZ.fd (ag I),cW λL' av=>λhb=>gA (i:=1) ((aN.id bU).comp oS) (r:=an.1.bQ) se (b1 I hb) (av _ _ I I) I I,cW λL' av=>λhb=>c8 (ag I),cW λL' av=>λhb=>mM (k:=fm) underlying38 qD (b1 I hb) (b1 I hb) (cU (fz mo hb)),cW λL' av=>λhb=>jE qD (b1 I hb),cW λL' av=>λhb=>ib akD (ae3 (fz dY hb)) ⟨b1 I hb,b1 I hb,trivial⟩,cW λL' av=>λhb=>ib akE (ae4 (fz eW hb)) ⟨b1 I hb,b1 I hb,b1 I hb,trivial⟩,cW λL' av=>λhb=>qv (b1 I hb),gC λav=>xN (ag I) (ag I) (λh=>h),trivial⟩ (b7 ?_)));refine mq h (λh=>?_) λh=>?_
   ·refine b6 (cO (b7 (az.ret ?_)));refine ar.te (ar.ret ?_);cases h;exact ho () 1
   refine az.skip (ar.ri (ar.next (az.fk (ef lr ?_))));refine cJ (ae.nil ?_);cases h;exact hY () 1
  refine az.exit (ar.exit ?_);cases h;exact ho () 0
 rcases au with au|au
 ·simp only[Sum.elim_inl]at h;refine ar.qs (ar.next (b6 (cO ?_)));refine cO (ht (b6 ?_));refine n2 0 ke ?_;refine aA h λbM fY h=>lD ZB.cf (ZB.m _ _ fY) (b7 ?_);refine aA h λm1 bW h=>gl (γ:=Unit) [0,1,2,3,4,5,6,18,25,27,28,29,30,65] (λg2=>[(9,J.of m1.1),(10,J.of m1.2)]) (λg2=>[]) (λg2=>?_) (λhm ak=>?_) λhm ak=>?_
  ·refine ar.next (az.seq (b6 (db (cg KF.fd) ?_)))
   refine nz 1 Ec b8 ?_;refine cJ ?_;refine ef o3 ?_;refine cJ ?_;refine qG (cg KF.fd) ?_;refine jM (λhb=>gA (i:=1) ((aN.id bp).comp Ec) (r:=aj.ka) b8 (b1 I hb) I I I) ?_;refine qG c8 ?_;refine yh F1 ?_;refine RJ (b7 ?_);refine mq h (λh=>?_) λh=>?_
   ·refine b6 (cO (b7 (az.ret (ar.ret ?_))));cases h;exact pd
   refine k8 (b6 (cO (b7 (az.ret ?_))));cases h;exact pd
  ·have h:=e1 ak bW;refine az.fk (cO ?_);refine cO (ae.nil ?_);cases h;exact dM 0 (hm ())
  have h:=e2 ak bW;refine az.skip ?_;cases h;exact dM 0 (hm ())
 simp only[Sum.elim_inr]at h;refine ar.te (ar.ret ?_);cases h;exact pd
def aeo{ab aj r}(h:Jh ab aj=some r):cm prog 74 [J.ptr ab,J.ptr aj] (J.of r):=by
 unfold Jh at h;refine cm.of func74 I ntmps74 I λW A=>?_;exact go
def Uz{hp ab aj r}(h:BD hp ab aj=some r):iG prog 129 [J.of ab,J.of aj] hp (J.of r) hp:=by
 unfold BD at h;refine bR.of func129 I ntmps129 I λW A=>?_;refine aL ?_;refine az.scope (go2 (λh=>?_) (λh=>?_))
 ·exact ar.ZC go
 refine az.label (aL λbz dd c1 dj h=>?_);refine aA h λau ao h=>wi (σ:=Int) (ε:=(Int×Int×Bool)) (γ:=Unit) (δ:=Unit) ao 0 [0,1,4,9,14,15] (λs1 g1=>[(5,J.of (-1)),(16,J.of s1)]) (λs1 g1=>[]) (λs1 g1=>a6 hp) (λaq=>Exit.exit 0) (λaq g1=>[(5,J.of aq.1),(16,J.of aq.2.1),(17,J.of aq.2.2)]) (λaq g1=>[]) (λaq g1=>a6 hp) () (λs1 r h g1=>?_) (λg1=>?_)
 ·exact go
 refine aL ?_;exact ar.ZC go
def UT{hp ab r}(h:BP hp ab=some r):iG prog 344 [J.of ab] hp (J.of r) hp:=by
 unfold BP at h;refine bR.of func344 I ntmps344 I λW A=>b6 (cO (fD ?_));refine cJ ?_;refine aA h λbz dd h=>bk (mg (jq (ag I) dd)) ?_;refine db (cg ahI.fd) ?_;refine aA h λc1 dj h=>bk (oX ((aN.id eG).comp EU) (r:=c1.gr) n3 (ag I) (jc (n:=0) I (re dj) I) I I) ?_;refine db qv ?_;refine cJ ?_;refine qG c8 ?_;refine aA h λcc eS h=>jM (λhb=>mg (jq (b1 I hb) (fz eS hb))) ?_;refine qG (cg Kk.fd) ?_;refine aA h λc2 eX h=>jM (λhb=>oX ((aN.id eG).comp Bv) (r:=c2.du) Yq (b1 I hb) (jc (n:=0) I (re (fz eX hb)) I) I I) ?_;refine jM (λhb=>agP (b:=(default:Vector Ref 2)) (sz:=1) I underlying452 (by kernel_rfl) akF (.nil)) ?_;refine jM (λhb=>agQ underlying452 jY underlying450 aiU (b1 I hb) (b1 I hb) akG) ?_;refine AI ?_;refine cO (b7 (az.ret ?_));cases h;exact ar.eI () (.refl _) I I (dv I)
def acS{hp ab aj aG cx LW PC PD r}(h:IF hp ab aj aG cx=some r):bR prog 349 [J.of ab,J.of aj,J.of aG,J.df LW] ([⟨some LW,.cq ([]:aa e8) [(0,aO PC cx.length PD)]⟩,⟨PC,.row 465 cx PD⟩]++a6 hp) (δ:=(aw Nat×Nat)) (λd=>J.bY []) (λd=>[⟨some LW,.cq ([]:aa e8) [(0,aO d.1 r.length d.2)]⟩,⟨d.1,.row 465 r d.2⟩]++a6 hp):=by
 unfold IF at h;refine bR.of func349 I ntmps349 I λW A=>?_;refine aL λbj bz dd c1 dj h=>?_;refine aA h λm1 bW h=>ye (γ:=(aw Nat×Nat)) 3 [0,1,2,3,5,10] (λg1=>[]) (λg1=>[(1,⟨some LW,.cq ([]:aa e8) [(0,aO g1.1 m1.length g1.2)]⟩),(2,⟨g1.1,.row 465 m1 g1.2⟩)]) (λg1=>a6 hp) (λg1=>?_) (λhm ak=>?_) (λhm ak=>?_)
 ·refine ar.lv (ar.b4 2 I (ar.b4 2 I ?_));cases h;exact ar.mL (g1.1,g1.2) (.cons_cons _ (.cons_cons _ (.cons _ (.refl _)))) I I
 ·have h:=e1 ak bW;refine az.lk mixed 9 (rg 11 9) [[],[],[],[],[3],[4],[5],[1,2,6],[7]] [_,_,_,_,_,_,_,_,_] ⟨gC λav=>gN (i:=1) (q:=0) (β:=aa e8) (γ:=e8) Qu (ag I) (av _ _ I I) I,uQ 0 hV,fP,fP,gC λav=>mg (jq (ag I) dd),H1 (cg ahJ.fd),gC λav=>oX ((aN.id eG).comp Jo) (r:=c1.kB) b8 (ag I) (o8 (λi e q=>av i e q I) (jc (n:=3) I (re dj) I)) I I,gC λav=>kc (b:= {bV:=aj,zC:=aG,cd:=c1.kB:e8}) I akH Qv (.cons acT I (ag I) I (.cons acJ I (ag I) I (.cons adQ I (ag I) I (.nil)))),gC λav=>F4 (r:=[{bV:=aj,zC:=aG,cd:=c1.kB:e8}]) underlying461 Qw Qv I I (.cons (by simp) (ag I) (.nil)),trivial⟩ ?_;refine aA h λan bs h=>fF 2 underlying461 Qw Qv bs λed dq=>?_;refine ae.iZ (i:=1) (γ:=e8) (b':=([]:aa e8)) (os':=[(0,aO ed an.length dq)]) (aN.id (aa e8)) Qu (ag I) (ag I) hU I I I I (ae.nil ?_);cases h;exact dM 0 (hm (ed,dq))
 have h:=e2 ak bW;refine az.skip ?_;cases h;exact dM 0 (hm (PC,PD))
instance ZD:ea prog 352 _ _ _ Fk J.of J.of J.of:=.i func352 I ntmps352 I λab aj r h W A=>by
 unfold Fk at h;exact go
instance ZE:ea prog 351 _ _ _ OQ J.of J.of J.of:=.i func351 I ntmps351 I λab aj r h W A=>by
 unfold OQ at h;exact go
def acj{ab:aa aK}{aj aG:Int}{uE:aw Nat}{gp:Nat}{r:aa aK}(h:MN ab aj aG=some r):bR prog 368 [J.eq (aO uE ab.length gp),J.of aj,J.of aG] [⟨uE,.row 186 ab gp⟩] (δ:=(aw Nat×Nat)) (λd=>J.eq (aO d.1 r.length d.2)) (λd=>[⟨d.1,.row 186 r d.2⟩]):=by
 unfold MN at h;obtain⟨m,n,rfl,rfl,wj,aI,rfl⟩:=af4 h;refine bR.of func368 I ntmps368 I λW A=>?_;refine az.seq (az.fk (ae.v (cV k2) I I I (ae.nil (ar.next (az.seq (az.fk (ae.v (c8 (ag I)) I I I (ae.v (c8 (ag I)) I I I (ae.v (c8 (ag I)) I I I (ae.v (c8 (ag I)) I I I (ae.v (oZ (i:=0) (xs:=ab) underlying61 (ag I) I I) I I I ?_)))))))))));refine ae.v (agR (i:=0) (xs:=ab) underlying61 gB (ag I) I (ag I) (ag I) (ag I) ⟨wj,aI,iu _⟩) I I I ?_;refine ae.nil (ar.next (az.seq (az.seq (az.fk (ae.v (c8 (ag I)) I I I (ae.v (c8 (ag I)) I I I (ae.v (mh (ag I) (ag I)) I I I (ae.nil (ar.next (az.cond (ag I) (λak=>?_) (λak=>?_)))))))))))
 ·have anr:m=n:=by simp only[oT]at ak;omega
  subst anr;rw[gb];refine az.seq (az.fk (ae.v (c8 (ag I)) I I I (ae.v (cV (ag I)) I I I (ae.nil (ar.next (az.ret ?_))))));repeat (apply ar.ret)
  exact ar.eI (uE,gp) (.cons_cons _ (sG _)) I I (dv I)
 have b9:m<n:=by simp only[TU]at ak;omega
 refine az.skip (ar.next (az.some (i:=0) (xs:=ab) I (by omega) λp hp xX AJ=>?_));subst hp;refine az.seq (az.fk (ae.v (c8 (ag I)) I I I (ae.v (oZ (i:=0) (xs:=ab) underlying61 (ag I) I I) I I I ?_)));refine ae.v (cV (ag I)) I I I (ae.nil (ar.next ?_));have hlen:(ab.take m++ab.drop n++ab.drop (m+(ab.length-n))).length=ab.length:=by simp only[fh,fy,ku];omega
 have Df:(ab.take m++ab.drop n).length=m+(ab.length-n):=by simp only[fh,fy,ku];omega
 refine az.seq (az.le (E':=[(0,J.eq (aO (some p) ab.length gp)),(1,J.of (m:Int)),(2,J.of (n:Int)),(7,J.of (ab.length:Int))]) .all ?_);refine az.Mx mixed (⟨some 20,[],[],[],λ_=>J.eq (aO (some p) ab.length gp),λ_ _=>⟨none,.dead⟩⟩::⟨some 21,[],[],[],λ_=>J.of (m:Int),λ_ _=>⟨none,.dead⟩⟩::⟨some 22,(0::1::[]),(0::[]),[],λ_=>J.eq (hE (some p) 0 (m-0) gp (ah.size aK)),λ_ _=>⟨none,.dead⟩⟩::⟨some 23,[],[],[],λ_=>J.eq (aO (some p) ab.length gp),λ_ _=>⟨none,.dead⟩⟩::⟨some 24,[],[],[],λ_=>J.of (n:Int),λ_ _=>⟨none,.dead⟩⟩::⟨some 25,(3::4::[]),(0::[]),[],λ_=>J.eq (hE (some p) n (ab.length-n) gp (ah.size aK)),λ_ _=>⟨none,.dead⟩⟩::⟨some 26,(0::1::2::3::4::5::[]),(0::[]),(0::[]),λ_=>J.eq (aO (some p) (m+(ab.length-n)) gp),λ_ _=>⟨some p,.row 186 (ab.take m++ab.drop n++ab.drop (m+(ab.length-n))) gp⟩⟩::⟨some 0,(0::1::2::3::4::5::6::[]),[],[],λ_=>J.eq (aO (some p) (m+(ab.length-n)) gp),λ_ _=>⟨none,.dead⟩⟩::[]) (0::1::2::7::[]) ⟨?_,?_,?_,?_,?_,?_,?_,?_,trivial⟩ λhd=>?_
 ·exact j1 I I I λhd E' L' aM av=>c8 (ag (aM _ _ I))
 ·exact j1 I I I λhd E' L' aM av=>c8 (ag (aM _ _ I))
 ·exact j1 I I I λhd E' L' aM av=>vC (i:=0) (xs:=ab) underlying61 gB (ag (aM _ _ I)) (av 0 _ I I) .none (.some (ag (aM _ _ I))) I I ⟨q7 _,by omega⟩
 ·exact j1 I I I λhd E' L' aM av=>c8 (ag (aM _ _ I))
 ·exact j1 I I I λhd E' L' aM av=>c8 (ag (aM _ _ I))
 ·exact j1 I I I λhd E' L' aM av=>vC (i:=0) (xs:=ab) underlying61 gB (ag (aM _ _ I)) (av 0 _ I I) (.some (ag (aM _ _ I))) .none I I ⟨aI,iu _⟩
 ·intro hd E' L' aM av;have bu:=av 0 _ I I;refine ae.aiV (i:=0) (m:=m) (n:=n) (xs:=ab) underlying61 gB (ag (aM _ _ I)) (ag (aM _ _ I)) bu b9 aI I ?_;exact ae.nil (ar.fin (fK []) I I)
 ·exact j1 I I I λhd E' L' aM av=>cV (ag (aM _ _ I))
 refine ar.next (az.seq (az.fk (ae.v (c8 (ag I)) I I I (ae.v (c8 (ag I)) I I I (ae.v (aiW underlying61 (ag I)) I I I (ae.v (c8 (ag I)) I I I (ae.v (vD (α:=aK) (m:=m+(ab.length-n)) (h:=ab.length) underlying61 gB (ag I) (.some (ag I)) (.some (ag I)) I I ⟨by omega,xX⟩) I I I ?_)))))))
 refine ae.clear (i:=0) (lo:=m+(ab.length-n)) (n:=ab.length-(m+(ab.length-n))) (xs:=ab.take m++ab.drop n++ab.drop (m+(ab.length-n))) underlying61 gB qw I (ag I) I (by rw[hlen];omega) I ?_;refine ae.nil (ar.next (az.seq (az.fk (ae.v (c8 (ag I)) I I I (ae.v (cV (ag I)) I I I (ae.nil (ar.next (az.ret ?_))))))));have ZF:(uu (ab.take m++ab.drop n++ab.drop (m+(ab.length-n))) (m+(ab.length-n)) (ab.length-(m+(ab.length-n)))).take (m+(ab.length-n))=ab.take m++ab.drop n:=by
  unfold uu;rw[jn,Bj (by rw[fy,hlen];omega),rM,Nat.min_self,Bj (by rw[Df];exact iu _),<-Df,nf]
 refine ar.again (.row 186 (ab.take m++ab.drop n) gp) 0 I (λA W o h=>?_) (λh=>?_) ?_
 ·have fp:=FC (n:=m+(ab.length-n)) (by unfold uu;simp only[fh,fy,DZ,ku,hlen];omega) h;rwa[ZF]at fp
 ·exact⟨by rw[<-ZF,h.1];simp,h.2⟩
 refine ar.eI ((some p,gp):aw Nat×Nat) (.cons_cons _ (sG _)) I ?_ (dv I);rw[Df]
def Us{hp ab aj r}(h:Bz hp ab aj=some r):iG prog 82 [J.of ab,J.of aj] hp (J.bY []) r:=by
 unfold Bz at h;refine bR.of func82 I ntmps82 I λW A=>?_;refine aL ?_;refine aA h λm1 bW h=>ye (γ:=Unit) 0 [0,1,5] (λg1=>[]) (λg1=>[]) (λg1=>a6 m1) (λg1=>?_) (λhm ak=>?_) (λhm ak=>?_)
 ·exact ar.lv go
 ·have h:=e1 ak bW;refine aL λbz dd h=>?_;exact aA h λc1 dj h=>aA h λbL gv h=>ae.pD (k':=Cell.qE ({c1 with nT:=max 1 aj}:k0)) 0 I ((aN.id k0).comp IM) (v:=(max 1 aj:Int)) b8 (ag I) (ag I) (vL dj) I I I I (cZ gv) go
 have h:=e2 ak bW;exact go
instance:ea prog 215 _ _ _ B0 J.of J.of J.of:=.i func215 I ntmps215 I λab aj r h W A=>by
 unfold B0 at h;exact go
instance:ea prog 216 _ _ _ Fc J.of J.of J.of:=.i func216 I ntmps216 I λab aj r h W A=>by
 unfold Fc at h;exact go
def UI{hp ab aj aG cx r}(h:BG hp ab aj aG cx=some r):iG prog 175 [J.of ab,J.of aj,J.of aG,J.of cx] hp (J.bY []) r:=by
 unfold BG at h;refine bR.of func175 I ntmps175 I λW A=>?_;refine aL λbj=>?_;refine aA h λbz dd h=>aA h λc1 dj h=>aA h λcc eS h=>aA h λc2 eX h=>aA h λbg ej h=>az.K6 1 1 (gU [0,1,2,3,5] ?_);refine az.cf 2 (aQ 9 [] [] _::aQ 10 [0] [] _::aQ 11 [1] [] _::aQ 12 [2] [] _::aQ 13 [] [0] _::aQ 14 [3,4] [] (J.of bg)::tn 8 [] 1 6 _::j9 [5,6] [1] [1] (λhd=>a8 ((hd 6 0).getD 0) bg)::[]) (fo ?_ kT) (λek=>?_)
 ·intro hd E' L' aM av cC;refine bk (vF (r:=bg) underlying132 Qx akI (k1 (ag (aM _ _ I)) eS) (ag (aM _ _ I)) (jc (n:=2) (cC.trans I) (uv eX) I) (cZ ej)) (ae.nil ?_);exact ar.fin (fK []) I I
 refine ar.eL (L2:=(a8 bj aj::a8 ((ek 6 0).getD 0) bg::a6 hp)) I (je ?_);refine ar.b4 1 I (ar.next (b6 (db (cg WW.fd) ?_)));refine nz 0 El b8 ?_;refine cJ ?_;refine ef lr ?_;refine db (cg WW.fd) ?_;refine RK 0 El b8 (fD ?_);refine db (cg WX.fd) ?_;refine nz 0 D9 b8 ?_;refine cJ ?_;refine ef lr ?_;refine db (cg WX.fd) ?_;refine aA h λz2 iD h=>LR 0 D9 b8 (hb:=by exact iD) ?_;refine go2 (λh=>?_) (λh=>?_)
 ·refine aA h λgW rv h=>aA h λet jf h=>az.eM 5 ?_;exact aA h λlM yg h=>aA h λhB sn h=>aA h λbL gv h=>ae.K7 (k':=Cell.r7 (iC hB aj)) 2 I underlying132 Qx (k1 (ag I) yg) (ag I) (uv sn) I I I (cZ gv) go
 refine aA h λl3 AK h=>aA h λjk uR h=>az.eM 6 ?_;refine aA h λwM aaS h=>aA h λjw uS h=>aA h λcN Ak h=>ae.F5 (k':=Cell.r7 (gj jw aj z2)) 2 I (by first|exact .inl I|exact .inr I) underlying132 Qx (k1 (ag I) aaS) (ag I) (ag I) (uv uS) I I I (cZ Ak) ?_;exact ae.nil (ar.lv go)
instance:ea prog 174 _ _ _ Fl J.of J.of J.of:=.i func174 I ntmps174 I λab aj r h W A=>by
 unfold Fl at h;refine aL λbj bB=>?_;refine bk (cV (look_nil (α:=cz))) (fD ?_);refine ae.own (α:=cz) 200 (bk (cV k2) ?_);refine aL ?_;refine aA h λau ao h=>fc (γ:=(aw Nat×Nat)) (δ:=(aw Nat×Nat)) ao [0,1,2,3,4,9,10] (λs1 g1=>[(5,J.eq (aO g1.1 s1.2.length g1.2)),(11,J.of s1.1)]) (λs1 g1=>[(0,⟨g1.1,.row 200 s1.2 g1.2⟩)]) (λaq=>Exit.exit 0) (λaq g1=>[(5,J.eq (aO g1.1 aq.2.2.length g1.2)),(11,J.of aq.1),(12,J.of aq.2.1)]) (λaq g1=>[(0,⟨g1.1,.row 200 aq.2.2 g1.2⟩)]) (none,0) (λs1 r h g1=>?_) λg1=>?_
 ·refine go2 (λaJ cQ bX h=>?_) (λh=>?_)
  ·refine aA h λm1 bW h=>gl (γ:=(aw Nat×Nat)) [0,1,2,3,4,7,9,10,11,12,15] (λg2=>[(5,J.eq (aO g2.1 m1.length g2.2))]) (λg2=>[(1,⟨g2.1,.row 200 m1 g2.2⟩)]) (λg2=>?_) (λhm ak=>?_) λhm ak=>?_
   ·refine aL ?_;cases h;exact hY (g2.1,g2.2) 1
   ·have h:=e1 ak bW;refine az.skip ?_;cases h;exact dM 0 (hm (g1.1,g1.2))
   have h:=e2 ak bW;refine aL ?_;refine aA h λm2 dw h=>gl (γ:=(aw Nat×Nat)) [0,1,2,3,4,7,9,10,11,12,15,21] (λg3=>[(5,J.eq (aO g3.1 m2.length g3.2))]) (λg3=>[(1,⟨g3.1,.row 200 m2 g3.2⟩)]) (λg3=>?_) (λhm ak=>?_) λhm ak=>?_
   ·cases h;exact dM 0 (hm (g3.1,g3.2))
   ·have h:=e1 ak dw;refine aA h λan bs h=>aA h λbg ej h=>az.eM 11 ?_;refine aA h λaF b5 h=>fF 1 underlying93 CC K8 b5 λed dq=>?_;refine cO (ae.nil ?_);cases h;exact dM 0 (hm (ed,dq))
   have h:=e2 ak dw;refine aL ?_;refine aA h λm3 fE h=>gl (γ:=(aw Nat×Nat)) [0,1,2,3,4,7,9,10,11,12,15,21,37] (λg4=>[(5,J.eq (aO g4.1 m3.length g4.2))]) (λg4=>[(1,⟨g4.1,.row 200 m3 g4.2⟩)]) (λg4=>?_) (λhm ak=>?_) λhm ak=>?_
   ·cases h;exact dM 0 (hm (g4.1,g4.2))
   ·have h:=e1 ak fE;refine aA h λbd dY h=>aA h λz2 iD h=>az.eM 11 ?_;refine aA h λbq eW h=>fF 1 underlying93 CC K8 eW λj0 ly=>?_;refine cO (ae.nil ?_);cases h;exact dM 0 (hm (j0,ly))
   have h:=e2 ak fE;refine az.skip ?_;cases h;exact dM 0 (hm (g1.1,g1.2))
  cases h;exact ho (g1.1,g1.2) 0
 refine aL ?_;exact ar.jW (α:=cz) 0 [4,5,56] ⟨rfl,rfl,rfl,trivial⟩ I go
def acr{ab aj r}(h:DT ab aj=some r):cm prog 217 [J.of ab,J.of aj] (J.of r):=by
 unfold DT at h;refine cm.of func217 I ntmps217 I λW A=>?_;exact go
def UA{hp ab aj r}(h:BE hp ab aj=some r):iG prog 87 [J.of ab,J.of aj] hp (J.of r.1) r.2:=by
 unfold BE at h;refine bR.of func87 I ntmps87 I λW A=>b6 (cO (fD ?_));refine cJ ?_;refine cJ ?_;refine aA h λan bs h=>ae.hA (fa.iA 0 I Yr (Uz bs) ⟨ag I,ag I,trivial⟩) I I I (cO (ht (b6 ?_)));refine cJ ?_;refine ef o3 ?_;refine cJ ?_;refine qG c8 ?_;refine qG c8 ?_;refine aA h λbz dd h=>jM (λhb=>mg (jq (b1 I hb) (fz dd hb))) ?_;refine qG (cg Cl.fd) ?_;refine aA h λaJ cQ h=>jM (λhb=>lx (k:=aJ) CD (b1 I hb) (b1 I hb) (cU (fz cQ hb))) ?_;refine aA h λc1 dj h=>jM (λhb=>oX (((aN.id iV).comp y3).comp (aN.idx (α:=Int) 6 aJ (cU (fz cQ hb)).1)) (r:=cu c1.hT aJ) b8 (b1 I hb) (jc (n:=0) I (uw (fz dj hb)) I) I I) ?_;refine yh mh ?_;refine RJ (b7 ?_);refine mq h (λh=>?_) λh=>?_
 ·refine b6 (cO (b7 (az.ret (ar.ret ?_))));cases h;exact ar.eI () (.refl _) I I (dv I)
 refine k8 (az.seq (aA h λcc eS h=>aA h λbE dJ h=>aA h λc2 eX h=>aA h λcP ih h=>az.lk mixed 10 (rg 20 10) [[],[],[0],[2],[1,3],[4],[5],[0],[7],[1,8]] [_,_,_,_,_,_,_,_,_,_] ⟨fP,fP,gC λav=>mg (jq (ag I) eS),H1 (cg Cl.fd),gC λav=>lx (k:=bE) CD (ag I) (ag I) (cU dJ),gC λav=>oX (((aN.id iV).comp y3).comp (aN.idx (α:=Int) 6 bE (cU dJ).1)) (r:=cu c2.hT bE) b8 (ag I) (o8 (λi e q=>av i e q I) (jc (n:=0) I (uw eX) I)) I I,mZ uD,gC λav=>mg (jq (ag I) eS),H1 (cg Cl.fd),gC λav=>lx (k:=cP) CD (ag I) (ag I) (cU ih),trivial⟩ ?_));refine aA h λbL gv h=>ae.pD (k':=Cell.r8 ({c2 with hT:=dS c2.hT cP (bo ((cu c2.hT bE)-1))}:iV)) 0 I (((aN.id iV).comp y3).comp (aN.idx (α:=Int) 6 cP (cU ih).1)) (v:=(bo ((cu c2.hT bE)-1):Int)) b8 (ag I) (ag I) (uw eX) I I I I (cZ gv) (fD (cO (b7 (az.ret ?_))));cases h;exact ar.eI () (.refl _) I I (dv I)
instance aaT:ea prog 30 _ _ _ Oc J.of J.of J.of:=.i func30 I ntmps30 I λab aj r h W A=>by
 unfold Oc at h;refine aL λbj an bs h=>?_;refine bk (Pz (k:=4) underlying145 k4 (ag I) (cH 4) ⟨by decide,rfl⟩) ?_;exact go
instance:ea prog 101 _ _ _ Od J.of J.of J.of:=.i func101 I ntmps101 I λab aj r h W A=>by
 unfold Od at h;refine aL λbj an bs h=>?_;refine bk (Pz (k:=0) underlying145 k4 (ag I) (cH 0) ⟨by decide,rfl⟩) ?_;exact go
instance:gx prog 50 _ _ OC J.of J.of:=.i func50 I ntmps50 I λab r h W A=>by
 unfold OC at h;refine aL λbj bB=>?_;refine aA h λau ao h=>fc (γ:=Unit) (δ:=Unit) ao [0,2,3] (λs1 g1=>[(4,J.of s1.1)]) (λs1 g1=>[(0,a8 bB s1.2)]) (λaq=>Exit.exit 0) (λaq g1=>[(4,J.of aq.1),(8,J.of aq.2.1)]) (λaq g1=>[(0,a8 bB aq.2.2)]) () (λs1 r h g1=>?_) λg1=>?_
 ·exact go
 exact go
instance:gx prog 187 _ _ Fv J.of J.of:=.i func187 I ntmps187 I λab r h W A=>by
 unfold Fv at h;refine b6 (pQ akJ λbj=>fD ?_);refine cJ ?_;refine ef o3 ?_;refine cO (fD ?_);refine ae.own (α:=Int) 3 (bk (cV k2) (ht (az.block ?_)));refine aA h λau ao h=>fc (γ:=(aw Nat×Nat)) (δ:=(aw Nat×Nat)) ao [2,3] (λs1 g1=>[(0,J.of s1.1),(4,J.eq (aO g1.1 s1.2.length g1.2))]) (λs1 g1=>[(0,⟨g1.1,.row 3 s1.2 g1.2⟩)]) (λaq=>Exit.exit 0) (λaq g1=>[(0,J.of aq.1),(4,J.eq (aO g1.1 aq.2.2.length g1.2)),(9,J.of aq.2.1)]) (λaq g1=>[(0,⟨g1.1,.row 3 aq.2.2 g1.2⟩)]) (none,0) (λs1 r h g1=>?_) λg1=>?_
 ·refine go2 (λan bs h=>?_) (λh=>?_)
  ·refine aA h λm1 bW h=>gl (γ:=Unit) [0,2,3,4,9,13] (λg2=>[(5,J.of m1)]) (λg2=>[]) (λg2=>?_) (λhm ak=>?_) λhm ak=>?_
   ·refine aL ?_;refine aA h λaF b5 h=>fF 0 underlying39 b8 pb b5 λed dq=>?_;refine aL λbd dY h=>?_;cases h;exact hY (ed,dq) 0
   ·have h:=e1 ak bW;exact go
   have h:=e2 ak bW;exact go
  cases h;exact ho (g1.1,g1.2) 0
 refine aL ?_;exact ae.jW (α:=Int) 0 [23,4] ⟨rfl,rfl,trivial⟩ I go
instance:ea prog 239 _ _ _ OD J.of J.of J.of:=.i func239 I ntmps239 I λab aj r h W A=>by
 unfold OD at h;refine b6 (bk (cV (look_nil (α:=Int))) (fD ?_));refine ae.own (α:=Int) 3 (bk (cV k2) ?_);refine aL ?_;refine aA h λau ao h=>fc (γ:=(aw Nat×Nat)) (δ:=(aw Nat×Nat)) ao [0,1,4] (λs1 g1=>[(5,J.eq (aO g1.1 s1.2.2.length g1.2)),(6,J.of s1.1),(7,J.of s1.2.1)]) (λs1 g1=>[(0,⟨g1.1,.row 3 s1.2.2 g1.2⟩)]) (λaq=>Exit.exit 0) (λaq g1=>[(5,J.eq (aO g1.1 aq.2.2.2.length g1.2)),(6,J.of aq.1),(7,J.of aq.2.1),(16,J.of aq.2.2.1)]) (λaq g1=>[(0,⟨g1.1,.row 3 aq.2.2.2 g1.2⟩)]) (none,0) (λs1 r h g1=>?_) λg1=>?_
 ·refine go2 (λbg ej an bs aF b5 bd dY h=>?_) (λbg ej h=>?_)
  ·refine aA h λbq eW h=>fF 0 underlying39 b8 pb eW λed dq=>?_;refine aL λbM fY h=>?_;cases h;exact hY (ed,dq) 0
  cases h;exact ho (g1.1,g1.2) 0
 refine aL ?_;exact ar.jW (α:=Int) 0 [4,5,35] ⟨rfl,rfl,rfl,trivial⟩ I go
def VJ:Go.Shelf.Ren:=⟨λ|6=>139|15=>178|14=>181|28=>226|29=>201|20=>229|21=>230|22=>231|23=>232|24=>233|25=>234|26=>235|27=>236|46=>270|47=>266|48=>267|49=>271|50=>272|57=>283|n=>n,λ|22=>61|24=>186|25=>255|3=>3|39=>271|0=>0|53=>358|55=>45|4=>4|46=>352|45=>351|50=>305|5=>5|9=>9|66=>392|70=>396|76=>406|77=>157|n=>n,λ|n=>n⟩
def akK:Go.Proofs.SlLaysF0.n6 prog VJ:= {
 mixed:=by kernel_rfl
 f6:=⟨f139.name,by decide,func139.trans (ec some (by kernel_rfl))⟩
 f14:=⟨f181.name,by decide,func181.trans (ec some (by kernel_rfl))⟩
 f15:=func178.trans (ec some (by kernel_rfl))
 f20:=⟨f229.name,by decide,func229.trans (ec some (by kernel_rfl))⟩
 f21:=⟨f230.name,by decide,func230.trans (ec some (by kernel_rfl))⟩
 f22:=⟨f231.name,by decide,func231.trans (ec some (by kernel_rfl))⟩
 f23:=⟨f232.name,by decide,func232.trans (ec some (by kernel_rfl))⟩
 f24:=⟨f233.name,by decide,func233.trans (ec some (by kernel_rfl))⟩
 f25:=⟨f234.name,by decide,func234.trans (ec some (by kernel_rfl))⟩
 f26:=⟨f235.name,by decide,func235.trans (ec some (by kernel_rfl))⟩
 f27:=⟨f236.name,by decide,func236.trans (ec some (by kernel_rfl))⟩
 f28:=func226.trans (ec some (by kernel_rfl))
 f29:=func201.trans (ec some (by kernel_rfl))
 f46:=⟨f270.name,by decide,func270.trans (ec some (by kernel_rfl))⟩
 f47:=func266.trans (ec some (by kernel_rfl))
 f48:=func267.trans (ec some (by kernel_rfl))
 f49:=⟨f271.name,by decide,func271.trans (ec some (by kernel_rfl))⟩
 f50:=⟨f272.name,by decide,func272.trans (ec some (by kernel_rfl))⟩
 f57:=⟨f283.name,by decide,func283.trans (ec some (by kernel_rfl))⟩
 t0:=underlying0
 a0:=isAgg0
 z0:=sizeOf0
 v0:=zeroValue0
 t3:=underlying3
 a3:=isAgg3
 z3:=sizeOf3
 v3:=zeroValue3
 t4:=underlying4
 a4:=isAgg4
 z4:=sizeOf4
 v4:=zeroValue4
 t5:=underlying5
 a5:=isAgg5
 z5:=sizeOf5
 v5:=zeroValue5
 t9:=underlying9
 a9:=isAgg9
 z9:=sizeOf9
 v9:=zeroValue9
 t22:=underlying61
 a22:=isAgg61
 z22:=sizeOf61
 v22:=zeroValue61
 t25:=underlying255
 a25:=isAgg255
 z25:=sizeOf255
 v25:=zeroValue255
 t39:=underlying271
 a39:=isAgg271
 z39:=sizeOf271
 v39:=zeroValue271
 t45:=underlying351
 a45:=isAgg351
 z45:=sizeOf351
 v45:=zeroValue351
 t46:=underlying352
 a46:=isAgg352
 z46:=sizeOf352
 v46:=zeroValue352
 t50:=underlying305
 a50:=isAgg305
 z50:=sizeOf305
 v50:=zeroValue305
 t53:=underlying358
 a53:=isAgg358
 z53:=sizeOf358
 v53:=zeroValue358
 t55:=underlying45
 a55:=isAgg45
 z55:=sizeOf45
 v55:=zeroValue45
 t66:=underlying392
 a66:=isAgg392
 z66:=sizeOf392
 v66:=zeroValue392
 t70:=underlying396
 a70:=isAgg396
 z70:=sizeOf396
 v70:=zeroValue396
 t76:=underlying406
 a76:=isAgg406
 z76:=sizeOf406
 v76:=zeroValue406
 t77:=underlying157
 a77:=isAgg157
 z77:=sizeOf157
 v77:=zeroValue157}
def ack{xs F K}(h:ai.vP xs F K){key:aw Nat}{cap:Nat}:bR prog 139 [.eq (aO key xs.length cap),.GR prog F] [⟨key,.row 186 xs cap⟩] (δ:= {r:aa aK // xs.length=r.length∧K r}) (λ_=>.bY []) (λd=>[⟨key,.row 186 d.1 cap⟩]):=X7 (ρ:=VJ) akK (λ_=>by kernel_rfl) (λ_=>by kernel_rfl) I h
def acm{ab aj aG r}(h:DR ab aj aG=some r):cm prog 183 [J.of ab,J.of aj,J.AE prog aG] (J.of r):=by
 unfold DR at h;refine cm.of func183 I ntmps183 I λW A=>?_;refine aL ?_;refine aA h λau ao h=>fc (γ:=Unit) (δ:=Unit) ao [0,1,2,11,12] (λs1 g1=>[(6,J.of (0:Int)),(13,J.of s1)]) (λs1 g1=>[]) (λaq=>Sum.elim (λaq=>Exit.exit 0) (λaq=>Exit.ret) aq) (λaq g1=>Sum.elim (λaq=>[(6,J.of (0:Int)),(13,J.of aq.1),(14,J.of aq.2)]) (λaq=>[(6,J.of aq.1),(7,J.of aq.2.1),(13,J.of aq.2.2.1),(14,J.of aq.2.2.2.1),(21,J.of aq.2.2.2.2)]) aq) (λaq g1=>[]) () (λs1 r h g1=>?_) λg1=>?_
 ·refine aL (λaJ cQ bj bE dJ bB h=>?_);refine aA h λan bs h=>bk (Kc (ag I) (ag I) (ag I) bs) ?_;exact go
 rcases au with au|au
 ·simp only[Sum.elim_inl]at h;exact go
 simp only[Sum.elim_inr]at h;exact go
def acn{ab aj aG r}(h:DS ab aj aG=some r):cm prog 185 [J.of ab,J.of aj,J.AE prog aG] (J.of r):=by
 unfold DS at h;refine cm.of func185 I ntmps185 I λW A=>?_;refine aL ?_;refine aA h λau ao h=>fc (γ:=Unit) (δ:=Unit) ao [0,1,2,11,12] (λs1 g1=>[(6,J.of (0:Int)),(13,J.of s1)]) (λs1 g1=>[]) (λaq=>Sum.elim (λaq=>Exit.exit 0) (λaq=>Exit.ret) aq) (λaq g1=>Sum.elim (λaq=>[(6,J.of (0:Int)),(13,J.of aq.1),(14,J.of aq.2)]) (λaq=>[(6,J.of aq.1),(7,J.of aq.2.1),(13,J.of aq.2.2.1),(14,J.of aq.2.2.2.1),(21,J.of aq.2.2.2.2)]) aq) (λaq g1=>[]) () (λs1 r h g1=>?_) λg1=>?_
 ·refine aL (λaJ cQ bj bE dJ bB h=>?_);refine aA h λan bs h=>bk (Kc (ag I) (ag I) (ag I) bs) ?_;exact go
 rcases au with au|au
 ·simp only[Sum.elim_inl]at h;exact go
 simp only[Sum.elim_inr]at h;exact go
instance:gx prog 237 _ _ BU J.of J.of:=.i func237 I ntmps237 I λab r h W A=>by
 unfold BU at h;exact go
def UJ{hp ab aj r}(h:BH hp ab aj=some r):iG prog 80 [J.of ab,J.of aj] hp (J.of r.1) r.2:=by
 unfold BH at h;refine bR.of func80 I ntmps80 I λW A=>b6 (cO (fD ?_));refine cJ ?_;refine cJ ?_;refine aA h λan bs h=>ae.hA (fa.iA 0 I Yr (Uz bs) ⟨ag I,ag I,trivial⟩) I I I (cO (ht (az.seq ?_)));refine aA h λbz dd h=>aA h λaJ cQ h=>aA h λc1 dj h=>aA h λcc eS h=>aA h λc2 eX h=>aA h λbE dJ h=>aA h λbg ej h=>az.lk mixed 19 (rg 9 19) [[],[0],[1],[2],[2],[2,3],[2,5],[2,4,6],[2,7],[2],[2,9],[2,10],[2,11],[2],[2,12,13],[2,14],[2,15],[2,8,16],[2,17]] [_,_,_,_,_,_,_,_,_,_,_,_,_,_,_,_,_,_,_] ⟨fP,mZ o3,fP,cW λL' av=>λhb=>c8 (ag I),cW λL' av=>λhb=>c8 (ag I),cW λL' av=>λhb=>mg (jq (b1 I hb) (fz dd hb)),cW λL' av=>λhb=>cg Cl.fd (b1 I hb),cW λL' av=>λhb=>lx (k:=aJ) CD (b1 I hb) (b1 I hb) (cU (fz cQ hb)),cW λL' av=>λhb=>oX (((aN.id iV).comp y3).comp (aN.idx (α:=Int) 6 aJ (cU (fz cQ hb)).1)) (r:=cu c1.hT aJ) b8 (b1 I hb) (o8 (λi e q=>av i e q I) (jc (n:=0) I (uw (fz dj hb)) I)) I I,cW λL' av=>λhb=>c8 (ag I),cW λL' av=>λhb=>mg (jq (b1 I hb) (fz eS hb)),cW λL' av=>λhb=>cg ahK.fd (b1 I hb),cW λL' av=>λhb=>oX ((aN.id iV).comp Nb) (r:=c2.pA) Ll (b1 I hb) (o8 (λi e q=>av i e q I) (jc (n:=0) I (uw (fz eX hb)) I)) I I,cW λL' av=>λhb=>c8 (ag I),cW λL' av=>λhb=>mM (k:=bE) underlying29 xM (b1 I hb) (b1 I hb) (cU (fz dJ hb)),cW λL' av=>λhb=>vR EP ahL.fd (b1 I hb) I I,cW λL' av=>λhb=>jE b8 (b1 I hb),cW λL' av=>λhb=>K1 (b1 I hb) (b1 I hb),abP ej λL' av=>CU (ag I) (ag I) (λh=>h),trivial⟩ (b7 ?_);refine mq h (λh=>?_) λh=>?_
 ·refine b6 (cO (b7 (az.ret (ar.ret ?_))));cases h;exact ar.eI () (.refl _) I I (dv I)
 refine k8 (az.seq (aA h λgW rv h=>aA h λcP ih h=>aA h λet jf h=>aA h λfm mo h=>az.lk mixed 10 (rg 28 10) [[],[],[0],[2],[1,3],[4],[5],[0],[7],[1,8]] [_,_,_,_,_,_,_,_,_,_] ⟨fP,fP,gC λav=>mg (jq (ag I) rv),H1 (cg Cl.fd),gC λav=>lx (k:=cP) CD (ag I) (ag I) (cU ih),gC λav=>oX (((aN.id iV).comp y3).comp (aN.idx (α:=Int) 6 cP (cU ih).1)) (r:=cu et.hT cP) b8 (ag I) (o8 (λi e q=>av i e q I) (jc (n:=0) I (uw jf) I)) I I,mZ lr,gC λav=>mg (jq (ag I) rv),H1 (cg Cl.fd),gC λav=>lx (k:=fm) CD (ag I) (ag I) (cU mo),trivial⟩ ?_));refine aA h λbL gv h=>ae.pD (k':=Cell.r8 ({et with hT:=dS et.hT fm (bo ((cu et.hT cP)+1))}:iV)) 0 I (((aN.id iV).comp y3).comp (aN.idx (α:=Int) 6 fm (cU mo).1)) (v:=(bo ((cu et.hT cP)+1):Int)) b8 (ag I) (ag I) (uw jf) I I I I (cZ gv) (fD (cO (b7 (az.ret ?_))));cases h;exact ar.eI () (.refl _) I I (dv I)
def adx{hp ab aj r}(h:IT hp ab aj=some r):iG prog 329 [J.of ab,J.of aj] hp (J.of r.1) r.2:=by
 unfold IT at h;refine bR.of func329 I ntmps329 I λW A=>?_;refine aL λbj=>?_;refine aA h λan bs h=>ae.hA (fa.iA 1 I Yl (US bs) ⟨ag I,ag I,trivial⟩) I I I (aL (λh=>?_));refine aA h λbz dd h=>aA h λc1 dj h=>az.eM 5 ?_;exact aA h λcc eS h=>aA h λc2 eX h=>aA h λbL gv h=>ae.K7 (k':=Cell.qA (iC c2 aj)) 1 I underlying218 K0 (k1 (ag I) eS) (ag I) (ur eX) I I I (cZ gv) go
def acz(n:Nat):∀(hp:aH Cell) (ab:Ref) (aj:Ref) (aG:aV) (cx:Int) (h3:aa e8) (uT:Nat) (vG:aw Nat) (vH:Nat) (r:(aa e8)),y1 n hp ab aj aG cx h3=some r->bR prog 350 [J.of ab,J.of aj,J.of aG,J.of cx,J.of (⟨349,some [.pointer (some ⟨uT,0,none⟩)]⟩:Raw)] ([⟨some uT,.cq ([]:aa e8) [(0,aO vG h3.length vH)]⟩,⟨vG,.row 465 h3 vH⟩]++a6 hp) (δ:=(aw Nat×Nat)) (λd=>J.bY []) (λd=>[⟨some uT,.cq ([]:aa e8) [(0,aO d.1 r.length d.2)]⟩,⟨d.1,.row 465 r d.2⟩]++a6 hp):=by
 induction n with
 |zero=>intro hp ab aj aG cx h3 uT vG vH r h;simp[y1]at h
 | succ n bJ=>
   intro hp ab aj aG cx h3 uT vG vH r h
   simp only[y1]at h
   refine bR.of func350 I ntmps350 I λW A=>?_
   refine go2 (λbj h=>?_) (λbj h=>?_)
   ·refine ar.b4 2 I (ar.b4 2 I ?_)
    cases h
    exact ar.mL (vG,vH) (.cons_cons _ (.cons_cons _ (.cons _ (.refl _)))) I I
   refine ae.b4 2 I (ae.b4 2 I (aA h λan bs h=>ae.qV (eE.ans (τs:=[J.of (aj:Ref),J.of (aG:aV),J.of (cx:Int)]) 3 2 I akL (agS (ag I)) (acS bs) I I ⟨ag I,ag I,ag I,trivial⟩) I I I λaq=>ae.dh (ht ?_)))
   refine aA h λbz dd h=>aA h λc1 dj h=>az.lk mixed 10 (rg 17 10) [[],[],[1],[2],[3],[4],[],[],[7],[]] [_,_,_,_,_,_,_,_,_,_] ⟨fP,fP,gC λav=>mg (jq (ag I) dd),H1 (cg Kk.fd),gC λav=>lx (k:=0) Qy (ag I) (cH 0) ⟨by decide,rfl⟩,gC λav=>oX (((aN.id eG).comp Bv).comp (aN.idx (α:=Ref) 2 0 (⟨by decide,rfl⟩:0<2∧(0:Int)=0).1)) (r:=cu c1.du 0) jY (ag I) (o8 (λi e q=>av i e q I) (jc (n:=3) I (re dj) I)) I I,uQ 2 hV,fP,mZ lr,fP,trivial⟩ ?_
   refine aA h λaF b5 h=>ae.qV (eE.dV 3 2 I Qz (bJ _ _ _ _ _ _ _ _ _ _ b5) I I ⟨ag I,ag I,ag I,ag I,ag I,trivial⟩) I I I λcA=>ae.dh (b7 ?_)
   refine aA h λbd dY h=>aA h λcc eS h=>aA h λc2 eX h=>aA h λbq eW h=>aA h λbM fY h=>az.lk mixed 20 (rg 28 20) [[],[],[1],[2],[3],[4],[],[],[],[8],[9],[10],[11],[],[12,13],[7,14],[6,15],[],[17],[]] [_,_,_,_,_,_,_,_,_,_,_,_,_,_,_,_,_,_,_,_] ⟨fP,fP,gC λav=>mg (jq (ag I) dd),H1 (cg Kk.fd),gC λav=>lx (k:=1) Qy (ag I) (cH 1) ⟨by decide,rfl⟩,gC λav=>oX (((aN.id eG).comp Bv).comp (aN.idx (α:=Ref) 2 1 (⟨by decide,rfl⟩:1<2∧(1:Int)=1).1)) (r:=cu c1.du 1) jY (ag I) (o8 (λi e q=>av i e q I) (jc (n:=3) I (re dj) I)) I I,uQ 2 hV,gC λav=>ib akM (Vo dY) ⟨vB 1 I,trivial⟩,fP,gC λav=>mg (jq (ag I) eS),H1 (cg PB.fd),gC λav=>oX ((aN.id gZ).comp ES) (r:=c2.hn) b8 (ag I) (o8 (λi e q=>av i e q I) (jc (n:=3) I (xx eX) I)) I I,mZ uD,fP,mZ uD,n4 ZD.cf (ZD.m _ _ _ eW),n4 ZE.cf (ZE.m _ _ _ fY),fP,mZ lr,fP,trivial⟩ ?_
   refine aA h λcG hr h=>ae.qV (eE.dV 3 2 I Qz (bJ _ _ _ _ _ _ _ _ _ _ hr) I I ⟨ag I,ag I,ag I,ag I,ag I,trivial⟩) I I I λeZ=>ae.dh (ae.nil ?_)
   refine ar.lv (ar.b4 1 I (ar.b4 1 I ?_))
   cases h
   exact ar.mL (eZ.1,eZ.2) (.cons_cons _ (.cons_cons _ (.cons _ (.refl _)))) I I
def acE{hp ab aj aG cx h3 uT vG vH r}(h:M9 hp ab aj aG cx h3=some r):bR prog 350 [J.of ab,J.of aj,J.of aG,J.of cx,J.of (⟨349,some [.pointer (some ⟨uT,0,none⟩)]⟩:Raw)] ([⟨some uT,.cq ([]:aa e8) [(0,aO vG h3.length vH)]⟩,⟨vG,.row 465 h3 vH⟩]++a6 hp) (δ:=(aw Nat×Nat)) (λd=>J.bY []) (λd=>[⟨some uT,.cq ([]:aa e8) [(0,aO d.1 r.length d.2)]⟩,⟨d.1,.row 465 r d.2⟩]++a6 hp):=acz c9 hp ab aj aG cx h3 uT vG vH r h
def acK{ab aj c3 iM iN r}(h:IA ab aj=some r):bR prog 364 [J.df c3,J.of aj] [⟨some c3,.cq ({ab with da:=[]}:ep) [(10,aO iM ab.da.length iN)]⟩,⟨iM,.row 186 ab.da iN⟩] (δ:=Unit) (λd=>J.of r) (λd=>[⟨some c3,.cq ({ab with da:=[]}:ep) [(10,aO iM ab.da.length iN)]⟩,⟨iM,.row 186 ab.da iN⟩]):=by
 unfold IA at h;refine bR.of func364 I ntmps364 I λW A=>?_;refine aL λbj=>?_;refine bk (KC underlying171 (ag I)) (b7 ?_);refine az.vO (ag I) I (aL ?_);refine bk (gN (i:=1) (q:=0) (β:=ep) (γ:=aK) xY (ag I) I I) ?_;refine ae.share (α:=Int) 0 3 I I (bk (zK (F:=(λa0=>y7 a0 aj)) (τs:=[J.ptr aj]) Ym ⟨ag I,trivial⟩ (λ_ _ h=>Uk h)) ?_);refine aA h λan bs h=>bk (bc.ZG (α:=aK) 2 10 I I zD (ib Yn (Tr bs) ⟨ag I,ag I,trivial⟩)) ?_;refine cO (b7 (az.ret ?_));refine ar.b4 2 I (ar.b4 2 I ?_);cases h;exact tk ()
def adg{hp ab aj r}(h:Ev hp ab aj=some r):iG prog 325 [J.of ab,J.of aj] hp (J.bY []) r:=by
 unfold Ev at h;refine bR.of func325 I ntmps325 I λW A=>?_;refine aL λbj bB=>?_;refine aA h λan bs h=>az.eM 5 ?_;refine aA h λaF b5 h=>ae.dV 2 0 I akN (adx b5) I I ⟨ag I,ag I,trivial⟩ I λaq=>ae.dh (ae.nil ?_);exact ar.lv go
def acA{hp ab aG wk key02_0 cap02_0 r}(h:Io hp ab aG=some r):bR prog 348 [J.of ab,J.of (⟨349,some [.pointer (some ⟨wk,0,none⟩)]⟩:Raw)] ([⟨some wk,.cq ([]:aa e8) [(0,aO key02_0 aG.length cap02_0)]⟩,⟨key02_0,.row 465 aG cap02_0⟩]++a6 hp) (δ:=(aw Nat×Nat)) (λd=>J.bY []) (λd=>[⟨some wk,.cq ([]:aa e8) [(0,aO d.1 r.length d.2)]⟩,⟨d.1,.row 465 r d.2⟩]++a6 hp):=by
 unfold Io at h;refine bR.of func348 I ntmps348 I λW A=>?_;refine aL ?_;refine aA h λm1 bW h=>ye (γ:=(aw Nat×Nat)) 2 [0,1,5] (λg1=>[]) (λg1=>[(0,⟨some wk,.cq ([]:aa e8) [(0,aO g1.1 m1.length g1.2)]⟩),(1,⟨g1.1,.row 465 m1 g1.2⟩)]) (λg1=>a6 hp) (λg1=>?_) (λhm ak=>?_) (λhm ak=>?_)
 ·refine ar.lv (ar.b4 1 I (ar.b4 1 I ?_));cases h;exact ar.mL (g1.1,g1.2) (.cons_cons _ (.cons_cons _ (.refl _))) I I
 ·have h:=e1 ak bW;refine aL λbz dd c1 dj h=>?_;refine aA h λan bs h=>ae.qV (eE.dV 2 2 I Qz (acE bs) I I ⟨ag I,ag I,ag I,cH 0,ag I,trivial⟩) I I I λaq=>ae.dh (ae.nil ?_);cases h;exact dM 0 (hm (aq.1,aq.2))
 have h:=e2 ak bW;refine az.skip ?_;cases h;exact dM 0 (hm (key02_0,cap02_0))
def acF{ab aj c3 iM iN r}(h:D5 ab aj=some r):bR prog 361 [J.df c3,J.of aj] [⟨some c3,.cq ({ab with da:=[]}:ep) [(10,aO iM ab.da.length iN)]⟩,⟨iM,.row 186 ab.da iN⟩] (δ:=(aw Nat×Nat)) (λd=>J.of r.1) (λd=>[⟨some c3,.cq ({r.2 with da:=[]}:ep) [(10,aO d.1 r.2.da.length d.2)]⟩,⟨d.1,.row 186 r.2.da d.2⟩]):=by
 unfold D5 at h;refine bR.of func361 I ntmps361 I λW A=>?_;refine aL ?_;refine aA h λan bs h=>ae.hA (fa.call [0,1] Ys (acK bs) ⟨ag I,ag I,trivial⟩ I ⟨rfl,rfl,trivial⟩ I) I I I ?_;refine go2 (λh=>?_) (λh=>?_)
 ·refine ar.b4 1 I (ar.b4 1 I ?_);cases h;exact tk (iM,iN)
 refine bk (gN (i:=0) (q:=0) (β:=ep) (γ:=aK) xY (ag I) I I) ?_;refine aL ?_;refine ae.b4 1 I (aA h λaF b5 h=>hg 1 akO (acj b5) λaq=>?_);refine aL ?_;refine ae.iZ (i:=1) (γ:=aK) (b':=({ab with da:=[]}:ep)) (os':=[(10,aO aq.1 aF.length aq.2)]) ((aN.id ep).comp BF) xY (ag I) (ag I) hU I I I I ?_;refine aL ?_;refine ar.b4 0 I (ar.b4 1 I ?_);cases h;exact tk (aq.1,aq.2)
instance:ea prog 176 _ _ _ Fe J.of J.of J.of:=.i func176 I ntmps176 I λab aj r h W A=>by
 unfold Fe at h;refine aL λbj bB=>?_;refine bk (cV (look_nil (α:=cz))) (fD ?_);refine ae.own (α:=cz) 200 (bk (cV k2) ?_);refine aL ?_;refine aA h λau ao h=>fc (γ:=(aw Nat×Nat)) (δ:=(aw Nat×Nat)) ao [0,1,2,3,4,10,11] (λs1 g1=>[(5,J.eq (aO g1.1 s1.2.length g1.2)),(12,J.of s1.1)]) (λs1 g1=>[(0,⟨g1.1,.row 200 s1.2 g1.2⟩)]) (λaq=>Exit.exit 0) (λaq g1=>[(5,J.eq (aO g1.1 aq.2.2.length g1.2)),(12,J.of aq.1),(13,J.of aq.2.1)]) (λaq g1=>[(0,⟨g1.1,.row 200 aq.2.2 g1.2⟩)]) (none,0) (λs1 r h g1=>?_) λg1=>?_
 ·refine go2 (λaJ cQ bX h=>?_) (λh=>?_)
  ·refine aA h λan bs h=>aA h λbg ej h=>az.sc 1 (gU [0,1,2,3,4,5,7,10,11,12,13,14,15] ?_);refine az.Bb 5 (aQ 16 [] [] _::aQ 17 [0] [0] _::aQ 18 [] [] _::aQ 19 [2] [0] _::aQ 20 [] [2] _::aQ 21 [] [] _::aQ 22 [5] [0] _::aQ 23 [4,6] [] _::aQ 24 [1,3,7] [] _::tn 8 [] 4 9 _::j9 [8,9] [4] [4] (λhd=>a8 ((hd 9 0).getD 0) bg)::[]) (λek=>?_);refine ar.eL (L2:=[a8 bX (aB ab.dp aJ:eB),⟨g1.1,.row 200 s1.2 g1.2⟩,a8 bB aj,a8 bj ab,a8 ((ek 9 0).getD 0) bg]) I (je ?_);refine ar.b4 4 I (aL ?_);refine aA h λaF b5 h=>jM (λhb=>bc.apS 31 I hb (bc.ZG (α:=cz) 2 31 I I J5 (ib akP (acr (fz b5 hb)) ⟨ag I,b1 I hb,trivial⟩))) ?_;refine aL ?_;refine aA h λm1 bW h=>gl (γ:=(aw Nat×Nat)) [0,1,2,3,4,7,8,10,11,12,13,35] (λg2=>[(5,J.eq (aO g2.1 m1.length g2.2))]) (λg2=>[(2,⟨g2.1,.row 200 m1 g2.2⟩)]) (λg2=>?_) (λhm ak=>?_) λhm ak=>?_
   ·refine aL ?_;cases h;exact hY (g2.1,g2.2) 2
   ·have h:=e1 ak bW;refine aL ?_;refine aA h λbd dY h=>fF 2 underlying93 CC K8 dY λed dq=>?_;refine cO (ae.nil ?_);cases h;exact dM 0 (hm (ed,dq))
   have h:=e2 ak bW;refine az.skip ?_;cases h;exact dM 0 (hm (g1.1,g1.2))
  cases h;exact ho (g1.1,g1.2) 0
 refine aL ?_;exact ar.jW (α:=cz) 0 [4,5,41] ⟨rfl,rfl,rfl,trivial⟩ I go
def adh{ab aj r}(h:Ew ab aj=some r):cm prog 134 [J.of ab,J.of aj] (J.of r):=by
 unfold Ew at h;refine cm.of func134 I ntmps134 I λW A=>?_;refine aL λbj bB=>?_;refine aA h λan bs h=>aA h λaF b5 h=>aA h λbd dY h=>aA h λbq eW h=>az.eM 23 ?_;exact go
def ady{ab aj r}(h:EG ab aj=some r):cm prog 184 [J.of ab,J.of aj] (J.of r):=by
 unfold EG at h;refine cm.of func184 I ntmps184 I λW A=>?_;refine aL (λbj bB h=>?_);refine aA h λan bs h=>aA h λaF b5 h=>aA h λbd dY h=>aA h λbq eW h=>aA h λbM fY h=>aA h λcG hr h=>aA h λdF j3 h=>aA h λdC nA h=>az.eM 27 ?_;exact go
instance:ea prog 51 _ _ _ OE J.of J.of J.of:=.i func51 I ntmps51 I λab aj r h W A=>by
 unfold OE at h;exact go
instance ZH:ea prog 189 _ _ _ Ca J.of J.of J.of:=.i func189 I ntmps189 I λab aj r h W A=>by
 unfold Ca at h;refine aaR (λbj bB bX h=>?_) (λbj bB bX bd dY h=>?_) (λbj bB bX bd dY h=>?_)
 ·refine aA h λan bs h=>aA h λaF b5 h=>az.eM 8 ?_;exact go
 ·refine aA h λbq eW h=>aA h λbM fY h=>az.eM 8 ?_;exact go
 refine aA h λcG hr h=>aA h λdF j3 h=>az.eM 8 ?_;exact go
def afb{ab uE gp r}(h:B6 ab=some r):bR prog 362 [J.eq (aO uE ab.length gp)] [⟨uE,.row 186 ab gp⟩] (δ:=Unit) (λd=>J.of r) (λd=>[⟨uE,.row 186 ab gp⟩]):=by
 unfold B6 at h;refine bR.of func362 I ntmps362 I λW A=>b6 (bk (cV (look_nil (α:=aK))) (fD ?_));refine ae.own (α:=aK) 186 (bk (cV k2) ?_);refine aL ?_;refine bk (oZ (i:=1) underlying61 (ag I) I I) ?_;refine cJ (b7 (az.block ?_));refine aA h λau ao h=>fc (γ:=(aw Nat×Nat)) (δ:=(aw Nat×Nat)) ao [0,2,6,7] (λs1 g1=>[(3,J.eq (aO g1.1 s1.2.length g1.2)),(8,J.of s1.1)]) (λs1 g1=>[(0,⟨g1.1,.row 186 s1.2 g1.2⟩)]) (λaq=>Exit.exit 0) (λaq g1=>[(3,J.eq (aO g1.1 aq.2.2.length g1.2)),(8,J.of aq.1),(9,J.of aq.2.1)]) (λaq g1=>[(0,⟨g1.1,.row 186 aq.2.2 g1.2⟩)]) (none,0) (λs1 r h g1=>?_) λg1=>?_
 ·refine go2 (λh=>?_) (λh=>?_)
  ·refine aA h λaJ cQ h=>bk (lU (i:=1) (k:=aJ) (xs:=(ab:aa aK)) underlying61 gB (ag I) (ag I) I (cU cQ)) ?_;refine bk (sU (i:=1) (k:=aJ) (aN.id aK) (r:=(aB ab aJ)) gB (ag I) I (cU cQ).1 I I) ?_;refine aL λbj an bs h=>?_;refine aA h λaF b5 h=>fF 1 underlying61 gB qw b5 λed dq=>?_;refine aL ?_;cases h;exact hY (ed,dq) 1
  cases h;exact ho (g1.1,g1.2) 0
 refine aL ?_;exact ar.jW (α:=aK) 0 [2,3,18] ⟨rfl,rfl,rfl,trivial⟩ I go
def adR{hp ab aj aG r}(h:EV hp ab aj aG=some r):iG prog 173 [J.of ab,J.of aj,J.of aG] hp (J.bY [J.of r.1,J.of r.2]) hp:=by
 unfold EV at h;refine bR.of func173 I ntmps173 I λW A=>?_;refine aL (λbj bz dd c1 dj h=>?_);refine aA h λcc eS h=>aA h λc2 eX h=>aA h λbg ej h=>bk (vF (r:=bg) underlying159 AD qw (k1 (ag I) eS) (ag I) (jc (n:=1) I (s3 eX) I) (cZ ej)) ?_;exact go
instance:ea prog 374 _ _ _ B1 J.of J.of J.of:=.i func374 I ntmps374 I λab aj r h W A=>by
 unfold B1 at h;refine aL λbj bB an bs bX h=>?_;refine aA h λaF b5 h=>bk (ib X6 (TO b5) ⟨ag I,Wa akQ (λ_ _=>aeh),trivial⟩) ?_;exact go
def aeY{hp ab r}(h:JA hp ab=some r):iG prog 345 [J.of ab] hp (J.of r) hp:=by
 unfold JA at h;refine bR.of func345 I ntmps345 I λW A=>b6 (bk (cV (look_nil (α:=e8))) (fD ?_));refine ae.qp (z:=(default:aa e8)) [0] ahM akR I λbj=>ae.own (α:=e8) 465 (aL ?_);refine bk (QA (f:=349) (us:=[.pointer (some ⟨bj,0,none⟩)]) ⟨ag I,trivial⟩) ?_;refine ae.LO (γ:=e8) (b':=([]:aa e8)) (aN.id (aa e8)) 1 0 I I I (ae.b4 0 I (ae.b4 1 I (aA h λan bs h=>ae.qV (eE.dV 2 2 I akS (acA (key02_0:=none) (cap02_0:=0) bs) I I ⟨ag I,ag I,trivial⟩) I I I λaq=>ae.dh (fD ?_))));refine bk (gN (i:=0) (q:=0) (β:=aa e8) (γ:=e8) Qu (ag I) I I) ?_;refine cO (b7 (az.ret ?_));exact ar.K9 (β:=aa e8) (γ:=e8) (b':=an) (aN.id (aa e8)) 0 1 0 2 I I I I I I I (ar.qt 0 I go)
def adi{hp ab aj Q}(h:Ex hp ab aj Q):AL prog 357 [J.of ab,J.of aj] hp Q:=by
 unfold Ex at h;refine bR.of func357 I ntmps357 I λW A=>?_;refine aL λbj bB=>?_;refine ai.bA h λbz dd h=>ai.bA h λc1 dj h=>ai.bA h λan bs h=>ae.qV (eE.obj 2 (λq:aw Nat×Nat=>Cell.uJ an.2 q.1 q.2) I (zP dj) akT (acF bs) I (λ_=>rfl) ⟨jq (ag I) dd,ag I,trivial⟩) I I I λaq=>?_;replace h:=ai.any_bind h aq;refine ai.bA h λbL gv h=>ae.eL (L2:=(a8 bB aj::a8 bj ab::a6 bL)) (by rw[<-cZ gv];rfl) ?_;exact ae.nil (ar.lv (ar.mL (⟨⟨bL,h⟩,()⟩: {r // _}×_) (eV 2) I I))
def UK{hp ab aj aG r}(h:BI hp ab aj aG=some r):iG prog 131 [J.of ab,J.of aj,J.of aG] hp (J.bY []) r:=by
 unfold BI at h;refine bR.of func131 I ntmps131 I λW A=>?_;refine aL (λbj h=>?_);refine aA h λbz dd h=>aA h λc1 dj h=>aA h λan bs h=>az.eM 8 (b7 (az.block ?_));refine aA h λau ao h=>wi (σ:=Int×(aH Cell)) (ε:=(Int×Bool×(aH Cell))) (γ:=Unit) (δ:=Unit) ao 1 [0,1,2,4,11,17,18] (λs1 g1=>[(19,J.of s1.1)]) (λs1 g1=>[]) (λs1 g1=>a6 s1.2) (λaq=>Exit.exit 0) (λaq g1=>[(19,J.of aq.1),(20,J.of aq.2.1)]) (λaq g1=>[]) (λaq g1=>a6 aq.2.2) () (λs1 r h g1=>?_) (λg1=>?_)
 ·refine aL (λaJ cQ bB h=>?_);refine aA h λaF b5 h=>ae.dV 2 0 I Yt (UI b5) I I ⟨ag I,ag I,ag I,cH 0,trivial⟩ I λcA=>ae.dh ?_;exact go
 refine ar.qs (ar.next (az.seq (aA h λc2 eX h=>aA h λbd dY h=>az.eM 8 (b7 (az.block ?_)))));refine aA h λaW ao h=>wi (σ:=Int×(aH Cell)) (ε:=(Int×Bool×(aH Cell))) (γ:=Unit) (δ:=Unit) ao 1 [0,1,2,4,11,17,18,19,20,33,34] (λs2 g2=>[(35,J.of s2.1)]) (λs2 g2=>[]) (λs2 g2=>a6 s2.2) (λeZ=>Exit.exit 2) (λeZ g2=>[(35,J.of eZ.1),(36,J.of eZ.2.1)]) (λeZ g2=>[]) (λeZ g2=>a6 eZ.2.2) () (λs2 r h g2=>?_) (λg2=>?_)
 ·refine aL (λbE dJ bX h=>?_);refine aA h λbq eW h=>ae.dV 2 0 I Yt (UI eW) I I ⟨ag I,ag I,cH 0,ag I,trivial⟩ I λlK=>ae.dh ?_;exact go
 exact ar.qs (ar.lv go)
def aeK{hp ab Q}(h:E5 hp ab Q):lJ prog 92 [J.of ab] hp Q:=by
 unfold E5 at h;refine bR.of func92 I ntmps92 I λW A=>b6 (bk (cV (look_nil (α:=iv))) (ht (b6 ?_)));refine cJ ?_;refine bk (Cg underlying83 (ag I)) (b7 ?_);refine LX h (λh=>?_) λh=>?_
 ·refine b6 (bk (cV (look_nil (α:=iv))) (b7 (az.ret (ar.ret ?_))));exact ar.eI (⟨⟨(([]:aa iv),hp),h⟩,()⟩: {r // _}×_) (.refl _) I I (dv I)
 refine k8 (b6 (ae.own (α:=iv) 202 (bk (cV k2) ?_)));refine aL λbz dd c1 dj h=>?_;refine ai.bA h λcc eS h=>ai.bA h λc2 eX h=>ae.Xy (α:=cz) (β:=kx) (kv:=c2) 1 I underlying132 (k1 (ag I) eS) (uv eX) I I λbj m1 kn bL=>b7 (az.block (AG (σ:=(aa Nat)×(aa iv)) (ε:=(Bool×(aa Nat)×(aa iv))) (γ:=(aw Nat×Nat)) (δ:=(aw Nat×Nat)) h 2 [0,2,7,12] (λs1 g1=>[(3,J.eq (aO g1.1 s1.2.length g1.2))]) (λs1 g1=>[(0,⟨some bj,.is (nC cc m1 kn s1.1)⟩),(1,⟨g1.1,.row 202 s1.2 g1.2⟩)]) (λs1 g1=>pe cc (.map m1 kn) (a6 hp)) (λaq=>Exit.exit 0) (λaq g1=>[(3,J.eq (aO g1.1 aq.2.2.length g1.2)),(14,J.of aq.1)]) (λaq g1=>[(0,⟨some bj,.is (nC cc m1 kn aq.2.1)⟩),(1,⟨g1.1,.row 202 aq.2.2 g1.2⟩)]) (λaq g1=>pe cc (.map m1 kn) (a6 hp)) (none,0) (λs1 R h g1=>?_) (λau h g1=>?_)))
 ·refine b6 (ae.Yu (kv:=c2) 0 (ag I) I (KG 2 I (uv eX) I) bL I λp9 Dg=>?_);replace h:=ai.VK h p9 Dg;refine bk (Xz (ag I)) ?_;refine go2 (λh=>?_) (λh=>?_)
  ·refine ai.bA h λaJ cQ h=>bk (Wb (kv:=c2) (vis:=s1.1) 0 (ag I) I (KG 2 I (uv eX) I) bL Dg cQ) ?_;refine aL λbB bX bg ej h=>?_;refine ai.bA h λan bs h=>fF 3 underlying197 Yv akU bs λed dq=>?_;refine cO (ae.nil ?_);exact ar.ri (ar.xy h (ed,dq) 2 I .all)
  exact ar.s4 h (g1.1,g1.2) 0 I (by simp) I .all
 refine aL ?_;refine ae.b4 1 I (ae.qV (eE.rh 1 akV (acp h) I I ⟨ag I,Wc akW (λ_ _ _ h=>adh h),trivial⟩) I I I λ⟨aF,ZI,h⟩=>?_);refine ae.dh ?_;refine ae.hc (m:=aF.length) 3 I ZI (ae.hc (m:=aF.length) 27 I ZI (aL ?_));exact ar.La 2 I (ar.jW (α:=iv) 0 [2,3,27,29] ⟨rfl,rfl,rfl,rfl,trivial⟩ I (ar.eI (⟨⟨(aF,hp),h⟩,()⟩: {r // _}×_) (eV 2) I I (dv I)))
end Go.Proofs.YtdadopcnkghbaaaGreat
