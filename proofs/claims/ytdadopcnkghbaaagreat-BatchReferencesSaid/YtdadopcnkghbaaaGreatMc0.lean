/-
  Each function meets its functional program. Conditions: none.
-/
import Derived.Test.YtdadopcnkghbaaaGreatMd
set_option linter.defProp false
set_option linter.unusedVariables false
set_option linter.unusedSimpArgs false
set_option maxRecDepth 100000
set_option maxHeartbeats 2000000
namespace Go.Proofs.YtdadopcnkghbaaaGreat
open Go Gv Go.Proofs.Tryz
attribute [local irreducible] ae az ar bc aP ei fl fC J.of J.ptr J.eq J.cond J.bY
def Vf{ab aj r}(h:xi ab aj=some r):bR prog 5 [J.of ab,J.of aj] [] (δ:=Nat) (λd=>J.df d) (λd=>[a8 d r]):=by
 unfold xi at h;refine bR.of func5 I ntmps5 I λW A=>b6 (bk (cV (KB (.pointer none))) ?_);refine aL ?_;refine aA h λan bs h=>bk (FJ underlying22 aaJ (ag I) .none (.some (ag I)) bs) ?_;refine aL λbj=>?_;refine ar.b4 0 I ?_;cases h;exact tk bj
def ad9{ab c3 r}(h:I7 ab=some r):yA prog 38 [J.df c3] c3 ab (J.of r) ab:=by
 unfold I7 at h;refine bR.of func38 I ntmps38 I λW A=>?_;refine aL ?_;refine az.eM 10 ?_;exact go
def adK{ab aj r}(h:IZ ab aj=some r):cm prog 103 [J.of ab,J.ptr aj] (J.of r):=by
 unfold IZ at h;refine cm.of func103 I ntmps103 I λW A=>?_;exact go
def acs{ab aj r}(h:DV ab aj=some r):cm prog 102 [J.of ab,J.tl prog aj] (J.of r):=by
 unfold DV at h;refine cm.of func102 I ntmps102 I λW A=>?_;refine aL ?_;refine aA h λau ao h=>fc (γ:=Unit) (δ:=Unit) ao [0,1,7] (λs1 g1=>[(4,J.of (0:Int)),(8,J.of s1)]) (λs1 g1=>[]) (λaq=>Sum.elim (λaq=>Exit.exit 0) (λaq=>Exit.ret) aq) (λaq g1=>Sum.elim (λaq=>[(4,J.of (0:Int)),(8,J.of aq.1),(9,J.of aq.2)]) (λaq=>[(4,J.of aq.1),(5,J.of aq.2.1),(8,J.of aq.2.2.1),(9,J.of aq.2.2.2.1),(16,J.of aq.2.2.2.2)]) aq) (λaq g1=>[]) () (λs1 r h g1=>?_) λg1=>?_
 ·refine aL (λaJ cQ h=>?_);refine aA h λan bs h=>bk (zB (ag I) (ag I) bs) ?_;exact go
 rcases au with au|au
 ·simp only[Sum.elim_inl]at h;exact go
 simp only[Sum.elim_inr]at h;exact go
instance:gx prog 55 _ _ BY J.of (λr=>J.bY [J.of r.1,J.of r.2]):=.i func55 I ntmps55 I λab r h W A=>by
 unfold BY at h;refine aL λbj=>?_;refine aA h λau ao h=>fc (γ:=Unit) (δ:=Unit) ao [0,1,2,3,9,10] (λs1 g1=>[(4,J.of s1.1),(5,J.of s1.2.1),(11,J.of s1.2.2)]) (λs1 g1=>[]) (λaq=>Exit.exit 0) (λaq g1=>[(4,J.of aq.1),(5,J.of aq.2.1),(11,J.of aq.2.2.1),(12,J.of aq.2.2.2)]) (λaq g1=>[]) () (λs1 r h g1=>?_) λg1=>?_
 ·refine aL (λaJ cQ bB h=>?_);refine aA h λm1 bW h=>gl (γ:=Unit) [0,1,2,3,6,7,9,10,11,12,17,18] (λg2=>[(4,J.of m1.1),(5,J.of m1.2)]) (λg2=>[]) (λg2=>?_) (λhm ak=>?_) λhm ak=>?_
  ·exact go
  ·have h:=e1 ak bW;exact go
  have h:=e2 ak bW;refine aL ?_;refine aA h λm2 dw h=>gl (γ:=Unit) [0,1,2,3,6,7,9,10,11,12,17,18,20] (λg3=>[(4,J.of m2.1),(5,J.of m2.2)]) (λg3=>[]) (λg3=>?_) (λhm ak=>?_) λhm ak=>?_
  ·exact go
  ·have h:=e1 ak dw;exact go
  have h:=e2 ak dw;exact go
 exact go
def afj{hp Q}(h:JM hp Q):lJ prog 56 [] hp Q:=by
 unfold JM at h;refine bR.of func56 I ntmps56 I λW A=>b6 (bk (cV ou) (fD ?_));refine ae.FR (α:=Vector aV 4) (β:=Int) 0 I (Cell.qA ([]:aa ((Vector aV 4)×Int))) (λ_=>rfl) I λbS pP=>?_;replace h:=ai.pz h bS pP;refine rm ajW ajX {uB:=(⟨some bS.1⟩:eJ):rQ} (oA Ux .nil) ?_;refine ae.xT 0 I (Cell.CN ({uB:=(⟨some bS.1⟩:eJ):rQ})) (λ_=>rfl) (ag I) I λa2 wh=>?_;replace h:=ai.pz h a2 wh;refine cO (b7 (az.ret ?_));exact ar.eI (⟨⟨((some a2.1:Ref),a2.2),h⟩,()⟩: {r // _}×_) (.refl _) I I (dv I)
def adL{ab aj r}(h:I0 ab aj=some r):cm prog 105 [J.of ab,J.ptr aj] (J.of r):=by
 unfold I0 at h;refine cm.of func105 I ntmps105 I λW A=>?_;exact go
def acu{ab aj r}(h:DW ab aj=some r):cm prog 104 [J.of ab,J.tl prog aj] (J.of r):=by
 unfold DW at h;refine cm.of func104 I ntmps104 I λW A=>?_;refine aL ?_;refine aA h λau ao h=>fc (γ:=Unit) (δ:=Unit) ao [0,1,7] (λs1 g1=>[(4,J.of (0:Int)),(8,J.of s1)]) (λs1 g1=>[]) (λaq=>Sum.elim (λaq=>Exit.exit 0) (λaq=>Exit.ret) aq) (λaq g1=>Sum.elim (λaq=>[(4,J.of (0:Int)),(8,J.of aq.1),(9,J.of aq.2)]) (λaq=>[(4,J.of aq.1),(5,J.of aq.2.1),(8,J.of aq.2.2.1),(9,J.of aq.2.2.2.1),(16,J.of aq.2.2.2.2)]) aq) (λaq g1=>[]) () (λs1 r h g1=>?_) λg1=>?_
 ·refine aL (λaJ cQ h=>?_);refine aA h λan bs h=>bk (zB (ag I) (ag I) bs) ?_;exact go
 rcases au with au|au
 ·simp only[Sum.elim_inl]at h;exact go
 simp only[Sum.elim_inr]at h;exact go
def aeF{ab r}(h:NU ab=some r):bR prog 58 [J.of ab] [] (δ:=Nat×(aw Nat×Nat)) (λd=>J.df d.1) (λd=>[⟨some d.1,.cq ({r with da:=[]}:ep) [(10,aO d.2.1 r.da.length d.2.2)]⟩,⟨d.2.1,.row 186 r.da d.2.2⟩]):=by
 unfold NU at h;refine bR.of func58 I ntmps58 I λW A=>b6 (ny λbj=>?_);refine bk (cV ou) (fD ?_);refine n2 0 kL ?_;refine bk (sR (b:=({(default:ep)with mF:=ab}:ep)) [10] agO I ajY ajZ (.cons T1 I (ag I) I (by rfl) (.nil))) ?_;refine ae.own (α:=aK) 186 (ae.Zj (ag I) I λbB=>cO (b7 (az.ret ?_)));refine ar.LO (γ:=aK) (b':=({({(default:ep)with mF:=ab}:ep)with da:=[]}:ep)) ((aN.id ep).comp BF) 0 0 I I I (ar.b4 1 I (ar.b4 1 I ?_));cases h;exact tk (bB,(none,0))
def afI{hp ab Q}(h:JU hp ab Q):lJ prog 20 [J.of ab] hp Q:=by
 unfold JU at h;refine bR.of func20 I ntmps20 I λW A=>b6 (ny λbj=>?_);refine bk (cV ou) ?_;refine aL ?_;refine ae.FR (α:=cz) (β:=kx) 1 I (Cell.r7 ([]:aa (cz×kx))) (λ_=>rfl) I λbS pP=>?_;replace h:=ai.pz h bS pP;refine rm aj0 aj1 {mF:=ab,hT:=(⟨some bS.1⟩:eJ):qj} (oA Uf (oA Ug .nil)) ?_;refine ae.xT 1 I (Cell.Aj ({mF:=ab,hT:=(⟨some bS.1⟩:eJ):qj})) (λ_=>rfl) (ag I) I λa2 wh=>?_;replace h:=ai.pz h a2 wh;refine cO (b7 (az.ret ?_));exact ar.eI (⟨⟨((some a2.1:Ref),a2.2),h⟩,()⟩: {r // _}×_) (eV 1) I I (dv I)
def afk{hp ab Q}(h:JN hp ab Q):lJ prog 21 [J.of ab] hp Q:=by
 unfold JN at h;refine bR.of func21 I ntmps21 I λW A=>b6 (ny λbj=>?_);refine bk (cV ou) ?_;refine aL ?_;refine ai.bA h λan bs h=>bk (FJ underlying29 xM (ag I) .none (.some (ag I)) bs) ?_;refine rm aj2 aj3 ({(default:iV)with pA:=an}:iV) (oA Nb .nil) ?_;refine ae.xT 1 I (Cell.r8 ({(default:iV)with pA:=an}:iV)) (λ_=>rfl) (ag I) I λbS pP=>?_;replace h:=ai.pz h bS pP;refine cO (b7 (az.ret ?_));exact ar.eI (⟨⟨((some bS.1:Ref),bS.2),h⟩,()⟩: {r // _}×_) (eV 1) I I (dv I)
def It{ab c3 iM iN r}(h:Bt ab=some r):bR prog 22 [J.df c3] [⟨some c3,.cq ({ab with fN:=[]}:e7) [(3,aO iM ab.fN.length iN)]⟩,⟨iM,.row 139 ab.fN iN⟩] (δ:=Unit) (λd=>J.of r) (λd=>[⟨some c3,.cq ({ab with fN:=[]}:e7) [(3,aO iM ab.fN.length iN)]⟩,⟨iM,.row 139 ab.fN iN⟩]):=by
 unfold Bt at h;refine bR.of func22 I ntmps22 I λW A=>?_;refine aL ?_;refine bk (KC underlying43 (ag I)) (b7 ?_);refine az.vO (ag I) I (aL ?_);refine bk (gN (i:=0) (q:=0) (β:=e7) (γ:=fb) vV (ag I) I I) ?_;refine bk (oZ (i:=1) underlying87 (ag I) I I) ?_;refine cO (b7 (az.ret ?_));refine ar.b4 1 I (ar.b4 1 I ?_);cases h;exact tk ()
def aea{ab aj r}(h:I8 ab aj=some r):cm prog 110 [J.of ab,J.ptr aj] (J.of r):=by
 unfold I8 at h;refine cm.of func110 I ntmps110 I λW A=>?_;exact go
def acw{ab aj r}(h:MY ab aj=some r):cm prog 109 [J.of ab,J.tl prog aj] (J.of r):=by
 unfold MY at h;refine cm.of func109 I ntmps109 I λW A=>?_;refine aL ?_;refine aA h λau ao h=>fc (γ:=Unit) (δ:=Unit) ao [0,1,7] (λs1 g1=>[(4,J.of (0:Int)),(8,J.of s1)]) (λs1 g1=>[]) (λaq=>Sum.elim (λaq=>Exit.exit 0) (λaq=>Exit.ret) aq) (λaq g1=>Sum.elim (λaq=>[(4,J.of (0:Int)),(8,J.of aq.1),(9,J.of aq.2)]) (λaq=>[(4,J.of aq.1),(5,J.of aq.2.1),(8,J.of aq.2.2.1),(9,J.of aq.2.2.2.1),(16,J.of aq.2.2.2.2)]) aq) (λaq g1=>[]) () (λs1 r h g1=>?_) λg1=>?_
 ·refine aL (λaJ cQ h=>?_);refine aA h λan bs h=>bk (zB (ag I) (ag I) bs) ?_;exact go
 rcases au with au|au
 ·simp only[Sum.elim_inl]at h;exact go
 simp only[Sum.elim_inr]at h;exact go
def adM{ab aj r}(h:I1 ab aj=some r):cm prog 107 [J.of ab,J.ptr aj] (J.of r):=by
 unfold I1 at h;refine cm.of func107 I ntmps107 I λW A=>?_;exact go
def acv{ab aj r}(h:MV ab aj=some r):cm prog 106 [J.of ab,J.tl prog aj] (J.of r):=by
 unfold MV at h;refine cm.of func106 I ntmps106 I λW A=>?_;refine aL ?_;refine aA h λau ao h=>fc (γ:=Unit) (δ:=Unit) ao [0,1,7] (λs1 g1=>[(4,J.of (0:Int)),(8,J.of s1)]) (λs1 g1=>[]) (λaq=>Sum.elim (λaq=>Exit.exit 0) (λaq=>Exit.ret) aq) (λaq g1=>Sum.elim (λaq=>[(4,J.of (0:Int)),(8,J.of aq.1),(9,J.of aq.2)]) (λaq=>[(4,J.of aq.1),(5,J.of aq.2.1),(8,J.of aq.2.2.1),(9,J.of aq.2.2.2.1),(16,J.of aq.2.2.2.2)]) aq) (λaq g1=>[]) () (λs1 r h g1=>?_) λg1=>?_
 ·refine aL (λaJ cQ h=>?_);refine aA h λan bs h=>bk (zB (ag I) (ag I) bs) ?_;exact go
 rcases au with au|au
 ·simp only[Sum.elim_inl]at h;exact go
 simp only[Sum.elim_inr]at h;exact go
instance:ea prog 63 _ _ _ N8 J.of J.of J.of:=.i func63 I ntmps63 I λab aj r h W A=>by
 unfold N8 at h;exact go
def aeb{ab aj r}(h:I9 ab aj=some r):cm prog 108 [J.ptr ab,J.ptr aj] (J.of r):=by
 unfold I9 at h;refine cm.of func108 I ntmps108 I λW A=>?_;refine aL ?_;refine aA h λan bs h=>bk (WU (ag I) bs) ?_;exact go
instance:ea prog 152 _ _ _ Ox J.of J.of J.of:=.i func152 I ntmps152 I λab aj r h W A=>by
 unfold Ox at h;refine aL λbj bB bg ej bX h=>?_;refine aA h λm1 bW h=>gl (γ:=Unit) [0,1,2,4,5,9,10] (λg1=>[]) (λg1=>[(0,a8 bX m1)]) (λg1=>?_) (λhm ak=>?_) λhm ak=>?_
 ·exact go
 ·have h:=e1 ak bW;exact go
 have h:=e2 ak bW;refine aL ?_;refine aA h λm2 dw h=>gl (γ:=Unit) [0,1,2,4,5,9,10,15] (λg2=>[]) (λg2=>[(0,a8 bX m2)]) (λg2=>?_) (λhm ak=>?_) λhm ak=>?_
 ·exact go
 ·have h:=e1 ak dw;exact go
 have h:=e2 ak dw;refine aL ?_;refine aA h λm3 fE h=>gl (γ:=Unit) [0,1,2,4,5,9,10,15,20] (λg3=>[]) (λg3=>[(0,a8 bX m3)]) (λg3=>?_) (λhm ak=>?_) λhm ak=>?_
 ·exact go
 ·have h:=e1 ak fE;exact go
 have h:=e2 ak fE;exact go
instance:gx prog 201 _ _ Jl J.of J.of:=.i func201 I ntmps201 I λab r h W A=>by
 unfold Jl at h;refine aL ?_;refine aA h λm1 bW h=>gl (γ:=Unit) [4] (λg1=>[(0,J.of m1.1),(2,J.of m1.2)]) (λg1=>[]) (λg1=>?_) (λhm ak=>?_) λhm ak=>?_
 ·refine aL ?_;refine aA h λm2 dw h=>gl (γ:=Unit) [4,8] (λg2=>[(0,J.of m2.1),(2,J.of m2.2)]) (λg2=>[]) (λg2=>?_) (λhm ak=>?_) λhm ak=>?_
  ·refine aL ?_;refine aA h λm3 fE h=>gl (γ:=Unit) [4,8,14] (λg3=>[(0,J.of m3.1),(2,J.of m3.2)]) (λg3=>[]) (λg3=>?_) (λhm ak=>?_) λhm ak=>?_
   ·refine aL ?_;refine db (ahx underlying45 underlying5) ?_;refine aA h λan bs h=>bk (ahy underlying9 (gM (ByteArray.mk (List.toArray (List.append (List.append [0,1,2,2,3,3,3,3,4,4,4,4,4,4,4,4,5,5,5,5,5,5,5,5,5,5,5,5,5,5,5,5,6,6,6,6,6,6,6,6,6,6,6,6,6,6,6,6,6,6,6,6,6,6,6,6,6,6,6,6,6,6,6,6] [7,7,7,7,7,7,7,7,7,7,7,7,7,7,7,7,7,7,7,7,7,7,7,7,7,7,7,7,7,7,7,7,7,7,7,7,7,7,7,7,7,7,7,7,7,7,7,7,7,7,7,7,7,7,7,7,7,7,7,7,7,7,7,7]) (List.append [8,8,8,8,8,8,8,8,8,8,8,8,8,8,8,8,8,8,8,8,8,8,8,8,8,8,8,8,8,8,8,8,8,8,8,8,8,8,8,8,8,8,8,8,8,8,8,8,8,8,8,8,8,8,8,8,8,8,8,8,8,8,8,8] [8,8,8,8,8,8,8,8,8,8,8,8,8,8,8,8,8,8,8,8,8,8,8,8,8,8,8,8,8,8,8,8,8,8,8,8,8,8,8,8,8,8,8,8,8,8,8,8,8,8,8,8,8,8,8,8,8,8,8,8,8,8,8,8]))))) (ag I) bs) ?_;exact go
   ·have h:=e1 ak fE;exact go
   have h:=e2 ak fE;exact go
  ·have h:=e1 ak dw;exact go
  have h:=e2 ak dw;exact go
 ·have h:=e1 ak bW;exact go
 have h:=e2 ak bW;exact go
instance:gx prog 197 _ _ BZ J.of J.of:=.i func197 I ntmps197 I λab r h W A=>by
 unfold BZ at h;exact go
instance:ea prog 199 _ _ _ B3 J.of J.of J.of:=.i func199 I ntmps199 I λab aj r h W A=>by
 unfold B3 at h;exact go
instance:ea prog 198 _ _ _ Fo J.of J.of J.of:=.i func198 I ntmps198 I λab aj r h W A=>by
 unfold Fo at h;exact go
instance:ea prog 153 _ _ _ B8 J.of J.of J.of:=.i func153 I ntmps153 I λab aj r h W A=>by
 unfold B8 at h;exact go
def UX{ab aj r}(h:sO ab aj=some r):cm prog 137 [J.of ab,J.of aj] (J.of r):=by
 unfold sO at h;refine cm.of func137 I ntmps137 I λW A=>?_;refine aL (λbj bB h=>?_);refine jM (λhb=>xN (b1 I hb) (ag I) (λh=>⟨hb,h⟩)) ?_;exact go
instance:ea prog 137 _ _ _ sO J.of J.of J.of:=
 ⟨⟨_,func137,rfl,by kernel_rfl⟩,λ_ _ _ h=>UX h⟩
def TO{ab aj r}(h:Bp ab aj=some r):cm prog 200 [J.of ab,J.tl prog aj] (J.of r):=by
 unfold Bp at h;refine cm.of func200 I ntmps200 I λW A=>?_;refine aL ?_;refine aA h λau ao h=>fc (γ:=Unit) (δ:=Unit) ao [0,1,7] (λs1 g1=>[(4,J.of (0:Int)),(8,J.of s1)]) (λs1 g1=>[]) (λaq=>Sum.elim (λaq=>Exit.exit 0) (λaq=>Exit.ret) aq) (λaq g1=>Sum.elim (λaq=>[(4,J.of (0:Int)),(8,J.of aq.1),(9,J.of aq.2)]) (λaq=>[(4,J.of aq.1),(5,J.of aq.2.1),(8,J.of aq.2.2.1),(9,J.of aq.2.2.2.1),(16,J.of aq.2.2.2.2)]) aq) (λaq g1=>[]) () (λs1 r h g1=>?_) λg1=>?_
 ·refine aL (λaJ cQ h=>?_);refine aA h λan bs h=>bk (zB (ag I) (ag I) bs) ?_;exact go
 rcases au with au|au
 ·simp only[Sum.elim_inl]at h;exact go
 simp only[Sum.elim_inr]at h;exact go
def aec{ab r}(h:NH ab=some r):cm prog 157 [J.of ab] (J.of r):=by
 unfold NH at h;refine cm.of func157 I ntmps157 I λW A=>?_;exact go
instance:gx prog 64 _ _ JG J.of J.of:=.i func64 I ntmps64 I λab r h W A=>by
 unfold JG at h;refine aL ?_;refine aA h λau ao h=>fc (γ:=Unit) (δ:=Unit) ao [0,6,7] (λs1 g1=>[(2,J.of (0:Int)),(8,J.of s1)]) (λs1 g1=>[]) (λaq=>Sum.elim (λaq=>Exit.exit 0) (λaq=>Exit.ret) aq) (λaq g1=>Sum.elim (λaq=>[(2,J.of (0:Int)),(8,J.of aq.1),(9,J.of aq.2)]) (λaq=>[(2,J.of aq.1),(4,J.of aq.2.1),(5,J.of aq.2.2.1),(8,J.of aq.2.2.2.1),(9,J.of aq.2.2.2.2.1),(15,J.of aq.2.2.2.2.2)]) aq) (λaq g1=>[]) () (λs1 r h g1=>?_) λg1=>?_
 ·refine aL (λaJ cQ h=>?_);refine aA h λan bs h=>bk (WU (ag I) bs) ?_;exact go
 rcases au with au|au
 ·simp only[Sum.elim_inl]at h;exact go
 simp only[Sum.elim_inr]at h;exact go
instance:ea prog 238 _ _ _ zq J.of J.of J.of:=.i func238 I ntmps238 I λab aj r h W A=>by
 unfold zq at h;refine aL λbj=>?_;refine aA h λau ao h=>fc (γ:=Unit) (δ:=Unit) ao [0,4] (λs1 g1=>[(1,J.of s1)]) (λs1 g1=>[]) (λaq=>Exit.exit 0) (λaq g1=>[(1,J.of aq.1),(16,J.of aq.2)]) (λaq g1=>[]) () (λs1 r h g1=>?_) λg1=>?_
 ·refine aL (λaJ cQ h=>?_);refine aA h λan bs h=>bk (FJ underlying39 b8 (ag I) .none (.some (ag I)) bs) ?_;exact go
 exact go
instance:ea prog 273 _ _ _ Fu J.of J.of J.of:=.i func273 I ntmps273 I λab aj r h W A=>by
 unfold Fu at h;exact go
instance:ea prog 240 _ _ _ N9 J.of J.of J.of:=.i func240 I ntmps240 I λab aj r h W A=>by
 unfold N9 at h;refine aL (λh=>?_);refine aA h λau ao h=>fc (γ:=Unit) (δ:=Unit) ao [0,1,10] (λs1 g1=>[(4,J.of (0:Int)),(5,J.of s1)]) (λs1 g1=>[]) (λaq=>Sum.elim (λaq=>Exit.exit 0) (λaq=>Exit.ret) aq) (λaq g1=>Sum.elim (λaq=>[(4,J.of (0:Int)),(5,J.of aq.1),(20,J.of aq.2)]) (λaq=>[(4,J.of aq.1),(5,J.of aq.2.1),(20,J.of aq.2.2.1),(31,J.of aq.2.2.2.1),(40,J.of aq.2.2.2.2)]) aq) (λaq g1=>[]) () (λs1 r h g1=>?_) λg1=>?_
 ·refine aL (λh=>?_);refine aA h λaJ cQ h=>aA h λbE dJ h=>az.eM 9 ?_;refine aL (λh=>?_);refine aA h λcP ih h=>aA h λfm mo h=>az.eM 9 ?_;exact go
 rcases au with au|au
 ·simp only[Sum.elim_inl]at h;exact go
 simp only[Sum.elim_inr]at h;exact go
def aed{ab r}(h:NI ab=some r):cm prog 35 [J.of ab] (J.of r):=by
 unfold NI at h;refine cm.of func35 I ntmps35 I λW A=>b6 (ny λbj=>?_);refine bk (cV (look_nil (α:=hS))) (fD ?_);refine ae.own (α:=hS) 152 (bk (cV k2) ?_);refine aL ?_;refine aA h λau ao h=>fc (γ:=(aw Nat×Nat)) (δ:=(aw Nat×Nat)) ao [0,1,2,7,8] (λs1 g1=>[(3,J.eq (aO g1.1 s1.2.length g1.2)),(9,J.of s1.1)]) (λs1 g1=>[(0,⟨g1.1,.row 152 s1.2 g1.2⟩)]) (λaq=>Exit.exit 0) (λaq g1=>[(3,J.eq (aO g1.1 aq.2.2.length g1.2)),(9,J.of aq.1),(10,J.of aq.2.1)]) (λaq g1=>[(0,⟨g1.1,.row 152 aq.2.2 g1.2⟩)]) (none,0) (λs1 r h g1=>?_) λg1=>?_
 ·refine go2 (λaJ cQ bB bg ej h=>?_) (λh=>?_)
  ·refine aA h λan bs h=>fF 1 underlying98 z1 Cz bs λed dq=>?_;refine aL ?_;cases h;exact hY (ed,dq) 1
  cases h;exact ho (g1.1,g1.2) 0
 refine aL ?_;exact ar.jW (α:=hS) 0 [2,3,20] ⟨rfl,rfl,rfl,trivial⟩ I go
def aeS{ab aj r}(h:N3 ab aj=some r):cm prog 36 [J.of ab,J.of aj] (J.of r):=by
 unfold N3 at h;refine cm.of func36 I ntmps36 I λW A=>b6 (ny λbj=>?_);refine bk (cV (look_nil (α:=gf))) (fD ?_);refine ae.own (α:=gf) 156 (bk (cV k2) ?_);refine aL ?_;refine aA h λau ao h=>fc (γ:=(aw Nat×Nat)) (δ:=(aw Nat×Nat)) ao [0,1,2,4,10,11] (λs1 g1=>[(5,J.eq (aO g1.1 s1.2.length g1.2)),(12,J.of s1.1)]) (λs1 g1=>[(0,⟨g1.1,.row 156 s1.2 g1.2⟩)]) (λaq=>Exit.exit 0) (λaq g1=>[(5,J.eq (aO g1.1 aq.2.2.length g1.2)),(12,J.of aq.1),(13,J.of aq.2.1)]) (λaq g1=>[(0,⟨g1.1,.row 156 aq.2.2 g1.2⟩)]) (none,0) (λs1 r h g1=>?_) λg1=>?_
 ·refine go2 (λaJ cQ bB bg ej bX h=>?_) (λh=>?_)
  ·refine aA h λm1 bW h=>gl (γ:=Unit) [0,1,2,4,5,6,7,8,10,11,12,13,23] (λg2=>[]) (λg2=>[(0,a8 bX m1)]) (λg2=>?_) (λhm ak=>?_) λhm ak=>?_
   ·refine aL ?_;refine aA h λan bs h=>fF 2 underlying100 z6 CA bs λed dq=>?_;refine aL ?_;cases h;exact hY (ed,dq) 2
   ·have h:=e1 ak bW;exact go
   have h:=e2 ak bW;exact go
  cases h;exact ho (g1.1,g1.2) 0
 refine aL ?_;exact ar.jW (α:=gf) 0 [4,5,34] ⟨rfl,rfl,rfl,trivial⟩ I go
def aee{hp ab r}(h:EY hp ab=some r):iG prog 53 [J.of ab] hp (J.of r) hp:=by
 unfold EY at h;refine bR.of func53 I ntmps53 I λW A=>?_;exact go
def kZ{ab aj c3 r}(h:jo ab aj=some r):yA prog 13 [J.df c3,J.of aj] c3 ab (J.of r.1) r.2:=by
 unfold jo at h;refine bR.of func13 I ntmps13 I λW A=>?_;refine aL ?_;refine aA h λan bs h=>ae.hA (fa.call [0] am3 (ad9 bs) ⟨ag I,trivial⟩ I ⟨rfl,trivial⟩ I) I I I (aL (λh=>?_));refine aA h λaJ cQ h=>aA h λaF b5 h=>az.eM 14 ?_;exact go
instance aaK:ea prog 54 _ _ _ ue J.of J.of J.of:=.i func54 I ntmps54 I λab aj r h W A=>by
 unfold ue at h;refine aL λbj bB=>?_;refine ae.share (α:=Int) 0 3 I I (bk (zK (F:=(λa0=>IZ a0 aj)) (τs:=[J.ptr aj]) aj4 ⟨ag I,trivial⟩ (λ_ _ h=>adK h)) ?_);refine aA h λan bs h=>lD aj5 (acs bs) ?_;exact go
instance:ea prog 57 _ _ _ zj J.of J.of J.of:=.i func57 I ntmps57 I λab aj r h W A=>by
 unfold zj at h;refine aL λbj bB=>?_;refine ae.share (α:=Int) 0 3 I I (bk (zK (F:=(λa0=>I0 a0 aj)) (τs:=[J.ptr aj]) aj6 ⟨ag I,trivial⟩ (λ_ _ h=>adL h)) ?_);refine aA h λan bs h=>lD aj7 (acu bs) ?_;exact go
instance:ea prog 67 _ _ _ Fg J.of J.of J.of:=.i func67 I ntmps67 I λab aj r h W A=>by
 unfold Fg at h;refine aL λbj bB=>?_;refine ae.share (α:=Int) 0 3 I I (bk (zK (F:=(λa0=>I8 a0 aj)) (τs:=[J.ptr aj]) aj8 ⟨ag I,trivial⟩ (λ_ _ h=>aea h)) ?_);refine aA h λan bs h=>lD aj9 (acw bs) ?_;exact go
instance LP:ea prog 65 _ _ _ vu J.of J.of J.of:=.i func65 I ntmps65 I λab aj r h W A=>by
 unfold vu at h;refine aL λbj bB=>?_;refine bk (cV (KB .nilFunc)) (fD ?_);refine ae.share (α:=kQ prog Bool) 1 2 I I (ae.share (α:=Int) 0 3 I I (bk (uC (F:=I9 ab aj) (τs:=[J.ptr ab,J.ptr aj]) aka ⟨ag I,ag I,trivial⟩ (λ_ h=>aeb h)) ?_));exact go
instance Zk:ea prog 112 _ _ _ Og J.of J.of J.of:=.i func112 I ntmps112 I λab aj r h W A=>by
 unfold Og at h;refine aL (λbj h=>?_);refine aA h λan bs h=>az.eM 5 ?_;exact go
instance:gx prog 160 _ _ OI J.of J.of:=.i func160 I ntmps160 I λab r h W A=>by
 unfold OI at h;exact go
instance:gx prog 155 _ _ xh J.of J.of:=.i func155 I ntmps155 I λab r h W A=>by
 unfold xh at h;exact go
def aco{ab aj r}(h:MS ab aj=some r):cm prog 156 [J.of ab,J.tl prog aj] (J.of r):=by
 unfold MS at h;refine cm.of func156 I ntmps156 I λW A=>?_;refine aL ?_;refine aA h λan bs h=>lD X6 (TO bs) ?_;exact go
instance:ea prog 264 _ _ _ Im J.of J.of J.of:=.i func264 I ntmps264 I λab aj r h W A=>by
 unfold Im at h;refine aL λbj=>?_;refine aA h λau ao h=>fc (γ:=Unit) (δ:=Unit) ao [0,1,3,7] (λs1 g1=>[(4,J.of (0:Int)),(8,J.of s1)]) (λs1 g1=>[]) (λaq=>Sum.elim (λaq=>Exit.exit 0) (λaq=>Exit.ret) aq) (λaq g1=>Sum.elim (λaq=>[(4,J.of (0:Int)),(8,J.of aq.1),(9,J.of aq.2)]) (λaq=>[(4,J.of aq.1),(5,J.of aq.2.1),(8,J.of aq.2.2.1),(9,J.of aq.2.2.2.1),(16,J.of aq.2.2.2.2)]) aq) (λaq g1=>[]) () (λs1 r h g1=>?_) λg1=>?_
 ·refine aL (λh=>?_);refine aA h λaJ cQ h=>az.eM 6 ?_;exact go
 rcases au with au|au
 ·simp only[Sum.elim_inl]at h;exact go
 simp only[Sum.elim_inr]at h;exact go
def Nc{ab aj c3 iM iN r}(h:y5 ab aj=some r):bR prog 84 [J.df c3,J.of aj] [⟨some c3,.cq ({ab with fN:=[]}:e7) [(3,aO iM ab.fN.length iN)]⟩,⟨iM,.row 139 ab.fN iN⟩] (δ:=(aw Nat×Nat)) (λd=>J.bY []) (λd=>[⟨some c3,.cq ({r with fN:=[]}:e7) [(3,aO d.1 r.fN.length d.2)]⟩,⟨d.1,.row 139 r.fN d.2⟩]):=by
 unfold y5 at h;refine bR.of func84 I ntmps84 I λW A=>?_;refine aL ?_;refine bk (gN (i:=0) (q:=0) (β:=e7) (γ:=fb) vV (ag I) I I) ?_;refine aL ?_;refine aA h λan bs h=>fF 1 underlying87 KV akb bs λed dq=>?_;refine aL ?_;refine ae.iZ (i:=0) (γ:=fb) (b':=({ab with fN:=[]}:e7)) (os':=[(3,aO ed an.length dq)]) ((aN.id e7).comp D1) vV (ag I) (ag I) hU I I I I (ae.nil (ar.lv (ar.b4 1 I (ar.b4 1 I ?_))));cases h;exact ar.mL (ed,dq) (.cons_cons _ (.cons_cons _ (sG _))) I I
def VH:Go.Shelf.Ren:=⟨λ|6=>133|15=>178|14=>177|28=>226|29=>201|20=>218|21=>219|22=>220|23=>221|24=>222|25=>223|26=>224|27=>225|46=>265|47=>266|48=>267|49=>268|50=>269|57=>282|n=>n,λ|22=>197|24=>202|25=>251|3=>3|39=>271|0=>0|53=>358|55=>45|4=>4|46=>352|45=>351|50=>305|5=>5|9=>9|66=>392|70=>396|76=>406|77=>157|n=>n,λ|n=>n⟩
def akc:Go.Proofs.SlLaysF0.n6 prog VH:= {
 mixed:=by kernel_rfl
 f6:=⟨f133.name,by decide,func133.trans (ec some (by kernel_rfl))⟩
 f14:=⟨f177.name,by decide,func177.trans (ec some (by kernel_rfl))⟩
 f15:=func178.trans (ec some (by kernel_rfl))
 f20:=⟨f218.name,by decide,func218.trans (ec some (by kernel_rfl))⟩
 f21:=⟨f219.name,by decide,func219.trans (ec some (by kernel_rfl))⟩
 f22:=⟨f220.name,by decide,func220.trans (ec some (by kernel_rfl))⟩
 f23:=⟨f221.name,by decide,func221.trans (ec some (by kernel_rfl))⟩
 f24:=⟨f222.name,by decide,func222.trans (ec some (by kernel_rfl))⟩
 f25:=⟨f223.name,by decide,func223.trans (ec some (by kernel_rfl))⟩
 f26:=⟨f224.name,by decide,func224.trans (ec some (by kernel_rfl))⟩
 f27:=⟨f225.name,by decide,func225.trans (ec some (by kernel_rfl))⟩
 f28:=func226.trans (ec some (by kernel_rfl))
 f29:=func201.trans (ec some (by kernel_rfl))
 f46:=⟨f265.name,by decide,func265.trans (ec some (by kernel_rfl))⟩
 f47:=func266.trans (ec some (by kernel_rfl))
 f48:=func267.trans (ec some (by kernel_rfl))
 f49:=⟨f268.name,by decide,func268.trans (ec some (by kernel_rfl))⟩
 f50:=⟨f269.name,by decide,func269.trans (ec some (by kernel_rfl))⟩
 f57:=⟨f282.name,by decide,func282.trans (ec some (by kernel_rfl))⟩
 t0:=underlying0
 a0:=isAgg0
 z0:=sizeOf0
 v0:=zeroValue0
 t3:=underlying3
 a3:=isAgg3
 z3:=sizeOf3
 v3:=zeroValue3
 t4:=underlying4
 a4:=isAgg4
 z4:=sizeOf4
 v4:=zeroValue4
 t5:=underlying5
 a5:=isAgg5
 z5:=sizeOf5
 v5:=zeroValue5
 t9:=underlying9
 a9:=isAgg9
 z9:=sizeOf9
 v9:=zeroValue9
 t22:=underlying197
 a22:=isAgg197
 z22:=sizeOf197
 v22:=zeroValue197
 t25:=underlying251
 a25:=isAgg251
 z25:=sizeOf251
 v25:=zeroValue251
 t39:=underlying271
 a39:=isAgg271
 z39:=sizeOf271
 v39:=zeroValue271
 t45:=underlying351
 a45:=isAgg351
 z45:=sizeOf351
 v45:=zeroValue351
 t46:=underlying352
 a46:=isAgg352
 z46:=sizeOf352
 v46:=zeroValue352
 t50:=underlying305
 a50:=isAgg305
 z50:=sizeOf305
 v50:=zeroValue305
 t53:=underlying358
 a53:=isAgg358
 z53:=sizeOf358
 v53:=zeroValue358
 t55:=underlying45
 a55:=isAgg45
 z55:=sizeOf45
 v55:=zeroValue45
 t66:=underlying392
 a66:=isAgg392
 z66:=sizeOf392
 v66:=zeroValue392
 t70:=underlying396
 a70:=isAgg396
 z70:=sizeOf396
 v70:=zeroValue396
 t76:=underlying406
 a76:=isAgg406
 z76:=sizeOf406
 v76:=zeroValue406
 t77:=underlying157
 a77:=isAgg157
 z77:=sizeOf157
 v77:=zeroValue157}
def acp{xs F K}(h:ai.vP xs F K){key:aw Nat}{cap:Nat}:bR prog 133 [.eq (aO key xs.length cap),.GR prog F] [⟨key,.row 202 xs cap⟩] (δ:= {r:aa iv // xs.length=r.length∧K r}) (λ_=>.bY []) (λd=>[⟨key,.row 202 d.1 cap⟩]):=X7 (ρ:=VH) akc (λ_=>by kernel_rfl) (λ_=>by kernel_rfl) I h
instance:gx prog 135 _ _ Fj J.of J.of:=.i func135 I ntmps135 I λab r h W A=>by
 unfold Fj at h;refine aL ?_;refine aA h λau ao h=>fc (γ:=Unit) (δ:=Unit) ao [0,3,6,7] (λs1 g1=>[(2,J.of (0:Int)),(8,J.of s1)]) (λs1 g1=>[]) (λaq=>Sum.elim (λaq=>Exit.exit 0) (λaq=>Exit.ret) aq) (λaq g1=>Sum.elim (λaq=>[(2,J.of (0:Int)),(8,J.of aq.1),(9,J.of aq.2)]) (λaq=>[(2,J.of aq.1),(5,J.of aq.2.1),(8,J.of aq.2.2.1),(9,J.of aq.2.2.2.1),(14,J.of aq.2.2.2.2)]) aq) (λaq g1=>[]) () (λs1 r h g1=>?_) λg1=>?_
 ·exact go
 rcases au with au|au
 ·simp only[Sum.elim_inl]at h;exact go
 simp only[Sum.elim_inr]at h;exact go
def acx{ab c3 iM iN r}(h:M4 ab=some r):bR prog 25 [J.df c3] [⟨some c3,.cq ({ab with fN:=[]}:e7) [(3,aO iM ab.fN.length iN)]⟩,⟨iM,.row 139 ab.fN iN⟩] (δ:=(aw Nat×Nat)) (λd=>J.bY []) (λd=>[⟨some c3,.cq ({r with fN:=[]}:e7) [(3,aO d.1 r.fN.length d.2)]⟩,⟨d.1,.row 139 r.fN d.2⟩]):=by
 unfold M4 at h;refine bR.of func25 I ntmps25 I λW A=>b6 (cJ ?_);refine bk (ahz underlying43 (ag I)) (b7 ?_);refine az.F0 (ag I) I (az.fk (cJ ?_));refine db mg ?_;refine db (cg aiM.fd) ?_;refine ae.own (α:=fb) 139 (ae.iZ (i:=1) (γ:=fb) (b':=({ab with fN:=[]}:e7)) (os':=[(3,aO none ([]:aa fb).length 0)]) ((aN.id e7).comp D1) vV (ag I) k2 hU I I I I (ae.nil (ar.lv (ar.b4 0 I (ar.b4 1 I ?_)))));cases h;exact ar.mL (none,0) (.cons_cons _ (.cons_cons _ (sG _))) I I
def Uh{hp ab r}(h:Bu hp ab=some r):iG prog 28 [J.of ab] hp (J.of r) hp:=by
 unfold Bu at h;refine bR.of func28 I ntmps28 I λW A=>b6 (bk (cV ou) ?_);refine aL (λh=>?_);refine bk (cV ou) ?_;exact go
instance:gx prog 47 _ _ Fp J.of J.of:=.i func47 I ntmps47 I λab r h W A=>by
 unfold Fp at h;refine b6 (ny λbj=>?_);refine pQ X8 λbB=>fD ?_;refine ae.qp (z:=(default:Vector (aa Int) 6)) [0,1,2,3,4,5] aeG X8 I λbX=>ae.own (α:=Int) 3 (ae.own (α:=Int) 3 (ae.own (α:=Int) 3 (ae.own (α:=Int) 3 (ae.own (α:=Int) 3 (ae.own (α:=Int) 3 (aL ?_))))));refine aA h λau ao h=>fc (γ:=(aw Nat×Nat)) (δ:=(aw Nat×Nat)) ao [0,1,2,3,17,18] (λs1 g1=>[(19,J.of s1.1)]) (λs1 g1=>[(5,⟨g1.1,.row 3 s1.2.1 g1.2⟩),(6,⟨some bX,.cq s1.2.2 [(0,aO g1.1 s1.2.1.length g1.2),(1,aO none ([]:aa Int).length 0),(2,aO none ([]:aa Int).length 0),(3,aO none ([]:aa Int).length 0),(4,aO none ([]:aa Int).length 0),(5,aO none ([]:aa Int).length 0)]⟩)]) (λaq=>Exit.exit 0) (λaq g1=>[(19,J.of aq.1),(20,J.of aq.2.1)]) (λaq g1=>[(5,⟨g1.1,.row 3 aq.2.2.1 g1.2⟩),(6,⟨some bX,.cq aq.2.2.2 [(0,aO g1.1 aq.2.2.1.length g1.2),(1,aO none ([]:aa Int).length 0),(2,aO none ([]:aa Int).length 0),(3,aO none ([]:aa Int).length 0),(4,aO none ([]:aa Int).length 0),(5,aO none ([]:aa Int).length 0)]⟩)]) (none,0) (λs1 r h g1=>?_) λg1=>?_
 ·refine go2 (λaJ cQ ey h=>?_) (λh=>?_)
  ·refine bk (lx (k:=0) rZ (ag I) (cH 0) ⟨by decide,rfl⟩) ?_;refine bk (gN (i:=7) (q:=0) (β:=Vector (aa Int) 6) (γ:=Int) k4 (ag I) I I) ?_;refine aL ?_;refine aA h λan bs h=>fF 6 underlying39 b8 pb bs λed dq=>?_;refine bk (lx (k:=0) rZ (ag I) (cH 0) ⟨by decide,rfl⟩) ?_;refine ae.iZ (i:=7) (γ:=Int) (b':=(dS s1.2.2 0 []:Vector (aa Int) 6)) (os':=[(0,aO ed an.length dq),(1,aO none ([]:aa Int).length 0),(2,aO none ([]:aa Int).length 0),(3,aO none ([]:aa Int).length 0),(4,aO none ([]:aa Int).length 0),(5,aO none ([]:aa Int).length 0)]) ((aN.id (Vector (aa Int) 6)).comp (aN.idx (α:=aa Int) 6 0 (by decide))) k4 (ag I) (ag I) hU I I I I ?_;refine aL ?_;cases h;exact hY (ed,dq) 1
  cases h;exact ho (g1.1,g1.2) 0
 refine aL ?_;refine aA h λaW ao h=>fc (γ:=(aw Nat×Nat)) (δ:=(aw Nat×Nat)) ao [0,1,2,3,17,18,19,20,32,33] (λs2 g2=>[(34,J.of s2.1)]) (λs2 g2=>[(4,⟨g2.1,.row 3 s2.2.1 g2.2⟩),(6,⟨some bX,.cq s2.2.2 [(0,aO g1.1 au.2.2.1.length g1.2),(1,aO g2.1 s2.2.1.length g2.2),(2,aO none ([]:aa Int).length 0),(3,aO none ([]:aa Int).length 0),(4,aO none ([]:aa Int).length 0),(5,aO none ([]:aa Int).length 0)]⟩)]) (λcA=>Exit.exit 2) (λcA g2=>[(34,J.of cA.1),(35,J.of cA.2.1)]) (λcA g2=>[(4,⟨g2.1,.row 3 cA.2.2.1 g2.2⟩),(6,⟨some bX,.cq cA.2.2.2 [(0,aO g1.1 au.2.2.1.length g1.2),(1,aO g2.1 cA.2.2.1.length g2.2),(2,aO none ([]:aa Int).length 0),(3,aO none ([]:aa Int).length 0),(4,aO none ([]:aa Int).length 0),(5,aO none ([]:aa Int).length 0)]⟩)]) (none,0) (λs2 r h g2=>?_) λg2=>?_
 ·refine go2 (λbE dJ pj h=>?_) (λh=>?_)
  ·refine bk (lx (k:=1) rZ (ag I) (cH 1) ⟨by decide,rfl⟩) ?_;refine bk (gN (i:=7) (q:=1) (β:=Vector (aa Int) 6) (γ:=Int) k4 (ag I) I I) ?_;refine aL ?_;refine aA h λaF b5 h=>fF 5 underlying39 b8 pb b5 λj0 ly=>?_;refine bk (lx (k:=1) rZ (ag I) (cH 1) ⟨by decide,rfl⟩) ?_;refine ae.iZ (i:=7) (γ:=Int) (b':=(dS s2.2.2 1 []:Vector (aa Int) 6)) (os':=[(0,aO g1.1 au.2.2.1.length g1.2),(1,aO j0 aF.length ly),(2,aO none ([]:aa Int).length 0),(3,aO none ([]:aa Int).length 0),(4,aO none ([]:aa Int).length 0),(5,aO none ([]:aa Int).length 0)]) ((aN.id (Vector (aa Int) 6)).comp (aN.idx (α:=aa Int) 6 1 (by decide))) k4 (ag I) (ag I) hU I I I I ?_;refine aL ?_;cases h;exact hY (j0,ly) 1
  cases h;exact ho (g2.1,g2.2) 0
 refine aL ?_;refine aA h λcF ao h=>fc (γ:=(aw Nat×Nat)) (δ:=(aw Nat×Nat)) ao [0,1,2,3,17,18,19,20,32,33,34,35,47,48] (λdD g3=>[(49,J.of dD.1)]) (λdD g3=>[(3,⟨g3.1,.row 3 dD.2.1 g3.2⟩),(6,⟨some bX,.cq dD.2.2 [(0,aO g1.1 au.2.2.1.length g1.2),(1,aO g2.1 aW.2.2.1.length g2.2),(2,aO g3.1 dD.2.1.length g3.2),(3,aO none ([]:aa Int).length 0),(4,aO none ([]:aa Int).length 0),(5,aO none ([]:aa Int).length 0)]⟩)]) (λeZ=>Exit.exit 4) (λeZ g3=>[(49,J.of eZ.1),(50,J.of eZ.2.1)]) (λeZ g3=>[(3,⟨g3.1,.row 3 eZ.2.2.1 g3.2⟩),(6,⟨some bX,.cq eZ.2.2.2 [(0,aO g1.1 au.2.2.1.length g1.2),(1,aO g2.1 aW.2.2.1.length g2.2),(2,aO g3.1 eZ.2.2.1.length g3.2),(3,aO none ([]:aa Int).length 0),(4,aO none ([]:aa Int).length 0),(5,aO none ([]:aa Int).length 0)]⟩)]) (none,0) (λdD r h g3=>?_) λg3=>?_
 ·refine go2 (λcP ih SR h=>?_) (λh=>?_)
  ·refine bk (lx (k:=2) rZ (ag I) (cH 2) ⟨by decide,rfl⟩) ?_;refine bk (gN (i:=7) (q:=2) (β:=Vector (aa Int) 6) (γ:=Int) k4 (ag I) I I) ?_;refine aL ?_;refine aA h λbd dY h=>fF 4 underlying39 b8 pb dY λlz qB=>?_;refine bk (lx (k:=2) rZ (ag I) (cH 2) ⟨by decide,rfl⟩) ?_;refine ae.iZ (i:=7) (γ:=Int) (b':=(dS dD.2.2 2 []:Vector (aa Int) 6)) (os':=[(0,aO g1.1 au.2.2.1.length g1.2),(1,aO g2.1 aW.2.2.1.length g2.2),(2,aO lz bd.length qB),(3,aO none ([]:aa Int).length 0),(4,aO none ([]:aa Int).length 0),(5,aO none ([]:aa Int).length 0)]) ((aN.id (Vector (aa Int) 6)).comp (aN.idx (α:=aa Int) 6 2 (by decide))) k4 (ag I) (ag I) hU I I I I ?_;refine aL ?_;cases h;exact hY (lz,qB) 1
  cases h;exact ho (g3.1,g3.2) 0
 refine aL ?_;refine aA h λfv ao h=>fc (γ:=(aw Nat×Nat)) (δ:=(aw Nat×Nat)) ao [0,1,2,3,17,18,19,20,32,33,34,35,47,48,49,50,62,63] (λoE g4=>[(64,J.of oE.1)]) (λoE g4=>[(2,⟨g4.1,.row 3 oE.2.1 g4.2⟩),(6,⟨some bX,.cq oE.2.2 [(0,aO g1.1 au.2.2.1.length g1.2),(1,aO g2.1 aW.2.2.1.length g2.2),(2,aO g3.1 cF.2.2.1.length g3.2),(3,aO g4.1 oE.2.1.length g4.2),(4,aO none ([]:aa Int).length 0),(5,aO none ([]:aa Int).length 0)]⟩)]) (λlK=>Exit.exit 6) (λlK g4=>[(64,J.of lK.1),(65,J.of lK.2.1)]) (λlK g4=>[(2,⟨g4.1,.row 3 lK.2.2.1 g4.2⟩),(6,⟨some bX,.cq lK.2.2.2 [(0,aO g1.1 au.2.2.1.length g1.2),(1,aO g2.1 aW.2.2.1.length g2.2),(2,aO g3.1 cF.2.2.1.length g3.2),(3,aO g4.1 lK.2.2.1.length g4.2),(4,aO none ([]:aa Int).length 0),(5,aO none ([]:aa Int).length 0)]⟩)]) (none,0) (λoE r h g4=>?_) λg4=>?_
 ·refine go2 (λfm mo as1 h=>?_) (λh=>?_)
  ·refine bk (lx (k:=3) rZ (ag I) (cH 3) ⟨by decide,rfl⟩) ?_;refine bk (gN (i:=7) (q:=3) (β:=Vector (aa Int) 6) (γ:=Int) k4 (ag I) I I) ?_;refine aL ?_;refine aA h λbq eW h=>fF 3 underlying39 b8 pb eW λjH vW=>?_;refine bk (lx (k:=3) rZ (ag I) (cH 3) ⟨by decide,rfl⟩) ?_;refine ae.iZ (i:=7) (γ:=Int) (b':=(dS oE.2.2 3 []:Vector (aa Int) 6)) (os':=[(0,aO g1.1 au.2.2.1.length g1.2),(1,aO g2.1 aW.2.2.1.length g2.2),(2,aO g3.1 cF.2.2.1.length g3.2),(3,aO jH bq.length vW),(4,aO none ([]:aa Int).length 0),(5,aO none ([]:aa Int).length 0)]) ((aN.id (Vector (aa Int) 6)).comp (aN.idx (α:=aa Int) 6 3 (by decide))) k4 (ag I) (ag I) hU I I I I ?_;refine aL ?_;cases h;exact hY (jH,vW) 1
  cases h;exact ho (g4.1,g4.2) 0
 refine aL ?_;refine aA h λjN ao h=>fc (γ:=(aw Nat×Nat)) (δ:=(aw Nat×Nat)) ao [0,1,2,3,17,18,19,20,32,33,34,35,47,48,49,50,62,63,64,65,77,78] (λjj g5=>[(79,J.of jj.1)]) (λjj g5=>[(1,⟨g5.1,.row 3 jj.2.1 g5.2⟩),(6,⟨some bX,.cq jj.2.2 [(0,aO g1.1 au.2.2.1.length g1.2),(1,aO g2.1 aW.2.2.1.length g2.2),(2,aO g3.1 cF.2.2.1.length g3.2),(3,aO g4.1 fv.2.2.1.length g4.2),(4,aO g5.1 jj.2.1.length g5.2),(5,aO none ([]:aa Int).length 0)]⟩)]) (λfT=>Exit.exit 8) (λfT g5=>[(79,J.of fT.1),(80,J.of fT.2.1)]) (λfT g5=>[(1,⟨g5.1,.row 3 fT.2.2.1 g5.2⟩),(6,⟨some bX,.cq fT.2.2.2 [(0,aO g1.1 au.2.2.1.length g1.2),(1,aO g2.1 aW.2.2.1.length g2.2),(2,aO g3.1 cF.2.2.1.length g3.2),(3,aO g4.1 fv.2.2.1.length g4.2),(4,aO g5.1 fT.2.2.1.length g5.2),(5,aO none ([]:aa Int).length 0)]⟩)]) (none,0) (λjj r h g5=>?_) λg5=>?_
 ·refine go2 (λoF LQ arw h=>?_) (λh=>?_)
  ·refine bk (lx (k:=4) rZ (ag I) (cH 4) ⟨by decide,rfl⟩) ?_;refine bk (gN (i:=7) (q:=4) (β:=Vector (aa Int) 6) (γ:=Int) k4 (ag I) I I) ?_;refine aL ?_;refine aA h λbM fY h=>fF 2 underlying39 b8 pb fY λr9 Lh=>?_;refine bk (lx (k:=4) rZ (ag I) (cH 4) ⟨by decide,rfl⟩) ?_;refine ae.iZ (i:=7) (γ:=Int) (b':=(dS jj.2.2 4 []:Vector (aa Int) 6)) (os':=[(0,aO g1.1 au.2.2.1.length g1.2),(1,aO g2.1 aW.2.2.1.length g2.2),(2,aO g3.1 cF.2.2.1.length g3.2),(3,aO g4.1 fv.2.2.1.length g4.2),(4,aO r9 bM.length Lh),(5,aO none ([]:aa Int).length 0)]) ((aN.id (Vector (aa Int) 6)).comp (aN.idx (α:=aa Int) 6 4 (by decide))) k4 (ag I) (ag I) hU I I I I ?_;refine aL ?_;cases h;exact hY (r9,Lh) 1
  cases h;exact ho (g5.1,g5.2) 0
 refine aL ?_;refine aA h λmx ao h=>fc (γ:=(aw Nat×Nat)) (δ:=(aw Nat×Nat)) ao [0,1,2,3,17,18,19,20,32,33,34,35,47,48,49,50,62,63,64,65,77,78,79,80,92,93] (λkm g6=>[(94,J.of km.1)]) (λkm g6=>[(0,⟨g6.1,.row 3 km.2.1 g6.2⟩),(6,⟨some bX,.cq km.2.2 [(0,aO g1.1 au.2.2.1.length g1.2),(1,aO g2.1 aW.2.2.1.length g2.2),(2,aO g3.1 cF.2.2.1.length g3.2),(3,aO g4.1 fv.2.2.1.length g4.2),(4,aO g5.1 jN.2.2.1.length g5.2),(5,aO g6.1 km.2.1.length g6.2)]⟩)]) (λkR=>Exit.exit 10) (λkR g6=>[(94,J.of kR.1),(95,J.of kR.2.1)]) (λkR g6=>[(0,⟨g6.1,.row 3 kR.2.2.1 g6.2⟩),(6,⟨some bX,.cq kR.2.2.2 [(0,aO g1.1 au.2.2.1.length g1.2),(1,aO g2.1 aW.2.2.1.length g2.2),(2,aO g3.1 cF.2.2.1.length g3.2),(3,aO g4.1 fv.2.2.1.length g4.2),(4,aO g5.1 jN.2.2.1.length g5.2),(5,aO g6.1 kR.2.2.1.length g6.2)]⟩)]) (none,0) (λkm r h g6=>?_) λg6=>?_
 ·refine go2 (λlL pR as2 h=>?_) (λh=>?_)
  ·refine bk (lx (k:=5) rZ (ag I) (cH 5) ⟨by decide,rfl⟩) ?_;refine bk (gN (i:=7) (q:=5) (β:=Vector (aa Int) 6) (γ:=Int) k4 (ag I) I I) ?_;refine aL ?_;refine aA h λcG hr h=>fF 1 underlying39 b8 pb hr λGg Zl=>?_;refine bk (lx (k:=5) rZ (ag I) (cH 5) ⟨by decide,rfl⟩) ?_;refine ae.iZ (i:=7) (γ:=Int) (b':=(dS km.2.2 5 []:Vector (aa Int) 6)) (os':=[(0,aO g1.1 au.2.2.1.length g1.2),(1,aO g2.1 aW.2.2.1.length g2.2),(2,aO g3.1 cF.2.2.1.length g3.2),(3,aO g4.1 fv.2.2.1.length g4.2),(4,aO g5.1 jN.2.2.1.length g5.2),(5,aO Gg cG.length Zl)]) ((aN.id (Vector (aa Int) 6)).comp (aN.idx (α:=aa Int) 6 5 (by decide))) k4 (ag I) (ag I) hU I I I I ?_;refine aL ?_;cases h;exact hY (Gg,Zl) 1
  cases h;exact ho (g6.1,g6.2) 0
 refine ar.qs (ar.next (b6 (ae.mN (β:=Vector (aa Int) 6) (γ:=Int) (b':=(dS mx.2.2.2 0 au.2.2.1:Vector (aa Int) 6)) ((aN.id (Vector (aa Int) 6)).comp (aN.idx (α:=aa Int) 6 0 (by decide))) 6 5 0 I I I I I I ?_)));refine ae.mN (β:=Vector (aa Int) 6) (γ:=Int) (b':=(dS (dS mx.2.2.2 0 au.2.2.1) 1 aW.2.2.1:Vector (aa Int) 6)) ((aN.id (Vector (aa Int) 6)).comp (aN.idx (α:=aa Int) 6 1 (by decide))) 6 4 0 I I I I I I ?_;refine ae.mN (β:=Vector (aa Int) 6) (γ:=Int) (b':=(dS (dS (dS mx.2.2.2 0 au.2.2.1) 1 aW.2.2.1) 2 cF.2.2.1:Vector (aa Int) 6)) ((aN.id (Vector (aa Int) 6)).comp (aN.idx (α:=aa Int) 6 2 (by decide))) 6 3 0 I I I I I I ?_;refine ae.mN (β:=Vector (aa Int) 6) (γ:=Int) (b':=(dS (dS (dS (dS mx.2.2.2 0 au.2.2.1) 1 aW.2.2.1) 2 cF.2.2.1) 3 fv.2.2.1:Vector (aa Int) 6)) ((aN.id (Vector (aa Int) 6)).comp (aN.idx (α:=aa Int) 6 3 (by decide))) 6 2 0 I I I I I I ?_;refine ae.mN (β:=Vector (aa Int) 6) (γ:=Int) (b':=(dS (dS (dS (dS (dS mx.2.2.2 0 au.2.2.1) 1 aW.2.2.1) 2 cF.2.2.1) 3 fv.2.2.1) 4 jN.2.2.1:Vector (aa Int) 6)) ((aN.id (Vector (aa Int) 6)).comp (aN.idx (α:=aa Int) 6 4 (by decide))) 6 1 0 I I I I I I ?_;refine ae.mN (β:=Vector (aa Int) 6) (γ:=Int) (b':=(dS (dS (dS (dS (dS (dS mx.2.2.2 0 au.2.2.1) 1 aW.2.2.1) 2 cF.2.2.1) 3 fv.2.2.1) 4 jN.2.2.1) 5 mx.2.2.1:Vector (aa Int) 6)) ((aN.id (Vector (aa Int) 6)).comp (aN.idx (α:=aa Int) 6 5 (by decide))) 6 0 0 I I I I I I ?_;exact ae.qt 6 I go
instance:ea prog 46 _ _ _ Fh J.of J.of J.of:=.i func46 I ntmps46 I λab aj r h W A=>by
 unfold Fh at h;refine aL ?_;refine aA h λau ao h=>fc (γ:=Unit) (δ:=Unit) ao [0,1,7,8] (λs1 g1=>[(4,J.of (0:Int)),(9,J.of s1)]) (λs1 g1=>[]) (λaq=>Sum.elim (λaq=>Exit.exit 0) (λaq=>Exit.ret) aq) (λaq g1=>Sum.elim (λaq=>[(4,J.of (0:Int)),(9,J.of aq.1),(10,J.of aq.2)]) (λaq=>[(4,J.of aq.1),(5,J.of aq.2.1),(6,J.of aq.2.2.1),(9,J.of aq.2.2.2.1),(10,J.of aq.2.2.2.2.1),(16,J.of aq.2.2.2.2.2)]) aq) (λaq g1=>[]) () (λs1 r h g1=>?_) λg1=>?_
 ·exact go
 rcases au with au|au
 ·simp only[Sum.elim_inl]at h;exact go
 simp only[Sum.elim_inr]at h;exact go
def aeH{ab r}(h:NV ab=some r):cm prog 32 [J.of ab] (J.of r):=by
 unfold NV at h;refine cm.of func32 I ntmps32 I λW A=>b6 (ny λbj=>?_);refine bk (cV (look_nil (α:=hS))) (fD ?_);refine ae.own (α:=hS) 152 (bk (cV k2) ?_);refine aL ?_;refine aA h λau ao h=>fc (γ:=(aw Nat×Nat)) (δ:=(aw Nat×Nat)) ao [0,1,2,7,8] (λs1 g1=>[(3,J.eq (aO g1.1 s1.2.length g1.2)),(9,J.of s1.1)]) (λs1 g1=>[(0,⟨g1.1,.row 152 s1.2 g1.2⟩)]) (λaq=>Exit.exit 0) (λaq g1=>[(3,J.eq (aO g1.1 aq.2.2.length g1.2)),(9,J.of aq.1),(10,J.of aq.2.1)]) (λaq g1=>[(0,⟨g1.1,.row 152 aq.2.2 g1.2⟩)]) (none,0) (λs1 r h g1=>?_) λg1=>?_
 ·refine go2 (λaJ cQ bB h=>?_) (λh=>?_)
  ·refine aA h λm1 bW h=>gl (γ:=(aw Nat×Nat)) [0,1,2,5,7,8,9,10,14,15] (λg2=>[(3,J.eq (aO g2.1 m1.length g2.2))]) (λg2=>[(1,⟨g2.1,.row 152 m1 g2.2⟩)]) (λg2=>?_) (λhm ak=>?_) λhm ak=>?_
   ·refine aL ?_;cases h;exact hY (g2.1,g2.2) 1
   ·have h:=e1 ak bW;refine aL λbg ej z2 iD h=>?_;refine aA h λan bs h=>fF 1 underlying98 z1 Cz bs λed dq=>?_;refine cO (ae.nil ?_);cases h;exact dM 0 (hm (ed,dq))
   have h:=e2 ak bW;refine aL ?_;refine aA h λm2 dw h=>gl (γ:=(aw Nat×Nat)) [0,1,2,5,7,8,9,10,14,15,26] (λg3=>[(3,J.eq (aO g3.1 m2.length g3.2))]) (λg3=>[(1,⟨g3.1,.row 152 m2 g3.2⟩)]) (λg3=>?_) (λhm ak=>?_) λhm ak=>?_
   ·cases h;exact dM 0 (hm (g3.1,g3.2))
   ·have h:=e1 ak dw;refine aL λz3 sm z4 uN h=>?_;refine aA h λaF b5 h=>fF 1 underlying98 z1 Cz b5 λj0 ly=>?_;refine cO (ae.nil ?_);cases h;exact dM 0 (hm (j0,ly))
   have h:=e2 ak dw;refine aL ?_;refine aA h λm3 fE h=>gl (γ:=(aw Nat×Nat)) [0,1,2,5,7,8,9,10,14,15,26,37] (λg4=>[(3,J.eq (aO g4.1 m3.length g4.2))]) (λg4=>[(1,⟨g4.1,.row 152 m3 g4.2⟩)]) (λg4=>?_) (λhm ak=>?_) λhm ak=>?_
   ·cases h;exact dM 0 (hm (g4.1,g4.2))
   ·have h:=e1 ak fE;refine aL λz5 Ax e4 Ay h=>?_;refine aA h λbd dY h=>fF 1 underlying98 z1 Cz dY λlz qB=>?_;refine cO (ae.nil ?_);cases h;exact dM 0 (hm (lz,qB))
   have h:=e2 ak fE;refine aL ?_;refine aA h λm4 rn h=>gl (γ:=(aw Nat×Nat)) [0,1,2,5,7,8,9,10,14,15,26,37,48] (λg5=>[(3,J.eq (aO g5.1 m4.length g5.2))]) (λg5=>[(1,⟨g5.1,.row 152 m4 g5.2⟩)]) (λg5=>?_) (λhm ak=>?_) λhm ak=>?_
   ·cases h;exact dM 0 (hm (g5.1,g5.2))
   ·have h:=e1 ak rn;refine aL λkS yd il Az h=>?_;refine aA h λbq eW h=>fF 1 underlying98 z1 Cz eW λjH vW=>?_;refine cO (ae.nil ?_);cases h;exact dM 0 (hm (jH,vW))
   have h:=e2 ak rn;refine az.skip ?_;cases h;exact dM 0 (hm (g1.1,g1.2))
  cases h;exact ho (g1.1,g1.2) 0
 refine aL λz9 AA h=>?_;refine aA h λbM fY h=>fF 0 underlying98 z1 Cz fY λr9 Lh=>?_;refine cO (b7 (az.ret ?_));exact ar.jW (α:=hS) 0 [2,63] ⟨rfl,rfl,trivial⟩ I go
instance:gx prog 99 _ _ Om J.of J.of:=.i func99 I ntmps99 I λab r h W A=>by
 unfold Om at h;exact go
instance:gx prog 100 _ _ Oy J.of J.of:=.i func100 I ntmps100 I λab r h W A=>by
 unfold Oy at h;refine aL λbj bB bX=>?_;refine aA h λau ao h=>fc (γ:=Unit) (δ:=Unit) ao [0,1,2,3] (λs1 g1=>[(4,J.of s1.1)]) (λs1 g1=>[(0,a8 bX s1.2)]) (λaq=>Exit.exit 0) (λaq g1=>[(4,J.of aq.1),(6,J.of aq.2.1)]) (λaq g1=>[(0,a8 bX aq.2.2)]) () (λs1 r h g1=>?_) λg1=>?_
 ·refine aL (λaJ cQ h=>?_);refine aA h λm1 bW h=>gl (γ:=Unit) [0,1,2,3,4,6,11] (λg2=>[]) (λg2=>[(0,a8 bX m1)]) (λg2=>?_) (λhm ak=>?_) λhm ak=>?_
  ·refine aL λbE dJ h=>?_;refine aA h λm2 dw h=>gl (γ:=Unit) [0,1,2,3,4,6,11,22] (λg3=>[]) (λg3=>[(0,a8 bX m2)]) (λg3=>?_) (λhm ak=>?_) λhm ak=>?_
   ·exact go
   ·have h:=e1 ak dw;refine az.fk (db (cg Xt.fd) ?_);refine nz 0 BN tc ?_;refine cJ ?_;refine db (PZ underlying3 underlying271) ?_;refine bk (Py (vB 1 I) (ag I)) ?_;refine ef P0 ?_;refine db (cg Xt.fd) ?_;refine aA h λbg ej h=>LR 0 BN tc (hb:=by exact ej) ?_;exact go
   have h:=e2 ak dw;exact go
  ·have h:=e1 ak bW;refine az.fk (db (cg Xu.fd) ?_);refine nz 0 q6 tc ?_;refine cJ ?_;refine db (PZ underlying3 underlying271) ?_;refine bk (Py (vB 1 I) (ag I)) ?_;refine ef P0 ?_;refine db (cg Xu.fd) ?_;refine aA h λz2 iD h=>LR 0 q6 tc (hb:=by exact iD) ?_;exact go
  have h:=e2 ak bW;exact go
 exact go
instance:gx prog 52 _ _ Jw J.of J.of:=.i func52 I ntmps52 I λab r h W A=>by
 unfold Jw at h;exact go
instance:ea prog 48 _ _ _ Oa J.of J.of (λr=>J.bY [J.of r.1,J.of r.2]):=.i func48 I ntmps48 I λab aj r h W A=>by
 unfold Oa at h;refine b6 (bk (cV (look_nil (α:=jC))) ?_);refine aL ?_;refine bk (z7 underlying9 (ag I) (gM (ByteArray.mk #[]))) ?_;refine aL (λh=>?_);cases h
instance:gx prog 149 _ _ N4 J.of J.of:=.i func149 I ntmps149 I λab r h W A=>by
 unfold N4 at h;exact go
instance:gx prog 245 _ _ Oz J.of J.of:=.i func245 I ntmps245 I λab r h W A=>by
 unfold Oz at h;refine aL λbj bB bX=>?_;refine aA h λau ao h=>fc (γ:=Unit) (δ:=Unit) ao [0,1,2,3] (λs1 g1=>[(4,J.of s1.1)]) (λs1 g1=>[(0,a8 bX s1.2)]) (λaq=>Exit.exit 0) (λaq g1=>[(4,J.of aq.1),(6,J.of aq.2.1)]) (λaq g1=>[(0,a8 bX aq.2.2)]) () (λs1 r h g1=>?_) λg1=>?_
 ·refine aL (λh=>?_);refine aA h λaJ cQ h=>aA h λbg ej h=>aA h λbE dJ h=>aA h λz2 iD h=>gU [0,1,2,3,4,5,6] ?_;refine az.Bb 3 (aQ 9 [] [] _::aQ 10 [] [] _::aQ 11 [1] [] _::aQ 12 [] [] _::aQ 13 [3] [2] _::aQ 14 [] [] _::aQ 15 [5] [] _::aQ 16 [4,6] [] _::aQ 17 [7] [] _::aQ 18 [8] [] _::aQ 19 [] [] _::aQ 20 [10] [2] _::aQ 21 [] [] _::aQ 22 [12] [] _::aQ 23 [11,13] [] _::aQ 24 [14] [] _::aQ 25 [15] [] _::aQ 26 [0] [] _::j9 [9,17] [0] [0] (λhd=>a8 bX bg)::aQ 27 [2] [] _::j9 [16,18,19] [0] [0] (λhd=>a8 bX z2)::[]) (λek=>?_);refine ar.eL (L2:=[a8 bX z2,a8 bB (default:Vector Bool 128),a8 bj ab]) I (je ?_);exact go
 exact go
instance:ea prog 241 _ _ _ JH J.of J.of J.of:=.i func241 I ntmps241 I λab aj r h W A=>by
 unfold JH at h;refine b6 (bk (cV (look_nil (α:=Int))) (fD ?_));refine ae.own (α:=Int) 3 (bk (cV k2) ?_);refine aL ?_;refine aA h λau ao h=>fc (γ:=(aw Nat×Nat)) (δ:=(aw Nat×Nat)) ao [0,1,4,10] (λs1 g1=>[(5,J.eq (aO g1.1 s1.2.2.length g1.2)),(6,J.of s1.1),(11,J.of s1.2.1)]) (λs1 g1=>[(0,⟨g1.1,.row 3 s1.2.2 g1.2⟩)]) (λaq=>Exit.exit 0) (λaq g1=>[(5,J.eq (aO g1.1 aq.2.2.2.length g1.2)),(6,J.of aq.1),(11,J.of aq.2.1),(12,J.of aq.2.2.1)]) (λaq g1=>[(0,⟨g1.1,.row 3 aq.2.2.2 g1.2⟩)]) (none,0) (λs1 r h g1=>?_) λg1=>?_
 ·refine go2 (λh=>?_) (λh=>?_)
  ·refine aA h λaJ cQ h=>aA h λan bs h=>az.eM 10 ?_;refine aL ?_;refine aA h λm1 bW h=>gl (γ:=Unit) [0,1,4,5,7,10,11,12,25] (λg2=>[(6,J.of m1.1),(8,J.of m1.2)]) (λg2=>[]) (λg2=>?_) (λhm ak=>?_) λhm ak=>?_
   ·refine aL ?_;refine aA h λaF b5 h=>fF 0 underlying39 b8 pb b5 λed dq=>?_;refine aL ?_;cases h;exact hY (ed,dq) 0
   ·have h:=e1 ak bW;exact go
   have h:=e2 ak bW;exact go
  cases h;exact ho (g1.1,g1.2) 0
 refine aL ?_;exact ar.jW (α:=Int) 0 [4,5,33] ⟨rfl,rfl,rfl,trivial⟩ I go
instance:gx prog 196 _ _ JO J.of J.of:=.i func196 I ntmps196 I λab r h W A=>by
 unfold JO at h;exact go
instance aaL:ea prog 34 _ _ _ N5 J.of J.of J.of:=.i func34 I ntmps34 I λab aj r h W A=>by
 unfold N5 at h;refine aL λbj an bs h=>?_;refine bk (Pz (k:=3) underlying145 k4 (ag I) (cH 3) ⟨by decide,rfl⟩) ?_;exact go
def ads{hp ab r}(h:EC hp ab=some r):iG prog 37 [J.of ab] hp (J.of r) hp:=by
 unfold EC at h;refine bR.of func37 I ntmps37 I λW A=>?_;refine aL ?_;exact aA h λan bs h=>ae.hA (fa.iA 0 I Zm (Uh bs) ⟨ag I,trivial⟩) I I I (aA h λaF b5 h=>ae.hA (fa.iA 0 I am4 (aee b5) ⟨ag I,trivial⟩) I I I go)
def qh{ab c3 r}(h:nR ab=some r):yA prog 18 [J.df c3] c3 ab (J.of r.1) r.2:=by
 unfold nR at h;refine bR.of func18 I ntmps18 I λW A=>?_;refine aL ?_;refine ae.b4 0 I (aA h λan bs h=>hg 1 k5 (kZ bs) λaq=>?_);exact go
def afl{hp ab aj Q}(h:B9 hp ab aj Q):lJ prog 39 [J.of ab,J.of aj] hp Q:=by
 unfold B9 at h;refine bR.of func39 I ntmps39 I λW A=>b6 (ny λbj=>?_);refine bk (cV ou) ?_;refine go2 (λan bs h=>?_) (λan bs aJ cQ bB aF b5 h=>?_)
 ·refine bk (cV ou) (b7 (az.ret (ar.ret ?_)));exact ar.eI (⟨⟨((none:Ref),hp),h⟩,()⟩: {r // _}×_) (eV 1) I I (dv I)
 refine ae.FR (α:=Int) (β:=aK) 2 I (Cell.lX ([]:aa (Int×aK))) (λ_=>rfl) I λbS pP=>?_;replace h:=ai.pz h bS pP;refine ai.bA h λbg ej h=>iH ej (kc (b:=({(default:jS)with vI:=aF.1,vJ:=(((aB ab.bH aJ).bQ).length:Int),oV:=(⟨some bS.1⟩:eJ)}:jS)) I akd ake (.cons ada I (ag I) I (.cons adb I (ag I) I (.cons T2 I (ag I) I (.nil))))) ?_;refine ae.xT 2 I (Cell.pH bg) (λ_=>rfl) (ag I) I λa2 wh=>?_;replace h:=ai.pz h a2 wh;refine aL ?_;refine Dd (γ:=Unit) h 2 [0,1,2,4,5,6,7,8,9,16,34,42] (λm1 g1=>[]) (λm1 g1=>[]) (λm1 g1=>a6 m1) (λm1 g1 h=>?_) (λhm ak h=>?_) (λhm ak h=>?_)
 ·refine aL ?_;exact ar.eI (⟨⟨((some a2.1:Ref),m1),h⟩,()⟩: {r // _}×_) (eV 2) I I (dv I)
 ·refine az.fk (cJ ?_);refine ae.dV 2 0 I am5 (afj h) I I r1 I λ⟨⟨bd,h⟩,aq⟩=>ae.dh ?_;refine rm akf akg {uO:=bd.1:pw} (oA UF .nil) ?_;refine bk (KD underlying167 I (ag I) (λ_ _ _ h=>af1 h)) ?_;refine aL ?_;exact ai.bA h λc1 dj h=>ai.bA h λbL gv h=>ae.pD (k':=Cell.pH ({c1 with nn:=(h8.pI ({uO:=bd.1:pw}))}:jS)) 2 I ((aN.id jS).comp Iy) (v:=((h8.pI ({uO:=bd.1:pw})):h8)) KW (ag I) (ag I) (zL dj) I I I I (cZ gv) (ae.nil (dM 0 (hm bL () h)))
 refine aL ?_;refine Dd (γ:=Unit) h 2 [0,1,2,4,5,6,7,8,9,16,34,42,50] (λm2 g2=>[]) (λm2 g2=>[]) (λm2 g2=>a6 m2) (λm2 g2 h=>?_) (λhm ak h=>?_) (λhm ak h=>?_)
 ·exact dM 0 (hm m2 () h)
 ·refine aL ?_;refine ai.bA h λbE dJ h=>ai.bA h λbq eW h=>az.eM 8 ?_;refine aL ?_;refine ai.bA h λm3 fE h=>ye (γ:=Unit) 2 [0,1,2,4,5,6,7,8,9,11,16,34,42,50,61] (λg3=>[(10,J.of m3)]) (λg3=>[]) (λg3=>a6 a2.2) (λg3=>?_) (λhm ak=>?_) (λhm ak=>?_)
  ·refine aL ?_;refine ae.FR (α:=Vector aV 4) (β:=Ref) 2 I (Cell.n0 ([]:aa ((Vector aV 4)×Ref))) (λ_=>rfl) I λa3 apH=>?_;replace h:=ai.pz h a3 apH;refine ai.bA h λz2 iD h=>iH iD (kc (b:= {vQ:=aF.2,hn:=m3,ui:=(⟨some a3.1⟩:eJ):mD}) I akh aki (.cons Ui I (ag I) I (.cons Nd I (ag I) I (.cons D4 I (ag I) I (.nil))))) ?_;refine bk (KD underlying170 I (ag I) (λ_ _ _ h=>af2 h)) ?_;refine aL ?_;exact ai.bA h λc2 eX h=>ai.bA h λcN Ak h=>ae.pD (k':=Cell.pH ({c2 with nn:=(h8.pJ z2)}:jS)) 2 I ((aN.id jS).comp Iy) (v:=((h8.pJ z2):h8)) KW (ag I) (ag I) (zL eX) I I I I (cZ Ak) (ae.nil (dM 0 (hm cN () h)))
  ·have h:=e1 ak fE;exact go
  have h:=e2 ak fE;exact go
 refine aL ?_;refine ai.bA h λbM fY h=>hg 0 am6 (aeF fY) λcA=>?_;refine ae.X9 4 2 (Cell.uJ bM cA.2.1 cA.2.2) I I I I ln λa4 apI apJ=>?_;replace h:=ai.pz (h (cA.2.1,cA.2.2)) a4 apI;refine ae.Ya 37 I apJ (rm akj akk {da:=(some a4.1:Ref):px} (oA UG .nil) ?_);refine bk (KD underlying174 I (ag I) (λ_ _ _ h=>af3 h)) ?_;refine aL ?_;exact ai.bA h λet jf h=>ai.bA h λhG Gh h=>ae.pD (k':=Cell.pH ({et with nn:=(h8.pK ({da:=(some a4.1:Ref):px}))}:jS)) 2 I ((aN.id jS).comp Iy) (v:=((h8.pK ({da:=(some a4.1:Ref):px})):h8)) KW (ag I) (ag I) (zL jf) I I I I (cZ Gh) (ae.nil (dM 0 (hm hG () h)))
def aef{ab aj r}(h:Ja ab aj=some r):cm prog 59 [J.ptr ab,J.ptr aj] (J.of r):=by
 unfold Ja at h;refine cm.of func59 I ntmps59 I λW A=>?_;exact go
instance:nL prog 61 _ _ _ _ Jx J.of J.of J.of (λr=>J.bY [J.of r.1,J.of r.2]):=.i func61 I ntmps61 I λab aj aG r h W A=>by
 unfold Jx at h;refine aL (λbj bB bX an bs aJ cQ h=>?_);refine ae.share (α:=Int) 1 5 I I (bk (zK (F:=(λa0=>I1 a0 aG)) (τs:=[J.ptr aG]) akl ⟨ag I,trivial⟩ (λ_ _ h=>adM h)) ?_);refine aA h λaF b5 h=>lD akm (acv b5) ?_;exact go
def aeg{ab aj r}(h:Jb ab aj=some r):cm prog 66 [J.ptr ab,J.ptr aj] (J.of r):=by
 unfold Jb at h;refine cm.of func66 I ntmps66 I λW A=>?_;exact go
instance Zn:ea prog 111 _ _ _ zm J.of J.of (λr=>J.bY [J.of r.1,J.of r.2]):=.i func111 I ntmps111 I λab aj r h W A=>by
 unfold zm at h;exact go
def ae3{ab aj r}(h:Oh ab aj=some r):cm prog 114 [J.of ab,J.of aj] (J.of r):=by
 unfold Oh at h;refine cm.of func114 I ntmps114 I λW A=>?_;exact go
def adt{ab c3 r}(h:ED ab=some r):yA prog 14 [J.df c3] c3 ab (J.of r.1) r.2:=by
 unfold ED at h;refine bR.of func14 I ntmps14 I λW A=>b6 (bk (cV (look_nil (α:=eO))) ?_);refine aL ?_;refine ae.b4 0 I (aA h λan bs h=>hg 1 k5 (kZ bs) λaq=>?_);refine aA h λaJ cQ h=>GS cQ underlying39 b8 ?_;refine db (jE b8) ?_;refine bk (sR (b:=({(default:eO)with cd:=1,ky:=1,rU:=4,iY:=aB ([0,0,65535,3]:aa Int) aJ}:eO)) [3] WV I akn Yb (.cons UR I (cH 1) I (by rfl) (.cons Ut I (cH 1) I (by rfl) (.cons Uu I (cH 4) I (by rfl) (.cons Uo I (ag I) I (by rfl) (.nil)))))) ?_;refine ae.own (α:=iK) 112 (ae.qp (z:=(default:eO)) [3] WV Yb I λbj=>ae.own (α:=iK) 112 (ae.uq (i:=1) Yc (ag I) (ag I) I (fD (bk (kc (b:=({(default:aV)with dA:=1#64}:aV)) I CO vX (.cons q6 I (vB 1 I) I (.nil))) ?_))));refine bk (kc (b:=({(default:aV)with dA:=15#64}:aV)) I CO vX (.cons q6 I (vB 15 I) I (.nil))) ?_;refine aA h λbg ej h=>iH ej (kc (b:= {bV:=({(default:aV)with dA:=1#64}:aV),iz:=({(default:aV)with dA:=15#64}:aV),vK:=2:iK}) I Yd KX (.cons Nx I (ag I) I (.cons NJ I (ag I) I (.cons NK I (cH 2) I (.nil))))) ?_;refine bk (kc (b:=({(default:aV)with dA:=2#64}:aV)) I CO vX (.cons q6 I (vB 2 I) I (.nil))) ?_;refine bk (kc (b:=({(default:aV)with dA:=3#64}:aV)) I CO vX (.cons q6 I (vB 3 I) I (.nil))) ?_;refine aA h λz2 iD h=>iH iD (kc (b:= {bV:=({(default:aV)with dA:=2#64}:aV),iz:=({(default:aV)with dA:=3#64}:aV),vK:=3:iK}) I Yd KX (.cons Nx I (ag I) I (.cons NJ I (ag I) I (.cons NK I (cH 3) I (.nil))))) ?_;refine ae.sa (α:=iK) (r:=[bg,z2]) underlying108 Qn KX I I (.cons (by simp) (ag I) (.cons (by simp) (ag I) (.nil))) I λed=>?_;refine db (cg ahA.fd) ?_;refine ae.iZ (i:=2) (γ:=iK) (b':=({({(default:eO)with cd:=1,ky:=1,rU:=4,iY:=aB ([0,0,65535,3]:aa Int) aJ}:eO)with sT:=[]}:eO)) (os':=[(3,aO ed [bg,z2].length 2)]) ((aN.id eO).comp IQ) KY (ag I) (ag I) hU I I I I ?_;refine aL ?_;refine ae.b4 4 I (aA h λaF b5 h=>hg 1 qC (qh b5) λcA=>b7 ?_);refine aA h λm1 bW h=>gl (γ:=(aw Nat×Nat)) [0,2,3,4,23] (λg1=>[]) (λg1=>[(0,a8 c3 m1.1),(1,⟨g1.1,.row 112 m1.2 g1.2⟩),(3,⟨some bj,.cq ({({(default:eO)with cd:=1,ky:=1,rU:=4,iY:=aB ([0,0,65535,3]:aa Int) aJ}:eO)with sT:=[]}:eO) [(3,aO g1.1 m1.2.length g1.2)]⟩)]) (λg1=>?_) (λhm ak=>?_) λhm ak=>?_
 ·refine aL ?_;refine ae.b4 0 I (aA h λbd dY h=>hg 1 k5 (kZ dY) λeZ=>?_);refine aL λbE dJ z3 sm bB z4 uN bX h=>?_;refine ae.b4 2 I (aA h λbq eW h=>hg 1 k5 (kZ eW) λlK=>?_);refine ef mh (b7 ?_);refine aA h λm2 dw h=>gl (γ:=Unit) [0,2,3,4,5,6,23,50] (λg2=>[]) (λg2=>[(0,a8 c3 m2.1),(1,a8 bX m2.2)]) (λg2=>?_) (λhm ak=>?_) λhm ak=>?_
  ·exact ar.next (b6 (ae.mN (β:=eO) (γ:=iK) (b':=({({(default:eO)with cd:=1,ky:=1,rU:=4,iY:=aB ([0,0,65535,3]:aa Int) aJ}:eO)with sT:=m1.2}:eO)) ((aN.id eO).comp IQ) 5 3 0 I I I I I I (ae.qt 5 I go)))
  ·have h:=e1 ak dw;refine aL ?_;refine ae.b4 0 I (aA h λbM fY h=>hg 1 k5 (kZ fY) λfT=>?_);exact go
  have h:=e2 ak dw;exact go
 ·have h:=e1 ak bW;refine aA h λcG hr h=>aA h λkS yd h=>aA h λdF j3 h=>aA h λcP ih h=>aA h λil Az h=>aA h λdC nA h=>gU [0,2,3,4,7,8,9,10,11,12,13,14,15,16,17,18,19,20,21,22,23] ?_;refine az.cf 5 (aQ 24 [] [] _::aQ 25 [0] [3] (J.eq (aO ed [bg,z2].length 2))::aQ 26 [] [] _::⟨some 27,[2],[0],[0],λ_=>J.of cG.1,λhd _=>a8 c3 cG.2⟩::aQ 28 [3] [] _::aQ 29 [4] [] _::aQ 30 [5] [] _::aQ 31 [] [] _::aQ 32 [] [] _::aQ 33 [] [] _::⟨some 34,[3,9],[0],[0],λ_=>J.of dF.1,λhd _=>a8 c3 dF.2⟩::aQ 35 [8,10] [] _::aQ 36 [11] [] _::aQ 37 [6,7,12] [] _::aQ 38 [13] [] _::⟨some 39,[1,14],[1],[1],λhd=>J.eq (aO (hd 15 0) dC.length ((hd 15 1).getD 0)),λhd _=>⟨(hd 15 0),.row 112 dC ((hd 15 1).getD 0)⟩⟩::aQ 40 [] [] _::j9 [1,15,16] [3] [3] (λhd=>⟨some bj,.cq ({({(default:eO)with cd:=1,ky:=1,rU:=4,iY:=aB ([0,0,65535,3]:aa Int) aJ}:eO)with sT:=[]}:eO) [(3,aO (hd 15 0) dC.length ((hd 15 1).getD 0))]⟩)::[]) (fo ?_ (fo ?_ (fo ?_ (fo ?_ (fo ?_ kT))))) (λek=>?_)
  ·exact fA.q (qT λhd E' L' aM av=>gN (i:=3) (q:=0) (β:=eO) (γ:=iK) KY (ag (aM _ _ I)) (av 3 _ I I) I)
  ·intro hd E' L' aM av cC;exact ae.b4 0 (av 0 _ I I) (ae.rh (Lin:=[a8 c3 aF.2]) (Lr:=L'.eraseIdx 0) k5 (kZ hr) ⟨ag (aM _ _ I),cH 2,trivial⟩ I λkR=>ae.nil (ar.back 0 (av 0 _ I I) (ar.fin (fK []) I I)))
  ·intro hd E' L' aM av cC;exact ae.b4 0 (av 0 _ I I) (ae.rh (Lin:=[a8 c3 cG.2]) (Lr:=L'.eraseIdx 0) k5 (kZ j3) ⟨ag (aM _ _ I),cH 4,trivial⟩ I λMw=>ae.nil (ar.back 0 (av 0 _ I I) (ar.fin (fK []) I I)))
  ·intro hd E' L' aM av cC;refine ae.app (i:=1) underlying108 Qn KX (bytes:=40) (by kernel_rfl) (ag (aM _ _ I)) (av 1 _ I I) (ag (aM _ _ I)) nA I λj0 dq=>?_;exact ae.nil (ar.fin (fK [j0,some dq]) I I)
  ·intro hd E' L' aM av cC;refine ae.iZ (i:=3) (γ:=iK) (b':=({({(default:eO)with cd:=1,ky:=1,rU:=4,iY:=aB ([0,0,65535,3]:aa Int) aJ}:eO)with sT:=[]}:eO)) (os':=[(3,aO (hd 15 0) dC.length ((hd 15 1).getD 0))]) ((aN.id eO).comp IQ) KY (ag (aM _ _ I)) (ag (aM _ _ I)) hU (av 3 _ I I) I I I (ae.nil ?_);exact ar.fin (fK []) I I
  refine ar.eL (L2:=[a8 c3 dF.2,⟨(ek 15 0),.row 112 dC ((ek 15 1).getD 0)⟩,⟨none,.row 112 ([]:aa iK) 0⟩,⟨some bj,.cq ({({(default:eO)with cd:=1,ky:=1,rU:=4,iY:=aB ([0,0,65535,3]:aa Int) aJ}:eO)with sT:=[]}:eO) [(3,aO (ek 15 0) dC.length ((ek 15 1).getD 0))]⟩,⟨none,.row 112 ([]:aa iK) 0⟩]) I (je ?_);cases h;exact dM 0 (hm ((ek 15 0),((ek 15 1).getD 0)))
 have h:=e2 ak bW;refine az.skip ?_;cases h;exact dM 0 (hm (ed,2))
def ade{ab c3 r}(h:vi ab=some r):yA prog 15 [J.df c3] c3 ab (J.of r.1) r.2:=by
 unfold vi at h;refine bR.of func15 I ntmps15 I λW A=>b6 (bk (cV (look_nil (α:=e0))) ?_);refine aL λbj=>?_;refine aA h λbg ej h=>aA h λz2 iD h=>aA h λz3 sm h=>aA h λz4 uN h=>aA h λz5 Ax h=>aA h λe4 Ay h=>aA h λkS yd h=>aA h λil Az h=>aA h λz9 AA h=>aA h λrp Zo h=>aA h λrq Zp h=>aA h λz12 sb h=>aA h λl0 Gi h=>aA h λan bs h=>aA h λnB Gj h=>aA h λaF b5 h=>aA h λpc Gk h=>aA h λk7 Al h=>aA h λz17 Am h=>az.sc 1 (gU [0,2,3,5] ?_);refine az.cf 3 (aQ 6 [] [] _::aQ 7 [] [] _::aQ 8 [1] [] _::aQ 9 [2] [] _::aQ 10 [] [] _::aQ 11 [4] [] _::aQ 12 [] [0] _::aQ 13 [6] [] _::aQ 14 [7] [] _::aQ 15 [5,8] [] _::aQ 16 [] [] _::aQ 17 [10] [] _::aQ 18 [] [0] _::aQ 19 [12] [] _::aQ 20 [] [] _::aQ 21 [14] [] _::aQ 22 [13,15] [] _::aQ 23 [11,16] [] _::aQ 24 [] [] _::aQ 25 [] [] _::aQ 26 [18,19] [] _::aQ 27 [] [] _::aQ 28 [] [0] _::aQ 29 [22] [] _::aQ 30 [] [] _::aQ 31 [24] [] _::aQ 32 [21,23,25] [] _::aQ 33 [20,26] [] _::aQ 34 [] [] _::⟨some 35,[28],[1],[1],λ_=>J.of an.1,λhd _=>a8 c3 an.2⟩::aQ 36 [29] [] _::aQ 37 [30] [] _::aQ 38 [] [] _::⟨some 39,[29,32],[1],[1],λ_=>J.of aF.1,λhd _=>a8 c3 aF.2⟩::aQ 40 [33] [] _::aQ 41 [34] [] _::aQ 42 [35] [] _::aQ 43 [36] [] _::aQ 44 [31,37] [] _::aQ 45 [38] [] _::⟨some 46,[0,3,9,17,27,39],[2],[2],λhd=>J.eq (aO (hd 40 0) [bg,z2,z5,il,l0,z17].length 6),λhd _=>⟨(hd 40 0),.row 105 ([bg,z2,z5,il,l0,z17]:aa e0) 6⟩⟩::⟨some 4,[40],[],[],λhd=>J.eq (aO (hd 40 0) [bg,z2,z5,il,l0,z17].length 6),λ_ _=>⟨none,.dead⟩⟩::[]) (fo ?_ (fo ?_ (fo ?_ (fo ?_ kT)))) (λek=>?_)
 ·intro hd E' L' aM av cC;exact ae.b4 1 (av 1 _ I I) (ae.rh (Lin:=[a8 c3 ab]) (Lr:=L'.eraseIdx 1) k5 (kZ bs) ⟨ag (aM _ _ I),cH 2,trivial⟩ I λaq=>ae.nil (ar.back 1 (av 1 _ I I) (ar.fin (fK []) I I)))
 ·intro hd E' L' aM av cC;exact ae.b4 1 (av 1 _ I I) (ae.rh (Lin:=[a8 c3 an.2]) (Lr:=L'.eraseIdx 1) k5 (kZ b5) ⟨ag (aM _ _ I),cH 256,trivial⟩ I λcA=>ae.nil (ar.back 1 (av 1 _ I I) (ar.fin (fK []) I I)))
 ·intro hd E' L' aM av cC;refine ae.sa (α:=e0) (r:=[bg,z2,z5,il,l0,z17]) underlying26 qu ako I I (.cons (by simp) (ag (aM _ _ I)) (.cons (by simp) (ag (aM _ _ I)) (.cons (by simp) (ag (aM _ _ I)) (.cons (by simp) (ag (aM _ _ I)) (.cons (by simp) (ag (aM _ _ I)) (.cons (by simp) (ag (aM _ _ I)) (.nil))))))) I λed=>?_;exact ae.nil (ar.place 2 (av 2 _ I I) (ar.fin (fK [ed]) I I))
 ·intro hd E' L' aM av cC;refine bk (cV (ag (aM _ _ I))) (ae.nil ?_);exact ar.fin (fK []) I I
 refine ar.eL (L2:=[a8 bj ({(default:jB)with cn:=3}:jB),a8 c3 aF.2,⟨(ek 40 0),.row 105 ([bg,z2,z5,il,l0,z17]:aa e0) 6⟩]) I (je ?_);refine ar.b4 2 I (aL ?_);refine ae.b4 2 I (aA h λbd dY h=>hg 1 qC (qh dY) λeZ=>b7 ?_);refine aA h λm1 bW h=>gl (γ:=(aw Nat×Nat)) [0,2,3,48] (λg1=>[(4,J.eq (aO g1.1 m1.length g1.2))]) (λg1=>[(1,⟨g1.1,.row 105 m1 g1.2⟩)]) (λg1=>?_) (λhm ak=>?_) λhm ak=>?_
 ·refine aL ?_;refine ae.b4 0 I (aA h λbq eW h=>hg 1 qC (qh eW) λlK=>b7 ?_);refine aA h λm2 dw h=>gl (γ:=(aw Nat×Nat)) [0,2,3,48,53] (λg2=>[(4,J.eq (aO g2.1 m2.length g2.2))]) (λg2=>[(1,⟨g2.1,.row 105 m2 g2.2⟩)]) (λg2=>?_) (λhm ak=>?_) λhm ak=>?_
  ·refine aL ?_;exact ar.jW (α:=e0) 1 [2,4,57] ⟨rfl,rfl,rfl,trivial⟩ I go
  ·have h:=e1 ak dw;refine az.fk (cJ ?_);refine aA h λaJ cQ h=>bk (lU (i:=1) (k:=aJ) (xs:=(m1:aa e0)) underlying26 qu (ag I) (cH 4) I (cU cQ)) ?_;refine db (cg Ki.fd) ?_;refine aA h λtm CP h=>ae.sY (i:=1) (k:=aJ) ((aN.id e0).comp DY) (v:=(ByteArray.mk #[120,32,60,32,121,32,124,124,32,120,32,61,61,32,49,53]:ByteArray)) (r:=(tm:aa e0)) j4 (ag I) (gM (ByteArray.mk #[120,32,60,32,121,32,124,124,32,120,32,61,61,32,49,53])) I (cU cQ).1 I (cZ CP) (ae.hc (m:=tm.length) 4 I (hP (cZ CP)) (ae.hc (m:=tm.length) 54 I (hP (cZ CP)) (ae.nil ?_)));cases h;exact dM 0 (hm (g1.1,g1.2))
  have h:=e2 ak dw;refine az.skip ?_;cases h;exact dM 0 (hm (g1.1,g1.2))
 ·have h:=e1 ak bW;refine az.fk (cJ ?_);refine aA h λbE dJ h=>bk (lU (i:=1) (k:=bE) (xs:=([bg,z2,z5,il,l0,z17]:aa e0)) underlying26 qu (ag I) (cH 2) I (cU dJ)) ?_;refine db (cg Ki.fd) ?_;refine aA h λpS An h=>ae.sY (i:=1) (k:=bE) ((aN.id e0).comp DY) (v:=(ByteArray.mk #[112,111,114,116,32,33,61,32,48]:ByteArray)) (r:=(pS:aa e0)) j4 (ag I) (gM (ByteArray.mk #[112,111,114,116,32,33,61,32,48])) I (cU dJ).1 I (cZ An) (ae.hc (m:=pS.length) 4 I (hP (cZ An)) (ae.hc (m:=pS.length) 46 I (hP (cZ An)) (ae.hc (m:=pS.length) 49 I (hP (cZ An)) (ae.nil ?_))));cases h;exact dM 0 (hm ((ek 40 0),6))
 have h:=e2 ak bW;refine az.skip ?_;cases h;exact dM 0 (hm ((ek 40 0),6))
def adu{ab c3 r}(h:EE ab=some r):yA prog 16 [J.df c3] c3 ab (J.of r.1) r.2:=by
 unfold EE at h;refine bR.of func16 I ntmps16 I λW A=>b6 (bk (cV (look_nil (α:=bU))) ?_);refine aL λbg ej h=>?_;refine ae.b4 0 I (aA h λan bs h=>hg 1 k5 (kZ bs) λaq=>?_);refine aL ?_;refine ae.b4 0 I (aA h λaF b5 h=>hg 1 k5 (kZ b5) λcA=>?_);refine ef lr ?_;refine aA h λz2 iD h=>iH iD (kc (b:=({(default:bU)with cd:=1,bO:=ByteArray.mk #[112,111,114,116,115],bQ:=[bg],dg:=([1,2,4]:aa Int),iY:=bo (1+an.1),gH:=bo (2+aF.1)}:bU)) I Li sd (.cons zh I (cH 1) I (.cons I2 I (gM (ByteArray.mk #[112,111,114,116,115])) I (.cons oS I (ag I) I (.cons Ek I (ag I) I (.cons IC I (ag I) I (.cons EO I (ag I) I (.nil)))))))) ?_;refine pQ sd λbj=>?_;refine AB 0 ke (fD ?_);refine aA h λz3 sm h=>iH sm (kc (b:= {bO:=ByteArray.mk #[100],iy:=7,cn:=2:dn}) I Lj td (.cons E3 I (gM (ByteArray.mk #[100])) I (.cons EZ I (cH 7) I (.cons xe I (cH 2) I (.nil))))) ?_;refine ae.sa (α:=dn) (r:=[z3]) underlying38 qD td I I (.cons (by simp) (ag I) (.nil)) I λed=>?_;refine aL ?_;refine ae.b4 2 I (aA h λbd dY h=>hg 1 k5 (kZ dY) λeZ=>?_);refine ef lr ?_;refine bk (sR (b:=({(default:bU)with cd:=2,bO:=ByteArray.mk #[114,111,117,116,101,115],dg:=([1,2,3,4]:aa Int),iY:=2,gH:=bo (3+bd.1)}:bU)) [] P1 I Li sd (.cons zh I (cH 2) I (by rfl) (.cons I2 I (gM (ByteArray.mk #[114,111,117,116,101,115])) I (by rfl) (.hole oS I (ag I) hU I I (.cons Ek I (ag I) I (by rfl) (.cons IC I (cH 2) I (by rfl) (.cons EO I (ag I) I (by rfl) (.nil)))))))) ?_;refine ae.qp (z:=(default:bU)) [2] P2 sd I λbB=>ae.own (α:=dn) 54 (ae.uq (i:=1) ke (ag I) (ag I) I ?_);refine aL ?_;refine ae.b4 2 I (aA h λbq eW h=>hg 1 qC (qh eW) λlK=>b7 ?_);refine aA h λm1 bW h=>gl (γ:=(aw Nat×Nat)) [0,2,3,4,28] (λg1=>[]) (λg1=>[(2,⟨some bB,.cq m1.1 [(2,aO g1.1 m1.2.length g1.2)]⟩),(3,⟨g1.1,.row 54 m1.2 g1.2⟩)]) (λg1=>?_) (λhm ak=>?_) λhm ak=>?_
 ·refine ar.next (b6 (aA h λz4 uN h=>iH uN (kc (b:= {bO:=ByteArray.mk #[101],iy:=6,cn:=3:dn}) I Lj td (.cons E3 I (gM (ByteArray.mk #[101])) I (.cons EZ I (cH 6) I (.cons xe I (cH 3) I (.nil))))) ?_))
  refine aA h λz5 Ax h=>iH Ax (kc (b:= {bO:=ByteArray.mk #[97],iy:=4,cn:=3:dn}) I Lj td (.cons E3 I (gM (ByteArray.mk #[97])) I (.cons EZ I (cH 4) I (.cons xe I (cH 3) I (.nil))))) ?_;refine ae.sa (α:=dn) (r:=[z4,z5]) underlying38 qD td I I (.cons (by simp) (ag I) (.cons (by simp) (ag I) (.nil))) I λj0=>?_;refine aL ?_;refine ae.b4 1 I (aA h λbM fY h=>hg 1 k5 (kZ fY) λfT=>?_);refine ef lr ?_;refine bk (sR (b:=({(default:bU)with cd:=3,bO:=ByteArray.mk #[97,99,108],dg:=([1,2,3,5,6]:aa Int),iY:=1,gH:=bo (4+bM.1)}:bU)) [] P1 I Li sd (.cons zh I (cH 3) I (by rfl) (.cons I2 I (gM (ByteArray.mk #[97,99,108])) I (by rfl) (.hole oS I (ag I) hU I I (.cons Ek I (ag I) I (by rfl) (.cons IC I (cH 1) I (by rfl) (.cons EO I (ag I) I (by rfl) (.nil)))))))) ?_;refine ae.qp (z:=(default:bU)) [2] P2 sd I λbX=>ae.own (α:=dn) 54 (ae.uq (i:=1) ke (ag I) (ag I) I ?_);refine aL ?_;refine ae.b4 2 I (aA h λcG hr h=>hg 1 qC (qh hr) λkR=>b7 ?_);refine aA h λm2 dw h=>gl (γ:=(aw Nat×Nat)) [0,2,3,4,5,28,44] (λg2=>[]) (λg2=>[(2,⟨some bX,.cq m2.1 [(2,aO g2.1 m2.2.length g2.2)]⟩),(3,⟨g2.1,.row 54 m2.2 g2.2⟩)]) (λg2=>?_) (λhm ak=>?_) λhm ak=>?_
  ·refine ar.next (b6 (aA h λe4 Ay h=>iH Ay (kc (b:= {bO:=ByteArray.mk #[102],iy:=8,cn:=4:dn}) I Lj td (.cons E3 I (gM (ByteArray.mk #[102])) I (.cons EZ I (cH 8) I (.cons xe I (cH 4) I (.nil))))) ?_))
   refine ae.sa (α:=dn) (r:=[e4]) underlying38 qD td I I (.cons (by simp) (ag I) (.nil)) I λlz=>?_;refine aL ?_;refine ae.b4 1 I (aA h λdF j3 h=>hg 1 k5 (kZ j3) λMw=>?_);refine ef lr ?_;refine bk (sR (b:=({(default:bU)with cd:=4,bO:=ByteArray.mk #[115,112,97,110,115],dg:=([1,3,5]:aa Int),iY:=3,zn:=[({(default:aV)with dA:=7#64}:aV)],gH:=bo (3+dF.1)}:bU)) [] P1 I Li sd (.cons zh I (cH 4) I (by rfl) (.cons I2 I (gM (ByteArray.mk #[115,112,97,110,115])) I (by rfl) (.hole oS I (ag I) hU I I (.cons Ek I (ag I) I (by rfl) (.cons IC I (cH 3) I (by rfl) (.cons acy I (ag I) I (by rfl) (.cons EO I (ag I) I (by rfl) (.nil))))))))) ?_;refine ae.qp (z:=(default:bU)) [2] P2 sd I λey=>ae.own (α:=dn) 54 (ae.uq (i:=1) ke (ag I) (ag I) I ?_);refine aL ?_;refine ae.b4 2 I (aA h λdC nA h=>hg 1 qC (qh nA) λu6=>b7 ?_);refine aA h λm3 fE h=>gl (γ:=(aw Nat×Nat)) [0,2,3,4,5,6,28,44,61] (λg3=>[]) (λg3=>[(2,⟨some ey,.cq m3.1 [(2,aO g3.1 m3.2.length g3.2)]⟩),(3,⟨g3.1,.row 54 m3.2 g3.2⟩)]) (λg3=>?_) (λhm ak=>?_) λhm ak=>?_
   ·refine ar.next (b6 (n2 10 ke ?_))
    refine ae.mN (β:=bU) (γ:=dn) (b':=({m1.1 with bQ:=m1.2}:bU)) ((aN.id bU).comp oS) 8 9 0 I I I I I I (ae.qt 8 I (n2 8 ke ?_));refine ae.mN (β:=bU) (γ:=dn) (b':=({m2.1 with bQ:=m2.2}:bU)) ((aN.id bU).comp oS) 5 6 0 I I I I I I (ae.qt 5 I (n2 5 ke ?_));refine ae.mN (β:=bU) (γ:=dn) (b':=({m3.1 with bQ:=m3.2}:bU)) ((aN.id bU).comp oS) 2 3 0 I I I I I I (ae.qt 2 I (n2 2 ke ?_));refine aA h λkS yd h=>ae.Zq (α:=bU) (r0:=[z2,({m1.1 with bQ:=m1.2}:bU),({m2.1 with bQ:=m2.2}:bU),({m3.1 with bQ:=m3.2}:bU)]) (r:=kS) underlying27 ke sd I I (.cons (by simp) (ag I) (.cons (by simp) (ag I) (.cons (by simp) (ag I) (.cons (by simp) (ag I) (.nil))))) (cZ yd) I λjH=>?_;refine aL λil Az z9 AA rp Zo rq Zp h=>?_;refine bk (oZ (i:=0) underlying27 (ag I) I I) ?_;refine cJ (b7 (az.block ?_));refine aA h λau ao h=>fc (γ:=(aw Nat×Nat)) (δ:=(aw Nat×Nat)) ao [0,2,3,4,5,6,8,28,44,61,80] (λs1 g4=>[(7,J.eq (aO g4.1 s1.2.1.length g4.2)),(81,J.of s1.1)]) (λs1 g4=>[(0,⟨g4.1,.row 42 s1.2.1 g4.2⟩),(1,a8 c3 s1.2.2)]) (λu7=>Exit.exit 0) (λu7 g4=>[(7,J.eq (aO g4.1 u7.2.2.1.length g4.2)),(81,J.of u7.1),(82,J.of u7.2.1)]) (λu7 g4=>[(0,⟨g4.1,.row 42 u7.2.2.1 g4.2⟩),(1,a8 c3 u7.2.2.2)]) (jH,4) (λs1 r h g4=>?_) λg4=>?_
    ·refine go2 (λh=>?_) (λh=>?_)
     ·refine aA h λaJ cQ h=>aA h λga rr h=>aA h λbE dJ h=>aA h λcP ih h=>aA h λz12 sb h=>gU [0,2,3,4,5,6,7,8,9,28,44,61,80,81,82,83] ?_;refine az.SS mixed (aQ 84 [] [] _::aQ 85 [] [] _::aQ 86 [] [] _::aQ 87 [] [] _::aQ 88 [2,3] [] _::aQ 89 [4] [] _::aQ 90 [] [] _::⟨some 91,[6],[1],[1],λ_=>J.of ga.1,λhd _=>a8 c3 ga.2⟩::aQ 92 [5,7] [] _::aQ 93 [8] [] _::aQ 94 [0,1] [0] _::aQ 95 [10] [] _::j9 [9,10,11] [0] [0] (λhd=>⟨g4.1,.row 42 z12 g4.2⟩)::[]) ⟨oc,oc,oc,oc,im λaM av=>mM (k:=aJ) underlying120 Qo (ag (aM _ _ I)) (ag (aM _ _ I)) (cU cQ),qU (jE Qo),oc,?_,im λaM av=>mM (k:=bE) underlying119 j4 (ag (aM _ _ I)) (ag (aM _ _ I)) (cU dJ),qU (jE j4),im λaM av=>lU (i:=0) (k:=cP) (xs:=(s1.2.1:aa bU)) underlying27 ke (ag (aM _ _ I)) (ag (aM _ _ I)) (av 0 _ I I) (cU ih),qU (cg KE.fd),?_,trivial⟩ λek=>?_
      ·intro hd E' L' aM av;refine ae.b4 1 (av 1 _ I I) (ae.rh (Lin:=[a8 c3 s1.2.2]) (Lr:=L'.eraseIdx 1) k5 (kZ rr) ⟨ag (aM _ _ I),cH 3,trivial⟩ I λRI=>ae.nil (ar.back 1 (av 1 _ I I) ?_));exact ar.fin (fK []) I I
      ·intro hd E' L' aM av;refine ae.sY (i:=0) (k:=cP) ((aN.id bU).comp D2) (v:=(aB (aB [il,z9,rp,rq] aJ) bE:ByteArray)) (r:=(z12:aa bU)) j4 (ag (aM _ _ I)) (ag (aM _ _ I)) (av 0 _ I I) (cU ih).1 I (cZ sb) (ae.nil ?_);exact ar.fin (fK []) I I
      refine ar.eL (L2:=[⟨g4.1,.row 42 z12 g4.2⟩,a8 c3 ga.2,⟨none,.row 54 ([]:aa dn) 0⟩,a8 ey ({m3.1 with bQ:=m3.2}:bU),⟨none,.dead⟩,⟨none,.row 54 ([]:aa dn) 0⟩,a8 bX ({m2.1 with bQ:=m2.2}:bU),⟨none,.dead⟩,⟨none,.row 54 ([]:aa dn) 0⟩,a8 bB ({m1.1 with bQ:=m1.2}:bU),⟨none,.dead⟩,a8 bj z2]) I (ar.hc (m:=z12.length) 7 I (hP (cZ sb)) (ar.hc (m:=z12.length) 84 I (hP (cZ sb)) (je ?_)));refine aL ?_;cases h;exact hY (g4.1,g4.2) 0
     cases h;exact ho (g4.1,g4.2) 0
    refine aL ?_;exact ar.jW (α:=bU) 0 [2,7,97] ⟨rfl,rfl,rfl,trivial⟩ I go
   ·have h:=e1 ak fE;refine az.fk (db (cg sZ.fd) ?_);refine bk (gN (i:=2) (q:=0) (β:=bU) (γ:=dn) se (ag I) I I) ?_;refine aL λl0 Gi nB Gj h=>?_;refine aA h λhh vY h=>fF 3 underlying38 qD td vY λr9 dq=>?_;refine db (cg sZ.fd) ?_;refine ae.iZ (i:=2) (γ:=dn) (b':=({({(default:bU)with cd:=4,bO:=ByteArray.mk #[115,112,97,110,115],dg:=([1,3,5]:aa Int),iY:=3,zn:=[({(default:aV)with dA:=7#64}:aV)],gH:=bo (3+dF.1)}:bU)with bQ:=[]}:bU)) (os':=[(2,aO r9 hh.length dq)]) ((aN.id bU).comp oS) se (ag I) (ag I) hU I I I I (ae.nil ?_);cases h;exact dM 0 (hm (r9,dq))
   have h:=e2 ak fE;refine az.skip ?_;cases h;exact dM 0 (hm (lz,1))
  ·have h:=e1 ak dw;refine az.fk (db (cg sZ.fd) ?_);refine bk (gN (i:=2) (q:=0) (β:=bU) (γ:=dn) se (ag I) I I) ?_;refine aL λpc Gk h=>?_;refine aA h λju CQ h=>fF 3 underlying38 qD td CQ λGg ly=>?_;refine db (cg sZ.fd) ?_;refine ae.iZ (i:=2) (γ:=dn) (b':=({({(default:bU)with cd:=3,bO:=ByteArray.mk #[97,99,108],dg:=([1,2,3,5,6]:aa Int),iY:=1,gH:=bo (4+bM.1)}:bU)with bQ:=[]}:bU)) (os':=[(2,aO Gg ju.length ly)]) ((aN.id bU).comp oS) se (ag I) (ag I) hU I I I I (ae.nil ?_);cases h;exact dM 0 (hm (Gg,ly))
  have h:=e2 ak dw;refine az.skip ?_;cases h;exact dM 0 (hm (j0,2))
 ·have h:=e1 ak bW;refine az.fk (db (cg sZ.fd) ?_);refine bk (gN (i:=2) (q:=0) (β:=bU) (γ:=dn) se (ag I) I I) ?_;refine aL λk7 Al h=>?_;refine aA h λkh CR h=>fF 3 underlying38 qD td CR λZr qB=>?_;refine db (cg sZ.fd) ?_;refine ae.iZ (i:=2) (γ:=dn) (b':=({({(default:bU)with cd:=2,bO:=ByteArray.mk #[114,111,117,116,101,115],dg:=([1,2,3,4]:aa Int),iY:=2,gH:=bo (3+bd.1)}:bU)with bQ:=[]}:bU)) (os':=[(2,aO Zr kh.length qB)]) ((aN.id bU).comp oS) se (ag I) (ag I) hU I I I I (ae.nil ?_);cases h;exact dM 0 (hm (Zr,qB))
 have h:=e2 ak bW;refine az.skip ?_;cases h;exact dM 0 (hm (ed,1))
def adN{ab aj c3 r}(h:sJ ab aj=some r):yA prog 17 [J.df c3,J.of aj] c3 ab (J.of r.1) r.2:=by
 unfold sJ at h;refine bR.of func17 I ntmps17 I λW A=>b6 (bk (cV (look_nil (α:=dc))) (fD ?_));refine De ([1,2,3,4,5,6]:aa Int) underlying39 b8 pb ?_;refine bk (sR (b:=({(default:dc)with cd:=1,bO:=ByteArray.mk #[97,108,108],dg:=([1,2,3,4,5,6]:aa Int),kd:=40,FK:=true}:dc)) [2] Ck I Qp CB (.cons Ju I (cH 1) I (by rfl) (.cons NL I (gM (ByteArray.mk #[97,108,108])) I (by rfl) (.cons IL I (ag I) I (by rfl) (.cons EP I (cH 40) I (by rfl) (.cons adO I (hN true) I (by rfl) (.nil))))))) ?_;refine ae.own (α:=eA) 126 (ae.qp (z:=(default:dc)) [2] Ck CB I λbj=>ae.own (α:=eA) 126 (ae.uq (i:=1) xM (ag I) (ag I) I ?_));refine aL ?_;refine ae.b4 3 I (aA h λan bs h=>hg 1 k5 (kZ bs) λaq=>?_);refine aL ?_;refine ae.b4 0 I (aA h λaF b5 h=>hg 1 k5 (kZ b5) λcA=>?_);refine ef lr ?_;refine bk (sR (b:=({(default:dc)with cd:=2,bO:=ByteArray.mk #[115,111,109,101],dg:=([1,2,bo (3+an.1)]:aa Int),kd:=bo (1+aF.1)}:dc)) [2] Ck I Qp CB (.cons Ju I (cH 2) I (by rfl) (.cons NL I (gM (ByteArray.mk #[115,111,109,101])) I (by rfl) (.cons IL I (ag I) I (by rfl) (.cons EP I (ag I) I (by rfl) (.nil)))))) ?_;refine ae.own (α:=eA) 126 (ae.qp (z:=(default:dc)) [2] Ck CB I λbB=>ae.own (α:=eA) 126 (ae.uq (i:=1) xM (ag I) (ag I) I ?_));refine aL ?_;refine ae.b4 3 I (aA h λbd dY h=>hg 1 k5 (kZ dY) λeZ=>?_);refine aL ?_;refine ae.b4 0 I (aA h λbq eW h=>hg 1 k5 (kZ eW) λlK=>?_);refine bk (sR (b:=({(default:dc)with cd:=7,bO:=ByteArray.mk #[102,101,119],dg:=[bo (1+bd.1)],kd:=bq.1}:dc)) [2] Ck I Qp CB (.cons Ju I (cH 7) I (by rfl) (.cons NL I (gM (ByteArray.mk #[102,101,119])) I (by rfl) (.cons IL I (ag I) I (by rfl) (.cons EP I (ag I) I (by rfl) (.nil)))))) ?_;refine ae.own (α:=eA) 126 (ae.qp (z:=(default:dc)) [2] Ck CB I λbX=>ae.own (α:=eA) 126 (ae.uq (i:=1) xM (ag I) (ag I) I ?_));refine aL ?_;refine aA h λau ao h=>fc (γ:=(aw Nat×Nat)×(aw Nat×Nat)×(aw Nat×Nat)) (δ:=(aw Nat×Nat)×(aw Nat×Nat)×(aw Nat×Nat)) ao [0,1,4,5,6,7,30,31] (λs1 g1=>[(32,J.of s1.1)]) (λs1 g1=>[(1,⟨some bX,.cq s1.2.1 [(2,aO g1.1.1 s1.2.2.1.length g1.1.2)]⟩),(2,⟨g1.1.1,.row 126 s1.2.2.1 g1.1.2⟩),(3,a8 c3 s1.2.2.2.1),(5,⟨some bB,.cq s1.2.2.2.2.1 [(2,aO g1.2.1.1 s1.2.2.2.2.2.1.length g1.2.1.2)]⟩),(6,⟨g1.2.1.1,.row 126 s1.2.2.2.2.2.1 g1.2.1.2⟩),(8,⟨some bj,.cq s1.2.2.2.2.2.2.1 [(2,aO g1.2.2.1 s1.2.2.2.2.2.2.2.length g1.2.2.2)]⟩),(9,⟨g1.2.2.1,.row 126 s1.2.2.2.2.2.2.2 g1.2.2.2⟩)]) (λfT=>Exit.exit 0) (λfT g1=>[(32,J.of fT.1),(33,J.of fT.2.1)]) (λfT g1=>[(1,⟨some bX,.cq fT.2.2.1 [(2,aO g1.1.1 fT.2.2.2.1.length g1.1.2)]⟩),(2,⟨g1.1.1,.row 126 fT.2.2.2.1 g1.1.2⟩),(3,a8 c3 fT.2.2.2.2.1),(5,⟨some bB,.cq fT.2.2.2.2.2.1 [(2,aO g1.2.1.1 fT.2.2.2.2.2.2.1.length g1.2.1.2)]⟩),(6,⟨g1.2.1.1,.row 126 fT.2.2.2.2.2.2.1 g1.2.1.2⟩),(8,⟨some bj,.cq fT.2.2.2.2.2.2.2.1 [(2,aO g1.2.2.1 fT.2.2.2.2.2.2.2.2.length g1.2.2.2)]⟩),(9,⟨g1.2.2.1,.row 126 fT.2.2.2.2.2.2.2.2 g1.2.2.2⟩)]) ((none,0),(none,0),(none,0)) (λs1 r h g1=>?_) λg1=>?_
 ·refine go2 (λaJ cQ ey h=>?_) (λh=>?_)
  ·refine aA h λbM fY h=>ae.aaM underlying124 n3 aaN I (by kernel_rfl) (ag I) (ag I) fY I λed=>?_;refine aL ?_;refine aA h λcG hr h=>ae.aaM underlying124 n3 aaN I (by kernel_rfl) (ag I) (ag I) hr I λj0=>?_;refine aL ?_;refine bk (oZ (i:=1) underlying124 (ag I) I I) ?_;refine cJ (b7 (az.block ?_));refine aA h λaW ao h=>fc (γ:=(aw Nat×Nat)×(aw Nat×Nat)) (δ:=(aw Nat×Nat)×(aw Nat×Nat)) ao [0,1,4,5,6,7,9,30,31,32,33,45] (λs2 g2=>[(10,J.eq (aO g2.2.1 s2.2.2.1.length g2.2.2)),(11,J.eq (aO g2.1.1 s2.2.1.length g2.1.2)),(46,J.of s2.1)]) (λs2 g2=>[(0,⟨g2.1.1,.row 4 s2.2.1 g2.1.2⟩),(1,⟨g2.2.1,.row 4 s2.2.2.1 g2.2.2⟩),(6,a8 c3 s2.2.2.2)]) (λkR=>Exit.exit 2) (λkR g2=>[(10,J.eq (aO g2.2.1 kR.2.2.2.1.length g2.2.2)),(11,J.eq (aO g2.1.1 kR.2.2.1.length g2.1.2)),(46,J.of kR.1),(47,J.of kR.2.1)]) (λkR g2=>[(0,⟨g2.1.1,.row 4 kR.2.2.1 g2.1.2⟩),(1,⟨g2.2.1,.row 4 kR.2.2.2.1 g2.2.2⟩),(6,a8 c3 kR.2.2.2.2)]) ((j0,cG.length),(ed,bM.length)) (λs2 r h g2=>?_) λg2=>?_
   ·refine go2 (λh=>?_) (λh=>?_)
    ·refine ae.b4 6 I (aA h λdF j3 h=>hg 1 k5 (kZ j3) λMw=>?_);refine ef F1 ?_;refine aA h λbE dJ h=>bk (lU (i:=2) (k:=bE) (xs:=(s2.2.2.1:aa Bool)) underlying124 n3 (ag I) (ag I) I (cU dJ)) ?_;refine ae.sY (i:=2) (k:=bE) (aN.id Bool) (v:=true) (r:=(ft s2.2.2.1 bE true:aa Bool)) n3 (ag I) (hN true) I (cU dJ).1 I I (ae.hc (m:=(ft s2.2.2.1 bE true).length) 10 I (hP I) (ae.hc (m:=(ft s2.2.2.1 bE true).length) 49 I (hP I) (aA h λcP ih h=>bk (lU (i:=1) (k:=cP) (xs:=(s2.2.1:aa Bool)) underlying124 n3 (ag I) (ag I) I (cU ih)) ?_)));refine ae.sY (i:=1) (k:=cP) (aN.id Bool) (v:=(decide (dF.1>0):Bool)) (r:=(ft s2.2.1 cP (decide (dF.1>0)):aa Bool)) n3 (ag I) (ag I) I (cU ih).1 I I (ae.hc (m:=(ft s2.2.1 cP (decide (dF.1>0))).length) 11 I (hP I) (ae.hc (m:=(ft s2.2.1 cP (decide (dF.1>0))).length) 51 I (hP I) ?_));refine aL ?_;refine ar.b4 6 I (ar.b4 6 I (ar.b4 6 I (ar.b4 6 I (ar.b4 6 I (ar.b4 6 I ?_)))));cases h;exact hY ((g2.1.1,g2.1.2),(g2.2.1,g2.2.2)) 0
    cases h;exact ho ((g2.1.1,g2.1.2),(g2.2.1,g2.2.2)) 0
   refine aL ?_;refine bk (gN (i:=11) (q:=0) (β:=dc) (γ:=eA) z8 (ag I) I I) ?_;refine aL ?_;refine ae.jW (α:=Bool) 1 [63,10] ⟨rfl,rfl,trivial⟩ I (aL λbg ej h=>?_);refine aA h λdC nA h=>fF 12 underlying121 KZ Qq nA λlz dq=>?_;refine db (cg ahB.fd) ?_;refine ae.iZ (i:=11) (γ:=eA) (b':=({s1.2.2.2.2.2.2.1 with jD:=[]}:dc)) (os':=[(2,aO lz dC.length dq)]) ((aN.id dc).comp zb) z8 (ag I) (ag I) hU I I I I ?_;refine aL ?_;refine ae.b4 6 I (aA h λga rr h=>hg 1 k5 (kZ rr) λu6=>?_);refine ef F1 (b7 ?_);refine az.freeze (α:=Bool) 1 11 I I (aA h λm1 bW h=>gl (γ:=(aw Nat×Nat)) [0,1,4,5,6,7,9,10,11,30,31,32,33,45,46,47,70] (λg3=>[]) (λg3=>[(0,a8 c3 m1.1),(8,⟨some bB,.cq m1.2.1 [(2,aO g3.1 m1.2.2.length g3.2)]⟩),(9,⟨g3.1,.row 126 m1.2.2 g3.2⟩)]) (λg3=>?_) (λhm ak=>?_) λhm ak=>?_)
   ·refine ar.next (b6 (cJ ?_))
    refine ae.b4 0 I (aA h λhh vY h=>hg 1 qC (qh vY) λu7=>b7 ?_);refine aA h λm2 dw h=>gl (γ:=(aw Nat×Nat)) [0,1,4,5,6,7,9,10,11,30,31,32,33,45,46,47,70,86] (λg4=>[]) (λg4=>[(0,a8 c3 m2.1),(5,⟨some bX,.cq m2.2.1 [(2,aO g4.1 m2.2.2.length g4.2)]⟩),(6,⟨g4.1,.row 126 m2.2.2 g4.2⟩)]) (λg4=>?_) (λhm ak=>?_) λhm ak=>?_
    ·refine aL ?_;refine ar.b4 6 I (ar.b4 6 I (ar.b4 6 I (ar.b4 6 I (ar.b4 6 I (ar.b4 6 I ?_)))));cases h;exact hY ((g4.1,g4.2),(g3.1,g3.2),(lz,dq)) 3
    ·have h:=e1 ak dw;refine aA h λju CQ h=>aA h λkh CR h=>aA h λz2 iD h=>aA h λmR Lk h=>gU [0,1,4,5,6,7,9,10,11,30,31,32,33,45,46,47,70,85,86] ?_;refine az.cf 13 (aQ 87 [] [] _::aQ 88 [0] [5] (J.eq (aO g1.1.1 s1.2.2.1.length g1.1.2))::aQ 89 [] [] _::aQ 90 [2] [3] _::aQ 91 [] [] _::⟨some 92,[4],[0],[0],λ_=>J.of ju.1,λhd _=>a8 c3 ju.2⟩::aQ 93 [] [] _::⟨some 94,[5,6],[0],[0],λ_=>J.of kh.1,λhd _=>a8 c3 kh.2⟩::aQ 95 [] [] _::aQ 96 [3,5,7,8] [] _::aQ 97 [9] [] _::⟨some 98,[1,10],[6],[6],λhd=>J.eq (aO (hd 11 0) mR.length ((hd 11 1).getD 0)),λhd _=>⟨(hd 11 0),.row 126 mR ((hd 11 1).getD 0)⟩⟩::aQ 99 [] [] _::j9 [1,11,12] [5] [5] (λhd=>⟨some bX,.cq ({s1.2.1 with jD:=[]}:dc) [(2,aO (hd 11 0) mR.length ((hd 11 1).getD 0))]⟩)::[]) (fo ?_ (fo ?_ (fo ?_ (fo ?_ (fo ?_ kT))))) (λek=>?_)
     ·exact fA.q (qT λhd E' L' aM av=>gN (i:=5) (q:=0) (β:=dc) (γ:=eA) z8 (ag (aM _ _ I)) (av 5 _ I I) I)
     ·intro hd E' L' aM av cC;exact ae.b4 0 (av 0 _ I I) (ae.rh (Lin:=[a8 c3 hh.2]) (Lr:=L'.eraseIdx 0) qC (qh CQ) ⟨ag (aM _ _ I),trivial⟩ I λRI=>ae.nil (ar.back 0 (av 0 _ I I) (ar.fin (fK []) I I)))
     ·intro hd E' L' aM av cC;exact ae.b4 0 (av 0 _ I I) (ae.rh (Lin:=[a8 c3 ju.2]) (Lr:=L'.eraseIdx 0) qC (qh CR) ⟨ag (aM _ _ I),trivial⟩ I λapK=>ae.nil (ar.back 0 (av 0 _ I I) (ar.fin (fK []) I I)))
     ·intro hd E' L' aM av cC;refine ae.app (i:=6) underlying121 KZ Qq (bytes:=40) (by kernel_rfl) (ag (aM _ _ I)) (av 6 _ I I) (ag (aM _ _ I)) Lk I λjH ly=>?_;exact ae.nil (ar.fin (fK [jH,some ly]) I I)
     ·intro hd E' L' aM av cC;refine ae.iZ (i:=5) (γ:=eA) (b':=({s1.2.1 with jD:=[]}:dc)) (os':=[(2,aO (hd 11 0) mR.length ((hd 11 1).getD 0))]) ((aN.id dc).comp zb) z8 (ag (aM _ _ I)) (ag (aM _ _ I)) hU (av 5 _ I I) I I I (ae.nil ?_);exact ar.fin (fK []) I I
     refine ar.eL (L2:=[a8 c3 kh.2,⟨none,.dead⟩,⟨none,.dead⟩,a8 ey (aB aj aJ:bU),⟨none,.row 126 ([]:aa eA) 0⟩,⟨some bX,.cq ({s1.2.1 with jD:=[]}:dc) [(2,aO (ek 11 0) mR.length ((ek 11 1).getD 0))]⟩,⟨(ek 11 0),.row 126 mR ((ek 11 1).getD 0)⟩,⟨none,.row 126 ([]:aa eA) 0⟩,⟨some bB,.cq m1.2.1 [(2,aO g3.1 m1.2.2.length g3.2)]⟩,⟨g3.1,.row 126 m1.2.2 g3.2⟩,⟨none,.row 126 ([]:aa eA) 0⟩,⟨some bj,.cq ({s1.2.2.2.2.2.2.1 with jD:=[]}:dc) [(2,aO lz dC.length dq)]⟩,⟨lz,.row 126 dC dq⟩]) I (je ?_);cases h;exact dM 0 (hm ((ek 11 0),((ek 11 1).getD 0)))
    have h:=e2 ak dw;refine az.skip ?_;cases h;exact dM 0 (hm (g1.1.1,g1.1.2))
   ·have h:=e1 ak bW;refine aA h λpT Gl h=>aA h λru am7 h=>aA h λz3 sm h=>aA h λyf am8 h=>gU [0,1,4,5,6,7,9,10,11,30,31,32,33,45,46,47,59,61,62,63,64,65,66,67,68,69,70] ?_;refine az.cf 13 (aQ 71 [] [] _::aQ 72 [0] [8] (J.eq (aO g1.2.1.1 s1.2.2.2.2.2.1.length g1.2.1.2))::aQ 73 [] [] _::aQ 74 [2] [3] _::aQ 75 [] [] _::⟨some 76,[4],[0],[0],λ_=>J.of pT.1,λhd _=>a8 c3 pT.2⟩::aQ 77 [5] [] _::aQ 78 [] [] _::⟨some 79,[5,7],[0],[0],λ_=>J.of ru.1,λhd _=>a8 c3 ru.2⟩::aQ 80 [] [] _::aQ 81 [3,6,8,9] [] _::aQ 82 [10] [] _::⟨some 83,[1,11],[9],[9],λhd=>J.eq (aO (hd 12 0) yf.length ((hd 12 1).getD 0)),λhd _=>⟨(hd 12 0),.row 126 yf ((hd 12 1).getD 0)⟩⟩::aQ 84 [] [] _::j9 [1,12,13] [8] [8] (λhd=>⟨some bB,.cq ({s1.2.2.2.2.1 with jD:=[]}:dc) [(2,aO (hd 12 0) yf.length ((hd 12 1).getD 0))]⟩)::[]) (fo ?_ (fo ?_ (fo ?_ (fo ?_ (fo ?_ kT))))) (λj5=>?_)
    ·exact fA.q (qT λhd E' L' aM av=>gN (i:=8) (q:=0) (β:=dc) (γ:=eA) z8 (ag (aM _ _ I)) (av 8 _ I I) I)
    ·intro hd E' L' aM av cC;exact ae.b4 0 (av 0 _ I I) (ae.rh (Lin:=[a8 c3 ga.2]) (Lr:=L'.eraseIdx 0) k5 (kZ Gl) ⟨ag (aM _ _ I),cH 4,trivial⟩ I λasp=>ae.nil (ar.back 0 (av 0 _ I I) (ar.fin (fK []) I I)))
    ·intro hd E' L' aM av cC;exact ae.b4 0 (av 0 _ I I) (ae.rh (Lin:=[a8 c3 pT.2]) (Lr:=L'.eraseIdx 0) qC (qh am7) ⟨ag (aM _ _ I),trivial⟩ I λasq=>ae.nil (ar.back 0 (av 0 _ I I) (ar.fin (fK []) I I)))
    ·intro hd E' L' aM av cC;refine ae.app (i:=9) underlying121 KZ Qq (bytes:=40) (by kernel_rfl) (ag (aM _ _ I)) (av 9 _ I I) (ag (aM _ _ I)) am8 I λr9 qB=>?_;exact ae.nil (ar.fin (fK [r9,some qB]) I I)
    ·intro hd E' L' aM av cC;refine ae.iZ (i:=8) (γ:=eA) (b':=({s1.2.2.2.2.1 with jD:=[]}:dc)) (os':=[(2,aO (hd 12 0) yf.length ((hd 12 1).getD 0))]) ((aN.id dc).comp zb) z8 (ag (aM _ _ I)) (ag (aM _ _ I)) hU (av 8 _ I I) I I I (ae.nil ?_);exact ar.fin (fK []) I I
    refine ar.eL (L2:=[a8 c3 ru.2,⟨none,.dead⟩,⟨none,.dead⟩,a8 ey (aB aj aJ:bU),⟨none,.row 126 ([]:aa eA) 0⟩,⟨some bX,.cq s1.2.1 [(2,aO g1.1.1 s1.2.2.1.length g1.1.2)]⟩,⟨g1.1.1,.row 126 s1.2.2.1 g1.1.2⟩,⟨none,.row 126 ([]:aa eA) 0⟩,⟨some bB,.cq ({s1.2.2.2.2.1 with jD:=[]}:dc) [(2,aO (j5 12 0) yf.length ((j5 12 1).getD 0))]⟩,⟨(j5 12 0),.row 126 yf ((j5 12 1).getD 0)⟩,⟨none,.row 126 ([]:aa eA) 0⟩,⟨some bj,.cq ({s1.2.2.2.2.2.2.1 with jD:=[]}:dc) [(2,aO lz dC.length dq)]⟩,⟨lz,.row 126 dC dq⟩]) I (je ?_);cases h;exact dM 0 (hm ((j5 12 0),((j5 12 1).getD 0)))
   have h:=e2 ak bW;refine az.skip ?_;cases h;exact dM 0 (hm (g1.2.1.1,g1.2.1.2))
  cases h;exact ho ((g1.1.1,g1.1.2),(g1.2.1.1,g1.2.1.2),(g1.2.2.1,g1.2.2.2)) 0
 refine ar.qs (ar.next (b6 (ae.mN (β:=dc) (γ:=eA) (b':=({au.2.2.2.2.2.2.2.1 with jD:=au.2.2.2.2.2.2.2.2}:dc)) ((aN.id dc).comp zb) 8 9 0 I I I I I I (ae.qt 8 I (aA h λz4 uN h=>iH uN (gA (i:=8) (aN.id dc) (r:=({au.2.2.2.2.2.2.2.1 with jD:=au.2.2.2.2.2.2.2.2}:dc)) xM (ag I) I I I) ?_)))));refine ae.mN (β:=dc) (γ:=eA) (b':=({au.2.2.2.2.2.1 with jD:=au.2.2.2.2.2.2.1}:dc)) ((aN.id dc).comp zb) 5 6 0 I I I I I I (ae.qt 5 I (n2 5 xM ?_));exact ae.mN (β:=dc) (γ:=eA) (b':=({au.2.2.1 with jD:=au.2.2.2.1}:dc)) ((aN.id dc).comp zb) 1 2 0 I I I I I I (ae.qt 1 I go)
def Uy{ab c3 r}(h:qg ab=some r):yA prog 6 [J.df c3] c3 ab (J.of r.1) r.2:=by
 unfold qg at h;refine bR.of func6 I ntmps6 I λW A=>?_;refine aL λbj=>?_;refine ae.b4 1 I (aA h λan bs h=>hg 1 k5 (kZ bs) λaq=>?_);refine aL ?_;refine ae.b4 0 I (aA h λaF b5 h=>hg 1 k5 (kZ b5) λcA=>?_);refine ef lr ?_;refine bk (sR (b:=({(default:aS)with nk:=bo (2+an.1),FB:=bo (12+aF.1)}:aS)) [5,7] V9 I am9 Ra (.cons T3 I (ag I) I (by rfl) (.cons acR I (ag I) I (by rfl) (.nil)))) ?_;refine ae.own (α:=gF) 80 (ae.own (α:=eB) 37 (ae.qp (z:=(default:aS)) [5,7] V9 Ra I λbB=>ae.own (α:=gF) 80 (ae.own (α:=eB) 37 (ae.uq (i:=2) kL (ag I) (ag I) I ?_))));refine aL λbg ej z2 iD z3 sm z4 uN z5 Ax e4 Ay kS yd il Az h=>?_;refine aA h λz9 AA h=>ae.Co (i:=2) ((aN.id aS).comp Up) (v:=il) (b':=z9) Zs (ag I) (ag I) I I (cZ AA) (by rfl) ?_;refine aL λrp Zo rq Zp z12 sb h=>?_;refine ae.Co (i:=2) ((aN.id aS).comp Uj) (v:=([rp,rq,z12]:aa lR)) (b':=({z9 with sQ:=[rp,rq,z12]}:aS)) Zt (ag I) (ag I) I I I (by rfl) ?_;refine aL ?_;refine ae.b4 5 I (aA h λbd dY h=>hg 1 ana (adt dY) λeZ=>?_);refine cJ ?_;refine ae.b4 0 I (aA h λbq eW h=>hg 1 anb (ade eW) λlK=>?_);refine cJ ?_;refine ae.b4 0 I (aA h λbM fY h=>hg 1 anc (adu fY) λfT=>?_);refine db (cg aiN.fd) ?_;refine aA h λl0 Gi h=>ae.Co (i:=3) ((aN.id aS).comp Uq) (v:=bd.1) (b':=l0) Zu (ag I) (ag I) I I (cZ Gi) (by rfl) ?_;refine db (cg zM.fd) ?_;refine ae.Co (i:=3) ((aN.id aS).comp w5) (v:=bq.1) (b':=({l0 with dg:=bq.1}:aS)) xU (ag I) (ag I) I I I (by rfl) ?_;refine db (cg rW.fd) ?_;refine aA h λnB Gj h=>ae.Co (i:=3) ((aN.id aS).comp pt) (v:=bM.1) (b':=nB) o7 (ag I) (ag I) I I (cZ Gj) (by rfl) ?_;refine aL ?_;refine apL 3 pt o7 ?_;refine ae.b4 0 I (aA h λcG hr h=>hg 1 ane (adN hr) λkR=>?_);refine db (cg aiO.fd) ?_;refine ae.Co (i:=3) ((aN.id aS).comp Uv) (v:=cG.1) (b':=({nB with fj:=cG.1}:aS)) Ll (ag I) (ag I) I I I (by rfl) ?_;refine fD (rm Lm CS {cw:=1,ky:=1:gF} (oA EF (oA Nq .nil)) ?_);refine rm Lm CS {cw:=2,ky:=2:gF} (oA EF (oA Nq .nil)) ?_;refine rm Lm CS ({(default:gF)with cw:=3}:gF) (oA EF .nil) ?_;refine rm Lm CS {cw:=4,ky:=3:gF} (oA EF (oA Nq .nil)) ?_;refine aA h λpc Gk h=>ae.Zq (α:=gF) (r0:=[{cw:=1,ky:=1:gF},{cw:=2,ky:=2:gF},({(default:gF)with cw:=3}:gF),{cw:=4,ky:=3:gF}]) (r:=pc) underlying28 Rb CS I I (.cons (by simp) (ag I) (.cons (by simp) (ag I) (.cons (by simp) (ag I) (.cons (by simp) (ag I) (.nil))))) (cZ Gk) I λed=>?_;refine db (cg P3.fd) ?_;refine ae.iZ (i:=4) (γ:=gF) (b':=({({nB with fj:=cG.1}:aS)with q9:=[]}:aS)) (os':=[(5,aO ed pc.length 4),(7,aO none ([]:aa eB).length 0)]) ((aN.id aS).comp ID) Ln (ag I) (ag I) hU I I I I ?_;refine aL ?_;refine ae.b4 1 I (aA h λdF j3 h=>hg 1 qC (qh j3) λMw=>b7 ?_);refine aA h λm1 bW h=>gl (γ:=(aw Nat×Nat)) [0,2,3,51] (λg1=>[]) (λg1=>[(1,⟨g1.1,.row 80 m1 g1.2⟩),(4,⟨some bB,.cq ({({nB with fj:=cG.1}:aS)with q9:=[]}:aS) [(5,aO g1.1 m1.length g1.2),(7,aO none ([]:aa eB).length 0)]⟩)]) (λg1=>?_) (λhm ak=>?_) λhm ak=>?_
 ·refine aL ?_;refine ae.b4 0 I (aA h λdC nA h=>hg 1 qC (qh nA) λu6=>b7 ?_);refine aA h λm2 dw h=>gl (γ:=(aw Nat×Nat)) [0,2,3,51,59] (λg2=>[]) (λg2=>[(4,⟨some bB,.cq m2.1 [(5,aO g1.1 m1.length g1.2),(7,aO g2.1 m2.2.length g2.2)]⟩),(5,⟨g2.1,.row 37 m2.2 g2.2⟩)]) (λg2=>?_) (λhm ak=>?_) λhm ak=>?_
  ·refine aL ?_;refine ae.b4 0 I (aA h λga rr h=>hg 1 qC (qh rr) λu7=>?_);refine aL ?_;refine jM (λhb=>Kj (i:=4) ((aN.id aS).comp pt) (r:=m2.1.bH) o7 (b1 I hb) I I I (by rfl)) ?_;refine aL λaJ cQ h=>?_;refine aA h λm3 fE h=>gl (γ:=(aw Nat×Nat)) [0,2,3,51,59,76] (λg3=>[]) (λg3=>[(4,⟨some bB,.cq m3.1 [(5,aO g1.1 m1.length g1.2),(7,aO g3.1 m3.2.length g3.2)]⟩),(5,⟨g3.1,.row 37 m3.2 g3.2⟩)]) (λg3=>?_) (λhm ak=>?_) λhm ak=>?_
   ·refine aL ?_;refine ae.b4 0 I (aA h λhh vY h=>hg 1 qC (qh vY) λRI=>?_);refine aL ?_;refine jM (λhb=>Kj (i:=4) ((aN.id aS).comp pt) (r:=m3.1.bH) o7 (b1 I hb) I I I (by rfl)) ?_;refine aL λbE dJ h=>?_;refine aA h λm4 rn h=>gl (γ:=(aw Nat×Nat)) [0,2,3,51,59,76,93] (λg4=>[]) (λg4=>[(4,⟨some bB,.cq m4.1 [(5,aO g1.1 m1.length g1.2),(7,aO g4.1 m4.2.length g4.2)]⟩),(5,⟨g4.1,.row 37 m4.2 g4.2⟩)]) (λg4=>?_) (λhm ak=>?_) λhm ak=>?_
    ·exact ar.next (b6 (ae.mN (β:=aS) (γ:=gF) (b':=({m4.1 with q9:=m1}:aS)) ((aN.id aS).comp ID) 4 1 0 I I I I I I (ae.mN (β:=aS) (γ:=eB) (b':=({({m4.1 with q9:=m1}:aS)with dp:=m4.2}:aS)) ((aN.id aS).comp BC) 4 5 0 I I I I I I (ae.qt 4 I go))))
    ·have h:=e1 ak rn;refine az.fk (db (cg zN.fd) ?_);refine bk (gN (i:=4) (q:=1) (β:=aS) (γ:=eB) xV (ag I) I I) ?_;refine aL λz17 Am tm CP h=>?_;refine aA h λju CQ h=>fF 5 underlying30 Gm Gn CQ λj0 dq=>?_;refine db (cg zN.fd) ?_;refine ae.iZ (i:=4) (γ:=eB) (b':=({m3.1 with dp:=[]}:aS)) (os':=[(5,aO g1.1 m1.length g1.2),(7,aO j0 ju.length dq)]) ((aN.id aS).comp BC) xV (ag I) (ag I) hU I I I I (ae.nil ?_);cases h;exact dM 0 (hm (j0,dq))
    have h:=e2 ak rn;refine az.skip ?_;cases h;exact dM 0 (hm (g3.1,g3.2))
   ·have h:=e1 ak fE;refine az.fk (db (cg zN.fd) ?_);refine bk (gN (i:=4) (q:=1) (β:=aS) (γ:=eB) xV (ag I) I I) ?_;refine aL λpS An h=>?_;refine aA h λkh CR h=>fF 5 underlying30 Gm Gn CR λlz ly=>?_;refine db (cg zN.fd) ?_;refine ae.iZ (i:=4) (γ:=eB) (b':=({m2.1 with dp:=[]}:aS)) (os':=[(5,aO g1.1 m1.length g1.2),(7,aO lz kh.length ly)]) ((aN.id aS).comp BC) xV (ag I) (ag I) hU I I I I (ae.nil ?_);cases h;exact dM 0 (hm (lz,ly))
   have h:=e2 ak fE;refine az.skip ?_;cases h;exact dM 0 (hm (g2.1,g2.2))
  ·have h:=e1 ak dw;refine az.fk (db (cg zN.fd) ?_);refine bk (gN (i:=4) (q:=1) (β:=aS) (γ:=eB) xV (ag I) I I) ?_;refine aL λz20 Zv h=>?_;refine aA h λmR Lk h=>fF 5 underlying30 Gm Gn Lk λjH qB=>?_;refine db (cg zN.fd) ?_;refine ae.iZ (i:=4) (γ:=eB) (b':=({({({nB with fj:=cG.1}:aS)with q9:=[]}:aS)with dp:=[]}:aS)) (os':=[(5,aO g1.1 m1.length g1.2),(7,aO jH mR.length qB)]) ((aN.id aS).comp BC) xV (ag I) (ag I) hU I I I I (ae.nil ?_);cases h;exact dM 0 (hm (jH,qB))
  have h:=e2 ak dw;refine az.skip ?_;cases h;exact dM 0 (hm (none,0))
 ·have h:=e1 ak bW;refine az.fk (db (cg P3.fd) ?_);refine bk (gN (i:=4) (q:=0) (β:=aS) (γ:=gF) Ln (ag I) I I) ?_;refine aL ?_;refine aA h λpT Gl h=>fF 1 underlying28 Rb CS Gl λr9 vW=>?_;refine db (cg P3.fd) ?_;refine ae.iZ (i:=4) (γ:=gF) (b':=({({nB with fj:=cG.1}:aS)with q9:=[]}:aS)) (os':=[(5,aO r9 pT.length vW),(7,aO none ([]:aa eB).length 0)]) ((aN.id aS).comp ID) Ln (ag I) (ag I) hU I I I I (ae.nil ?_);cases h;exact dM 0 (hm (r9,vW))
 have h:=e2 ak bW;refine az.skip ?_;cases h;exact dM 0 (hm (ed,4))
end Go.Proofs.YtdadopcnkghbaaaGreat
