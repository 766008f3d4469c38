/-
  Each function meets its functional program. Conditions: none.
-/
import Derived.Test.YtdadopcnkghbaaaGreatMd
set_option linter.defProp false
set_option linter.unusedVariables false
set_option linter.unusedSimpArgs false
set_option maxRecDepth 100000
set_option maxHeartbeats 2000000
namespace Go.Proofs.YtdadopcnkghbaaaGreat
open Go Gv Go.Proofs.Tryz
attribute [local irreducible] ae ax aq ba aL dX fb fp J.of J.ptr J.eq J.cond J.bR
def Rk{ab aj r}(h:uV ab aj=some r):bJ prog 5 [J.of ab,J.of aj] [] (δ:=Nat) (λd=>J.cV d) (λd=>[bb d r]):=by
 unfold uV at h;refine bJ.of func5 I ntmps5 I λW A=>cf (bn (cP (Hw (.pointer none))) ?_);refine aP ?_;refine aB h λan bs h=>bn (He underlying22 Ws (ai I) .none (.some (ai I)) bs) ?_;refine aP λbg=>?_;refine aq.bV 0 I ?_;cases h;exact ru bg
def Zy{ab cG r}(h:Gi ab=some r):vY prog 38 [J.cV cG] cG ab (J.of r) ab:=by
 unfold Gi at h;refine bJ.of func38 I ntmps38 I λW A=>?_;refine aP ?_;refine ax.e4 10 ?_;exact go
def Zb{ab aj r}(h:Gb ab aj=some r):cn prog 103 [J.of ab,J.ptr aj] (J.of r):=by
 unfold Gb at h;refine cn.of func103 I ntmps103 I λW A=>?_;exact go
def X6{ab aj r}(h:Bm ab aj=some r):cn prog 102 [J.of ab,J.rv prog aj] (J.of r):=by
 unfold Bm at h;refine cn.of func102 I ntmps102 I λW A=>?_;refine aP ?_;refine aB h λaz ao h=>hx (γ:=Unit) (δ:=Unit) ao [0,1,7] (λs1 g1=>[(4,J.of (0:Int)),(8,J.of s1)]) (λs1 g1=>[]) (λau=>Sum.elim (λau=>Exit.exit 0) (λau=>Exit.ret) au) (λau g1=>Sum.elim (λau=>[(4,J.of (0:Int)),(8,J.of au.1),(9,J.of au.2)]) (λau=>[(4,J.of au.1),(5,J.of au.2.1),(8,J.of au.2.2.1),(9,J.of au.2.2.2.1),(16,J.of au.2.2.2.2)]) au) (λau g1=>[]) () (λs1 r h g1=>?_) λg1=>?_
 ·refine aP (λaW dq h=>?_);refine aB h λan bs h=>bn (xc (ai I) (ai I) bs) ?_;exact go
 rcases az with az|az
 ·simp only[Sum.elim_inl]at h;exact go
 simp only[Sum.elim_inr]at h;exact go
instance:h9 prog 55 _ _ zt J.of (λr=>J.bR [J.of r.1,J.of r.2]):=.i func55 I ntmps55 I λab r h W A=>by
 unfold zt at h;refine aP λbg=>?_;refine aB h λaz ao h=>hx (γ:=Unit) (δ:=Unit) ao [0,1,2,3,9,10] (λs1 g1=>[(4,J.of s1.1),(5,J.of s1.2.1),(11,J.of s1.2.2)]) (λs1 g1=>[]) (λau=>Exit.exit 0) (λau g1=>[(4,J.of au.1),(5,J.of au.2.1),(11,J.of au.2.2.1),(12,J.of au.2.2.2)]) (λau g1=>[]) () (λs1 r h g1=>?_) λg1=>?_
 ·refine aP (λaW dq bE h=>?_);refine aB h λm1 b7 h=>iu (γ:=Unit) [0,1,2,3,6,7,9,10,11,12,17,18] (λg2=>[(4,J.of m1.1),(5,J.of m1.2)]) (λg2=>[]) (λg2=>?_) (λhm ak=>?_) λhm ak=>?_
  ·exact go
  ·have h:=gd ak b7;exact go
  have h:=gf ak b7;refine aP ?_;refine aB h λm2 dy h=>iu (γ:=Unit) [0,1,2,3,6,7,9,10,11,12,17,18,20] (λg3=>[(4,J.of m2.1),(5,J.of m2.2)]) (λg3=>[]) (λg3=>?_) (λhm ak=>?_) λhm ak=>?_
  ·exact go
  ·have h:=gd ak dy;exact go
  have h:=gf ak dy;exact go
 exact go
def aaD{hp Q}(h:GS hp Q):kl prog 56 [] hp Q:=by
 unfold GS at h;refine bJ.of func56 I ntmps56 I λW A=>cf (bn (cP mL) (gB ?_));refine ae.C1 (α:=Vector aX 4) (β:=Int) 0 I (Cell.o2 ([]:aa ((Vector aX 4)×Int))) (λ_=>rfl) I λbK oq=>?_;replace h:=ah.nZ h bK oq;refine qA ae8 ae9 {sy:=(⟨some bK.1⟩:dZ):qb} (ot QJ .nil) ?_;refine ae.vq 0 I (Cell.Al ({sy:=(⟨some bK.1⟩:dZ):qb})) (λ_=>rfl) (ai I) I λa2 tY=>?_;replace h:=ah.nZ h a2 tY;refine c7 (b0 (ax.ret ?_));exact aq.dV (⟨⟨((some a2.1:Ref),a2.2),h⟩,()⟩: {r // _}×_) (.refl _) I I (c9 I)
def Zc{ab aj r}(h:Gc ab aj=some r):cn prog 105 [J.of ab,J.ptr aj] (J.of r):=by
 unfold Gc at h;refine cn.of func105 I ntmps105 I λW A=>?_;exact go
def X7{ab aj r}(h:Bn ab aj=some r):cn prog 104 [J.of ab,J.rv prog aj] (J.of r):=by
 unfold Bn at h;refine cn.of func104 I ntmps104 I λW A=>?_;refine aP ?_;refine aB h λaz ao h=>hx (γ:=Unit) (δ:=Unit) ao [0,1,7] (λs1 g1=>[(4,J.of (0:Int)),(8,J.of s1)]) (λs1 g1=>[]) (λau=>Sum.elim (λau=>Exit.exit 0) (λau=>Exit.ret) au) (λau g1=>Sum.elim (λau=>[(4,J.of (0:Int)),(8,J.of au.1),(9,J.of au.2)]) (λau=>[(4,J.of au.1),(5,J.of au.2.1),(8,J.of au.2.2.1),(9,J.of au.2.2.2.1),(16,J.of au.2.2.2.2)]) au) (λau g1=>[]) () (λs1 r h g1=>?_) λg1=>?_
 ·refine aP (λaW dq h=>?_);refine aB h λan bs h=>bn (xc (ai I) (ai I) bs) ?_;exact go
 rcases az with az|az
 ·simp only[Sum.elim_inl]at h;exact go
 simp only[Sum.elim_inr]at h;exact go
def ZZ{ab r}(h:KO ab=some r):bJ prog 58 [J.of ab] [] (δ:=Nat×(av Nat×Nat)) (λd=>J.cV d.1) (λd=>[⟨some d.1,.ck ({r with cK:=[]}:dH) [(10,aZ d.2.1 r.cK.length d.2.2)]⟩,⟨d.2.1,.row 186 r.cK d.2.2⟩]):=by
 unfold KO at h;refine bJ.of func58 I ntmps58 I λW A=>cf (pP λbg=>?_);refine bn (cP mL) (gB ?_);refine o6 0 pL ?_;refine bn (sh (b:=({(default:dH)with k9:=ab}:dH)) [10] ab4 I afa afb (.cons Qf I (ai I) I (by rfl) (.nil))) ?_;refine ae.own (α:=aJ) 186 (ae.Vo (ai I) I λbE=>c7 (b0 (ax.ret ?_)));refine aq.IG (γ:=aJ) (b':=({({(default:dH)with k9:=ab}:dH)with cK:=[]}:dH)) ((aO.id dH).comp zb) 0 0 I I I (aq.bV 1 I (aq.bV 1 I ?_));cases h;exact ru (bE,(none,0))
def aaZ{hp ab Q}(h:GZ hp ab Q):kl prog 20 [J.of ab] hp Q:=by
 unfold GZ at h;refine bJ.of func20 I ntmps20 I λW A=>cf (pP λbg=>?_);refine bn (cP mL) ?_;refine aP ?_;refine ae.C1 (α:=b8) (β:=ji) 1 I (Cell.qp ([]:aa (b8×ji))) (λ_=>rfl) I λbK oq=>?_;replace h:=ah.nZ h bK oq;refine qA afc afd {k9:=ab,gK:=(⟨some bK.1⟩:dZ):oS} (ot Qq (ot Qr .nil)) ?_;refine ae.vq 1 I (Cell.xF ({k9:=ab,gK:=(⟨some bK.1⟩:dZ):oS})) (λ_=>rfl) (ai I) I λa2 tY=>?_;replace h:=ah.nZ h a2 tY;refine c7 (b0 (ax.ret ?_));exact aq.dV (⟨⟨((some a2.1:Ref),a2.2),h⟩,()⟩: {r // _}×_) (ej 1) I I (c9 I)
def aaE{hp ab Q}(h:GU hp ab Q):kl prog 21 [J.of ab] hp Q:=by
 unfold GU at h;refine bJ.of func21 I ntmps21 I λW A=>cf (pP λbg=>?_);refine bn (cP mL) ?_;refine aP ?_;refine ah.bB h λan bs h=>bn (He underlying29 vk (ai I) .none (.some (ai I)) bs) ?_;refine qA afe aff ({(default:hS)with n0:=an}:hS) (ot J2 .nil) ?_;refine ae.vq 1 I (Cell.qq ({(default:hS)with n0:=an}:hS)) (λ_=>rfl) (ai I) I λbK oq=>?_;replace h:=ah.nZ h bK oq;refine c7 (b0 (ax.ret ?_));exact aq.dV (⟨⟨((some bK.1:Ref),bK.2),h⟩,()⟩: {r // _}×_) (ej 1) I I (c9 I)
instance Wt:eV prog 12 _ _ _ CG J.of J.of J.of:=.i func12 I ntmps12 I λab aj r h W A=>by
 unfold CG at h;exact go
def J3{ab cG hC hD r}(h:Bv ab=some r):bJ prog 22 [J.cV cG] [⟨some cG,.ck ({ab with e7:=[]}:et) [(3,aZ hC ab.e7.length hD)]⟩,⟨hC,.row 139 ab.e7 hD⟩] (δ:=Unit) (λd=>J.of r) (λd=>[⟨some cG,.ck ({ab with e7:=[]}:et) [(3,aZ hC ab.e7.length hD)]⟩,⟨hC,.row 139 ab.e7 hD⟩]):=by
 unfold Bv at h;refine bJ.of func22 I ntmps22 I λW A=>?_;refine aP ?_;refine bn (Hx underlying43 (ai I)) (b0 ?_);refine ax.tH (ai I) I (aP ?_);refine bn (fQ (i:=0) (q:=0) (β:=et) (γ:=fh) tP (ai I) I I) ?_;refine bn (q2 (i:=1) underlying87 (ai I) I I) ?_;refine c7 (b0 (ax.ret ?_));refine aq.bV 1 I (aq.bV 1 I ?_);cases h;exact ru ()
def Zz{ab aj r}(h:Gj ab aj=some r):cn prog 110 [J.of ab,J.ptr aj] (J.of r):=by
 unfold Gj at h;refine cn.of func110 I ntmps110 I λW A=>?_;exact go
def X9{ab aj r}(h:JM ab aj=some r):cn prog 109 [J.of ab,J.rv prog aj] (J.of r):=by
 unfold JM at h;refine cn.of func109 I ntmps109 I λW A=>?_;refine aP ?_;refine aB h λaz ao h=>hx (γ:=Unit) (δ:=Unit) ao [0,1,7] (λs1 g1=>[(4,J.of (0:Int)),(8,J.of s1)]) (λs1 g1=>[]) (λau=>Sum.elim (λau=>Exit.exit 0) (λau=>Exit.ret) au) (λau g1=>Sum.elim (λau=>[(4,J.of (0:Int)),(8,J.of au.1),(9,J.of au.2)]) (λau=>[(4,J.of au.1),(5,J.of au.2.1),(8,J.of au.2.2.1),(9,J.of au.2.2.2.1),(16,J.of au.2.2.2.2)]) au) (λau g1=>[]) () (λs1 r h g1=>?_) λg1=>?_
 ·refine aP (λaW dq h=>?_);refine aB h λan bs h=>bn (xc (ai I) (ai I) bs) ?_;exact go
 rcases az with az|az
 ·simp only[Sum.elim_inl]at h;exact go
 simp only[Sum.elim_inr]at h;exact go
def Zd{ab aj r}(h:Gd ab aj=some r):cn prog 107 [J.of ab,J.ptr aj] (J.of r):=by
 unfold Gd at h;refine cn.of func107 I ntmps107 I λW A=>?_;exact go
def X8{ab aj r}(h:JK ab aj=some r):cn prog 106 [J.of ab,J.rv prog aj] (J.of r):=by
 unfold JK at h;refine cn.of func106 I ntmps106 I λW A=>?_;refine aP ?_;refine aB h λaz ao h=>hx (γ:=Unit) (δ:=Unit) ao [0,1,7] (λs1 g1=>[(4,J.of (0:Int)),(8,J.of s1)]) (λs1 g1=>[]) (λau=>Sum.elim (λau=>Exit.exit 0) (λau=>Exit.ret) au) (λau g1=>Sum.elim (λau=>[(4,J.of (0:Int)),(8,J.of au.1),(9,J.of au.2)]) (λau=>[(4,J.of au.1),(5,J.of au.2.1),(8,J.of au.2.2.1),(9,J.of au.2.2.2.1),(16,J.of au.2.2.2.2)]) au) (λau g1=>[]) () (λs1 r h g1=>?_) λg1=>?_
 ·refine aP (λaW dq h=>?_);refine aB h λan bs h=>bn (xc (ai I) (ai I) bs) ?_;exact go
 rcases az with az|az
 ·simp only[Sum.elim_inl]at h;exact go
 simp only[Sum.elim_inr]at h;exact go
instance:eV prog 63 _ _ _ KX J.of J.of J.of:=.i func63 I ntmps63 I λab aj r h W A=>by
 unfold KX at h;exact go
def ZA{ab aj r}(h:Gk ab aj=some r):cn prog 108 [J.ptr ab,J.ptr aj] (J.of r):=by
 unfold Gk at h;refine cn.of func108 I ntmps108 I λW A=>?_;refine aP ?_;refine aB h λan bs h=>bn (S6 (ai I) bs) ?_;exact go
instance:eV prog 152 _ _ _ K9 J.of J.of J.of:=.i func152 I ntmps152 I λab aj r h W A=>by
 unfold K9 at h;refine aP λbg bE br eG cx h=>?_;refine aB h λm1 b7 h=>iu (γ:=Unit) [0,1,2,4,5,9,10] (λg1=>[]) (λg1=>[(0,bb cx m1)]) (λg1=>?_) (λhm ak=>?_) λhm ak=>?_
 ·exact go
 ·have h:=gd ak b7;exact go
 have h:=gf ak b7;refine aP ?_;refine aB h λm2 dy h=>iu (γ:=Unit) [0,1,2,4,5,9,10,15] (λg2=>[]) (λg2=>[(0,bb cx m2)]) (λg2=>?_) (λhm ak=>?_) λhm ak=>?_
 ·exact go
 ·have h:=gd ak dy;exact go
 have h:=gf ak dy;refine aP ?_;refine aB h λm3 fE h=>iu (γ:=Unit) [0,1,2,4,5,9,10,15,20] (λg3=>[]) (λg3=>[(0,bb cx m3)]) (λg3=>?_) (λhm ak=>?_) λhm ak=>?_
 ·exact go
 ·have h:=gd ak fE;exact go
 have h:=gf ak fE;exact go
instance:h9 prog 201 _ _ Gy J.of J.of:=.i func201 I ntmps201 I λab r h W A=>by
 unfold Gy at h;refine aP ?_;refine aB h λm1 b7 h=>iu (γ:=Unit) [4] (λg1=>[(0,J.of m1.1),(2,J.of m1.2)]) (λg1=>[]) (λg1=>?_) (λhm ak=>?_) λhm ak=>?_
 ·refine aP ?_;refine aB h λm2 dy h=>iu (γ:=Unit) [4,8] (λg2=>[(0,J.of m2.1),(2,J.of m2.2)]) (λg2=>[]) (λg2=>?_) (λhm ak=>?_) λhm ak=>?_
  ·refine aP ?_;refine aB h λm3 fE h=>iu (γ:=Unit) [4,8,14] (λg3=>[(0,J.of m3.1),(2,J.of m3.2)]) (λg3=>[]) (λg3=>?_) (λhm ak=>?_) λhm ak=>?_
   ·refine aP ?_;refine db (acN underlying45 underlying5) ?_;refine aB h λan bs h=>bn (acO underlying9 (fJ (ByteArray.mk (List.toArray (List.append (List.append [0,1,2,2,3,3,3,3,4,4,4,4,4,4,4,4,5,5,5,5,5,5,5,5,5,5,5,5,5,5,5,5,6,6,6,6,6,6,6,6,6,6,6,6,6,6,6,6,6,6,6,6,6,6,6,6,6,6,6,6,6,6,6,6] [7,7,7,7,7,7,7,7,7,7,7,7,7,7,7,7,7,7,7,7,7,7,7,7,7,7,7,7,7,7,7,7,7,7,7,7,7,7,7,7,7,7,7,7,7,7,7,7,7,7,7,7,7,7,7,7,7,7,7,7,7,7,7,7]) (List.append [8,8,8,8,8,8,8,8,8,8,8,8,8,8,8,8,8,8,8,8,8,8,8,8,8,8,8,8,8,8,8,8,8,8,8,8,8,8,8,8,8,8,8,8,8,8,8,8,8,8,8,8,8,8,8,8,8,8,8,8,8,8,8,8] [8,8,8,8,8,8,8,8,8,8,8,8,8,8,8,8,8,8,8,8,8,8,8,8,8,8,8,8,8,8,8,8,8,8,8,8,8,8,8,8,8,8,8,8,8,8,8,8,8,8,8,8,8,8,8,8,8,8,8,8,8,8,8,8]))))) (ai I) bs) ?_;exact go
   ·have h:=gd ak fE;exact go
   have h:=gf ak fE;exact go
  ·have h:=gd ak dy;exact go
  have h:=gf ak dy;exact go
 ·have h:=gd ak b7;exact go
 have h:=gf ak b7;exact go
instance:h9 prog 197 _ _ zu J.of J.of:=.i func197 I ntmps197 I λab r h W A=>by
 unfold zu at h;exact go
instance:eV prog 199 _ _ _ zy J.of J.of J.of:=.i func199 I ntmps199 I λab aj r h W A=>by
 unfold zy at h;exact go
instance:eV prog 198 _ _ _ CH J.of J.of J.of:=.i func198 I ntmps198 I λab aj r h W A=>by
 unfold CH at h;exact go
instance:eV prog 153 _ _ _ zD J.of J.of J.of:=.i func153 I ntmps153 I λab aj r h W A=>by
 unfold zD at h;exact go
def Q4{ab aj r}(h:qW ab aj=some r):cn prog 137 [J.of ab,J.of aj] (J.of r):=by
 unfold qW at h;refine cn.of func137 I ntmps137 I λW A=>?_;refine aP (λbg bE h=>?_);refine kH (λhb=>xv (cM I hb) (ai I) (λh=>⟨hb,h⟩)) ?_;exact go
instance:eV prog 137 _ _ _ qW J.of J.of J.of:=
 ⟨⟨_,func137,rfl,by kernel_rfl⟩,λ_ _ _ h=>Q4 h⟩
def P4{ab aj r}(h:yV ab aj=some r):cn prog 200 [J.of ab,J.rv prog aj] (J.of r):=by
 unfold yV at h;refine cn.of func200 I ntmps200 I λW A=>?_;refine aP ?_;refine aB h λaz ao h=>hx (γ:=Unit) (δ:=Unit) ao [0,1,7] (λs1 g1=>[(4,J.of (0:Int)),(8,J.of s1)]) (λs1 g1=>[]) (λau=>Sum.elim (λau=>Exit.exit 0) (λau=>Exit.ret) au) (λau g1=>Sum.elim (λau=>[(4,J.of (0:Int)),(8,J.of au.1),(9,J.of au.2)]) (λau=>[(4,J.of au.1),(5,J.of au.2.1),(8,J.of au.2.2.1),(9,J.of au.2.2.2.1),(16,J.of au.2.2.2.2)]) au) (λau g1=>[]) () (λs1 r h g1=>?_) λg1=>?_
 ·refine aP (λaW dq h=>?_);refine aB h λan bs h=>bn (xc (ai I) (ai I) bs) ?_;exact go
 rcases az with az|az
 ·simp only[Sum.elim_inl]at h;exact go
 simp only[Sum.elim_inr]at h;exact go
def ZB{ab r}(h:KB ab=some r):cn prog 157 [J.of ab] (J.of r):=by
 unfold KB at h;refine cn.of func157 I ntmps157 I λW A=>?_;exact go
instance:h9 prog 64 _ _ GQ J.of J.of:=.i func64 I ntmps64 I λab r h W A=>by
 unfold GQ at h;refine aP ?_;refine aB h λaz ao h=>hx (γ:=Unit) (δ:=Unit) ao [0,6,7] (λs1 g1=>[(2,J.of (0:Int)),(8,J.of s1)]) (λs1 g1=>[]) (λau=>Sum.elim (λau=>Exit.exit 0) (λau=>Exit.ret) au) (λau g1=>Sum.elim (λau=>[(2,J.of (0:Int)),(8,J.of au.1),(9,J.of au.2)]) (λau=>[(2,J.of au.1),(4,J.of au.2.1),(5,J.of au.2.2.1),(8,J.of au.2.2.2.1),(9,J.of au.2.2.2.2.1),(15,J.of au.2.2.2.2.2)]) au) (λau g1=>[]) () (λs1 r h g1=>?_) λg1=>?_
 ·refine aP (λaW dq h=>?_);refine aB h λan bs h=>bn (S6 (ai I) bs) ?_;exact go
 rcases az with az|az
 ·simp only[Sum.elim_inl]at h;exact go
 simp only[Sum.elim_inr]at h;exact go
def RR:Go.Shelf.Ren:=⟨λ|6=>139|15=>178|14=>181|28=>226|29=>201|20=>229|21=>230|22=>231|23=>232|24=>233|25=>234|26=>235|27=>236|46=>270|47=>266|48=>267|49=>271|50=>272|57=>283|n=>n,λ|22=>61|24=>186|25=>255|3=>3|39=>271|0=>0|53=>358|55=>45|4=>4|46=>352|45=>351|50=>305|5=>5|9=>9|66=>392|70=>396|76=>406|77=>157|n=>n,λ|n=>n⟩
def afg:Go.Proofs.SlLaysF0.n6 prog RR:= {
 mixed:=by kernel_rfl
 f6:=⟨f139.name,by decide,func139.trans (dF some (by kernel_rfl))⟩
 f14:=⟨f181.name,by decide,func181.trans (dF some (by kernel_rfl))⟩
 f15:=func178.trans (dF some (by kernel_rfl))
 f20:=⟨f229.name,by decide,func229.trans (dF some (by kernel_rfl))⟩
 f21:=⟨f230.name,by decide,func230.trans (dF some (by kernel_rfl))⟩
 f22:=⟨f231.name,by decide,func231.trans (dF some (by kernel_rfl))⟩
 f23:=⟨f232.name,by decide,func232.trans (dF some (by kernel_rfl))⟩
 f24:=⟨f233.name,by decide,func233.trans (dF some (by kernel_rfl))⟩
 f25:=⟨f234.name,by decide,func234.trans (dF some (by kernel_rfl))⟩
 f26:=⟨f235.name,by decide,func235.trans (dF some (by kernel_rfl))⟩
 f27:=⟨f236.name,by decide,func236.trans (dF some (by kernel_rfl))⟩
 f28:=func226.trans (dF some (by kernel_rfl))
 f29:=func201.trans (dF some (by kernel_rfl))
 f46:=⟨f270.name,by decide,func270.trans (dF some (by kernel_rfl))⟩
 f47:=func266.trans (dF some (by kernel_rfl))
 f48:=func267.trans (dF some (by kernel_rfl))
 f49:=⟨f271.name,by decide,func271.trans (dF some (by kernel_rfl))⟩
 f50:=⟨f272.name,by decide,func272.trans (dF some (by kernel_rfl))⟩
 f57:=⟨f283.name,by decide,func283.trans (dF some (by kernel_rfl))⟩
 t0:=underlying0
 a0:=isAgg0
 z0:=sizeOf0
 v0:=zeroValue0
 t3:=underlying3
 a3:=isAgg3
 z3:=sizeOf3
 v3:=zeroValue3
 t4:=underlying4
 a4:=isAgg4
 z4:=sizeOf4
 v4:=zeroValue4
 t5:=underlying5
 a5:=isAgg5
 z5:=sizeOf5
 v5:=zeroValue5
 t9:=underlying9
 a9:=isAgg9
 z9:=sizeOf9
 v9:=zeroValue9
 t22:=underlying61
 a22:=isAgg61
 z22:=sizeOf61
 v22:=zeroValue61
 t25:=underlying255
 a25:=isAgg255
 z25:=sizeOf255
 v25:=zeroValue255
 t39:=underlying271
 a39:=isAgg271
 z39:=sizeOf271
 v39:=zeroValue271
 t45:=underlying351
 a45:=isAgg351
 z45:=sizeOf351
 v45:=zeroValue351
 t46:=underlying352
 a46:=isAgg352
 z46:=sizeOf352
 v46:=zeroValue352
 t50:=underlying305
 a50:=isAgg305
 z50:=sizeOf305
 v50:=zeroValue305
 t53:=underlying358
 a53:=isAgg358
 z53:=sizeOf358
 v53:=zeroValue358
 t55:=underlying45
 a55:=isAgg45
 z55:=sizeOf45
 v55:=zeroValue45
 t66:=underlying392
 a66:=isAgg392
 z66:=sizeOf392
 v66:=zeroValue392
 t70:=underlying396
 a70:=isAgg396
 z70:=sizeOf396
 v70:=zeroValue396
 t76:=underlying406
 a76:=isAgg406
 z76:=sizeOf406
 v76:=zeroValue406
 t77:=underlying157
 a77:=isAgg157
 z77:=sizeOf157
 v77:=zeroValue157}
def XY{xs F K}(h:ah.tI xs F K){key:av Nat}{cap:Nat}:bJ prog 139 [.eq (aZ key xs.length cap),.DS prog F] [⟨key,.row 186 xs cap⟩] (δ:= {r:aa aJ // xs.length=r.length∧K r}) (λ_=>.bR []) (λd=>[⟨key,.row 186 d.1 cap⟩]):=T8 (ρ:=RR) afg (λ_=>by kernel_rfl) (λ_=>by kernel_rfl) I h
def X0{ab aj aI r}(h:Bj ab aj aI=some r):cn prog 183 [J.of ab,J.of aj,J.xS prog aI] (J.of r):=by
 unfold Bj at h;refine cn.of func183 I ntmps183 I λW A=>?_;refine aP ?_;refine aB h λaz ao h=>hx (γ:=Unit) (δ:=Unit) ao [0,1,2,11,12] (λs1 g1=>[(6,J.of (0:Int)),(13,J.of s1)]) (λs1 g1=>[]) (λau=>Sum.elim (λau=>Exit.exit 0) (λau=>Exit.ret) au) (λau g1=>Sum.elim (λau=>[(6,J.of (0:Int)),(13,J.of au.1),(14,J.of au.2)]) (λau=>[(6,J.of au.1),(7,J.of au.2.1),(13,J.of au.2.2.1),(14,J.of au.2.2.2.1),(21,J.of au.2.2.2.2)]) au) (λau g1=>[]) () (λs1 r h g1=>?_) λg1=>?_
 ·refine aP (λaW dq bg bP dI bE h=>?_);refine aB h λan bs h=>bn (G7 (ai I) (ai I) (ai I) bs) ?_;exact go
 rcases az with az|az
 ·simp only[Sum.elim_inl]at h;exact go
 simp only[Sum.elim_inr]at h;exact go
def X1{ab aj aI r}(h:Bk ab aj aI=some r):cn prog 185 [J.of ab,J.of aj,J.xS prog aI] (J.of r):=by
 unfold Bk at h;refine cn.of func185 I ntmps185 I λW A=>?_;refine aP ?_;refine aB h λaz ao h=>hx (γ:=Unit) (δ:=Unit) ao [0,1,2,11,12] (λs1 g1=>[(6,J.of (0:Int)),(13,J.of s1)]) (λs1 g1=>[]) (λau=>Sum.elim (λau=>Exit.exit 0) (λau=>Exit.ret) au) (λau g1=>Sum.elim (λau=>[(6,J.of (0:Int)),(13,J.of au.1),(14,J.of au.2)]) (λau=>[(6,J.of au.1),(7,J.of au.2.1),(13,J.of au.2.2.1),(14,J.of au.2.2.2.1),(21,J.of au.2.2.2.2)]) au) (λau g1=>[]) () (λs1 r h g1=>?_) λg1=>?_
 ·refine aP (λaW dq bg bP dI bE h=>?_);refine aB h λan bs h=>bn (G7 (ai I) (ai I) (ai I) bs) ?_;exact go
 rcases az with az|az
 ·simp only[Sum.elim_inl]at h;exact go
 simp only[Sum.elim_inr]at h;exact go
instance:h9 prog 237 _ _ zo J.of J.of:=.i func237 I ntmps237 I λab r h W A=>by
 unfold zo at h;exact go
def ZC{hp ab r}(h:Ci hp ab=some r):hA prog 53 [J.of ab] hp (J.of r) hp:=by
 unfold Ci at h;refine bJ.of func53 I ntmps53 I λW A=>?_;exact go
def jP{ab aj cG r}(h:h4 ab aj=some r):vY prog 13 [J.cV cG,J.of aj] cG ab (J.of r.1) r.2:=by
 unfold h4 at h;refine bJ.of func13 I ntmps13 I λW A=>?_;refine aP ?_;refine aB h λan bs h=>ae.gE (eL.call [0] ah5 (Zy bs) ⟨ai I,trivial⟩ I ⟨rfl,trivial⟩ I) I I I (aP (λh=>?_));refine aB h λaW dq h=>aB h λaH b5 h=>ax.e4 14 ?_;exact go
instance Wu:eV prog 54 _ _ _ sf J.of J.of J.of:=.i func54 I ntmps54 I λab aj r h W A=>by
 unfold sf at h;refine aP λbg bE=>?_;refine ae.share (α:=Int) 0 3 I I (bn (xm (F:=(λa0=>Gb a0 aj)) (τs:=[J.ptr aj]) afh ⟨ai I,trivial⟩ (λ_ _ h=>Zb h)) ?_);refine aB h λan bs h=>nE afi (X6 bs) ?_;exact go
instance:eV prog 57 _ _ _ wU J.of J.of J.of:=.i func57 I ntmps57 I λab aj r h W A=>by
 unfold wU at h;refine aP λbg bE=>?_;refine ae.share (α:=Int) 0 3 I I (bn (xm (F:=(λa0=>Gc a0 aj)) (τs:=[J.ptr aj]) afj ⟨ai I,trivial⟩ (λ_ _ h=>Zc h)) ?_);refine aB h λan bs h=>nE afk (X7 bs) ?_;exact go
instance:eV prog 67 _ _ _ CB J.of J.of J.of:=.i func67 I ntmps67 I λab aj r h W A=>by
 unfold CB at h;refine aP λbg bE=>?_;refine ae.share (α:=Int) 0 3 I I (bn (xm (F:=(λa0=>Gj a0 aj)) (τs:=[J.ptr aj]) afl ⟨ai I,trivial⟩ (λ_ _ h=>Zz h)) ?_);refine aB h λan bs h=>nE afm (X9 bs) ?_;exact go
instance IH:eV prog 65 _ _ _ tl J.of J.of J.of:=.i func65 I ntmps65 I λab aj r h W A=>by
 unfold tl at h;refine aP λbg bE=>?_;refine bn (cP (Hw .nilFunc)) (gB ?_);refine ae.share (α:=jI prog Bool) 1 2 I I (ae.share (α:=Int) 0 3 I I (bn (sA (F:=Gk ab aj) (τs:=[J.ptr ab,J.ptr aj]) afn ⟨ai I,ai I,trivial⟩ (λ_ h=>ZA h)) ?_));exact go
instance Vp:eV prog 112 _ _ _ KZ J.of J.of J.of:=.i func112 I ntmps112 I λab aj r h W A=>by
 unfold KZ at h;refine aP (λbg h=>?_);refine aB h λan bs h=>ax.e4 5 ?_;exact go
def QK{hp ab aj r}(h:y8 hp ab aj=some r):hA prog 129 [J.of ab,J.of aj] hp (J.of r) hp:=by
 unfold y8 at h;refine bJ.of func129 I ntmps129 I λW A=>?_;refine aP ?_;refine ax.scope (go2 (λh=>?_) (λh=>?_))
 ·exact aq.Vq go
 refine ax.label (aP λbp cO c1 cY h=>?_);refine aB h λaz ao h=>xT (σ:=Int) (ε:=(Int×Int×Bool)) (γ:=Unit) (δ:=Unit) ao 0 [0,1,4,9,14,15] (λs1 g1=>[(5,J.of (-1)),(16,J.of s1)]) (λs1 g1=>[]) (λs1 g1=>aY hp) (λau=>Exit.exit 0) (λau g1=>[(5,J.of au.1),(16,J.of au.2.1),(17,J.of au.2.2)]) (λau g1=>[]) (λau g1=>aY hp) () (λs1 r h g1=>?_) (λg1=>?_)
 ·exact go
 refine aP ?_;exact aq.Vq go
def QZ{hp ab r}(h:zk hp ab=some r):hA prog 344 [J.of ab] hp (J.of r) hp:=by
 unfold zk at h;refine bJ.of func344 I ntmps344 I λW A=>cf (c7 (gB ?_));refine dr ?_;refine aB h λbp cO h=>bn (kS (ij (ai I) cO)) ?_;refine db (cq acP.fd) ?_;refine aB h λc1 cY h=>bn (nt ((aO.id dT).comp B9) (r:=c1.fx) nF (ai I) (hX (n:=0) I (pE cY) I) I I) ?_;refine db pH ?_;refine dr ?_;refine o7 cT ?_;refine aB h λb6 ez h=>kH (λhb=>kS (ij (cM I hb) (gW ez hb))) ?_;refine o7 (cq Hf.fd) ?_;refine aB h λc2 en h=>kH (λhb=>nt ((aO.id dT).comp yZ) (r:=c2.cX) T9 (cM I hb) (hX (n:=0) I (pE (gW en hb)) I) I I) ?_;refine kH (λhb=>ab5 (b:=(default:Vector Ref 2)) (sz:=1) I underlying452 (by kernel_rfl) afo (.nil)) ?_;refine kH (λhb=>ab6 underlying452 iK underlying450 adZ (cM I hb) (cM I hb) afp) ?_;refine II ?_;refine c7 (b0 (ax.ret ?_));cases h;exact aq.dV () (.refl _) I I (c9 I)
def Yr{hp ab aj aI cy IJ LW LX r}(h:FP hp ab aj aI cy=some r):bJ prog 349 [J.of ab,J.of aj,J.of aI,J.cV IJ] ([⟨some IJ,.ck ([]:aa eu) [(0,aZ LW cy.length LX)]⟩,⟨LW,.row 465 cy LX⟩]++aY hp) (δ:=(av Nat×Nat)) (λd=>J.bR []) (λd=>[⟨some IJ,.ck ([]:aa eu) [(0,aZ d.1 r.length d.2)]⟩,⟨d.1,.row 465 r d.2⟩]++aY hp):=by
 unfold FP at h;refine bJ.of func349 I ntmps349 I λW A=>?_;refine aP λbg bp cO c1 cY h=>?_;refine aB h λm1 b7 h=>xU (γ:=(av Nat×Nat)) 3 [0,1,2,3,5,10] (λg1=>[]) (λg1=>[(1,⟨some IJ,.ck ([]:aa eu) [(0,aZ g1.1 m1.length g1.2)]⟩),(2,⟨g1.1,.row 465 m1 g1.2⟩)]) (λg1=>aY hp) (λg1=>?_) (λhm ak=>?_) (λhm ak=>?_)
 ·refine aq.kc (aq.bV 2 I (aq.bV 2 I ?_));cases h;exact aq.lk (g1.1,g1.2) (.cons_cons _ (.cons_cons _ (.cons _ (.refl _)))) I I
 ·have h:=gd ak b7;refine ax.lB mixed 9 (rg 11 9) [[],[],[],[],[3],[4],[5],[1,2,6],[7]] [_,_,_,_,_,_,_,_,_] ⟨fW λar=>fQ (i:=1) (q:=0) (β:=aa eu) (γ:=eu) MM (ai I) (ar _ _ I I) I,sN 0 hI,hg,hg,fW λar=>kS (ij (ai I) cO),H1 (cq acQ.fd),fW λar=>nt ((aO.id dT).comp Gz) (r:=c1.jr) cr (ai I) (nB (λi e q=>ar i e q I) (hX (n:=3) I (pE cY) I)) I I,fW λar=>kt (b:= {b3:=aj,xd:=aI,b2:=c1.jr:eu}) I afq MN (.cons Ys I (ai I) I (.cons Ym I (ai I) I (.cons Ze I (ai I) I (.nil)))),fW λar=>Db (r:=[{b3:=aj,xd:=aI,b2:=c1.jr:eu}]) underlying461 MO MN I I (.cons (by simp) (ai I) (.nil)),trivial⟩ ?_;refine aB h λan bs h=>iv 2 underlying461 MO MN bs λeU c5=>?_;refine ae.jS (i:=1) (γ:=eu) (b':=([]:aa eu)) (os':=[(0,aZ eU an.length c5)]) (aO.id (aa eu)) MM (ai I) (ai I) iI I I I I (ae.nil ?_);cases h;exact eA 0 (hm (eU,c5))
 have h:=gf ak b7;refine ax.skip ?_;cases h;exact eA 0 (hm (LW,LX))
instance Vr:eV prog 352 _ _ _ CC J.of J.of J.of:=.i func352 I ntmps352 I λab aj r h W A=>by
 unfold CC at h;exact go
instance Vs:eV prog 351 _ _ _ Lk J.of J.of J.of:=.i func351 I ntmps351 I λab aj r h W A=>by
 unfold Lk at h;exact go
instance:eV prog 264 _ _ _ Fz J.of J.of J.of:=.i func264 I ntmps264 I λab aj r h W A=>by
 unfold Fz at h;refine aP λbg=>?_;refine aB h λaz ao h=>hx (γ:=Unit) (δ:=Unit) ao [0,1,3,7] (λs1 g1=>[(4,J.of (0:Int)),(8,J.of s1)]) (λs1 g1=>[]) (λau=>Sum.elim (λau=>Exit.exit 0) (λau=>Exit.ret) au) (λau g1=>Sum.elim (λau=>[(4,J.of (0:Int)),(8,J.of au.1),(9,J.of au.2)]) (λau=>[(4,J.of au.1),(5,J.of au.2.1),(8,J.of au.2.2.1),(9,J.of au.2.2.2.1),(16,J.of au.2.2.2.2)]) au) (λau g1=>[]) () (λs1 r h g1=>?_) λg1=>?_
 ·refine aP (λh=>?_);refine aB h λaW dq h=>ax.e4 6 ?_;exact go
 rcases az with az|az
 ·simp only[Sum.elim_inl]at h;exact go
 simp only[Sum.elim_inr]at h;exact go
def J4{ab aj cG hC hD r}(h:wy ab aj=some r):bJ prog 84 [J.cV cG,J.of aj] [⟨some cG,.ck ({ab with e7:=[]}:et) [(3,aZ hC ab.e7.length hD)]⟩,⟨hC,.row 139 ab.e7 hD⟩] (δ:=(av Nat×Nat)) (λd=>J.bR []) (λd=>[⟨some cG,.ck ({r with e7:=[]}:et) [(3,aZ d.1 r.e7.length d.2)]⟩,⟨d.1,.row 139 r.e7 d.2⟩]):=by
 unfold wy at h;refine bJ.of func84 I ntmps84 I λW A=>?_;refine aP ?_;refine bn (fQ (i:=0) (q:=0) (β:=et) (γ:=fh) tP (ai I) I I) ?_;refine aP ?_;refine aB h λan bs h=>iv 1 underlying87 HR afr bs λeU c5=>?_;refine aP ?_;refine ae.jS (i:=0) (γ:=fh) (b':=({ab with e7:=[]}:et)) (os':=[(3,aZ eU an.length c5)]) ((aO.id et).comp Bs) tP (ai I) (ai I) iI I I I I (ae.nil (aq.kc (aq.bV 1 I (aq.bV 1 I ?_))));cases h;exact aq.lk (eU,c5) (.cons_cons _ (.cons_cons _ (qT _))) I I
def RS:Go.Shelf.Ren:=⟨λ|6=>133|15=>178|14=>177|28=>226|29=>201|20=>218|21=>219|22=>220|23=>221|24=>222|25=>223|26=>224|27=>225|46=>265|47=>266|48=>267|49=>268|50=>269|57=>282|n=>n,λ|22=>197|24=>202|25=>251|3=>3|39=>271|0=>0|53=>358|55=>45|4=>4|46=>352|45=>351|50=>305|5=>5|9=>9|66=>392|70=>396|76=>406|77=>157|n=>n,λ|n=>n⟩
def afs:Go.Proofs.SlLaysF0.n6 prog RS:= {
 mixed:=by kernel_rfl
 f6:=⟨f133.name,by decide,func133.trans (dF some (by kernel_rfl))⟩
 f14:=⟨f177.name,by decide,func177.trans (dF some (by kernel_rfl))⟩
 f15:=func178.trans (dF some (by kernel_rfl))
 f20:=⟨f218.name,by decide,func218.trans (dF some (by kernel_rfl))⟩
 f21:=⟨f219.name,by decide,func219.trans (dF some (by kernel_rfl))⟩
 f22:=⟨f220.name,by decide,func220.trans (dF some (by kernel_rfl))⟩
 f23:=⟨f221.name,by decide,func221.trans (dF some (by kernel_rfl))⟩
 f24:=⟨f222.name,by decide,func222.trans (dF some (by kernel_rfl))⟩
 f25:=⟨f223.name,by decide,func223.trans (dF some (by kernel_rfl))⟩
 f26:=⟨f224.name,by decide,func224.trans (dF some (by kernel_rfl))⟩
 f27:=⟨f225.name,by decide,func225.trans (dF some (by kernel_rfl))⟩
 f28:=func226.trans (dF some (by kernel_rfl))
 f29:=func201.trans (dF some (by kernel_rfl))
 f46:=⟨f265.name,by decide,func265.trans (dF some (by kernel_rfl))⟩
 f47:=func266.trans (dF some (by kernel_rfl))
 f48:=func267.trans (dF some (by kernel_rfl))
 f49:=⟨f268.name,by decide,func268.trans (dF some (by kernel_rfl))⟩
 f50:=⟨f269.name,by decide,func269.trans (dF some (by kernel_rfl))⟩
 f57:=⟨f282.name,by decide,func282.trans (dF some (by kernel_rfl))⟩
 t0:=underlying0
 a0:=isAgg0
 z0:=sizeOf0
 v0:=zeroValue0
 t3:=underlying3
 a3:=isAgg3
 z3:=sizeOf3
 v3:=zeroValue3
 t4:=underlying4
 a4:=isAgg4
 z4:=sizeOf4
 v4:=zeroValue4
 t5:=underlying5
 a5:=isAgg5
 z5:=sizeOf5
 v5:=zeroValue5
 t9:=underlying9
 a9:=isAgg9
 z9:=sizeOf9
 v9:=zeroValue9
 t22:=underlying197
 a22:=isAgg197
 z22:=sizeOf197
 v22:=zeroValue197
 t25:=underlying251
 a25:=isAgg251
 z25:=sizeOf251
 v25:=zeroValue251
 t39:=underlying271
 a39:=isAgg271
 z39:=sizeOf271
 v39:=zeroValue271
 t45:=underlying351
 a45:=isAgg351
 z45:=sizeOf351
 v45:=zeroValue351
 t46:=underlying352
 a46:=isAgg352
 z46:=sizeOf352
 v46:=zeroValue352
 t50:=underlying305
 a50:=isAgg305
 z50:=sizeOf305
 v50:=zeroValue305
 t53:=underlying358
 a53:=isAgg358
 z53:=sizeOf358
 v53:=zeroValue358
 t55:=underlying45
 a55:=isAgg45
 z55:=sizeOf45
 v55:=zeroValue45
 t66:=underlying392
 a66:=isAgg392
 z66:=sizeOf392
 v66:=zeroValue392
 t70:=underlying396
 a70:=isAgg396
 z70:=sizeOf396
 v70:=zeroValue396
 t76:=underlying406
 a76:=isAgg406
 z76:=sizeOf406
 v76:=zeroValue406
 t77:=underlying157
 a77:=isAgg157
 z77:=sizeOf157
 v77:=zeroValue157}
def X2{xs F K}(h:ah.tI xs F K){key:av Nat}{cap:Nat}:bJ prog 133 [.eq (aZ key xs.length cap),.DS prog F] [⟨key,.row 202 xs cap⟩] (δ:= {r:aa hj // xs.length=r.length∧K r}) (λ_=>.bR []) (λd=>[⟨key,.row 202 d.1 cap⟩]):=T8 (ρ:=RS) afs (λ_=>by kernel_rfl) (λ_=>by kernel_rfl) I h
instance:h9 prog 135 _ _ CD J.of J.of:=.i func135 I ntmps135 I λab r h W A=>by
 unfold CD at h;refine aP ?_;refine aB h λaz ao h=>hx (γ:=Unit) (δ:=Unit) ao [0,3,6,7] (λs1 g1=>[(2,J.of (0:Int)),(8,J.of s1)]) (λs1 g1=>[]) (λau=>Sum.elim (λau=>Exit.exit 0) (λau=>Exit.ret) au) (λau g1=>Sum.elim (λau=>[(2,J.of (0:Int)),(8,J.of au.1),(9,J.of au.2)]) (λau=>[(2,J.of au.1),(5,J.of au.2.1),(8,J.of au.2.2.1),(9,J.of au.2.2.2.1),(14,J.of au.2.2.2.2)]) au) (λau g1=>[]) () (λs1 r h g1=>?_) λg1=>?_
 ·exact go
 rcases az with az|az
 ·simp only[Sum.elim_inl]at h;exact go
 simp only[Sum.elim_inr]at h;exact go
def Ya{ab cG hC hD r}(h:JR ab=some r):bJ prog 25 [J.cV cG] [⟨some cG,.ck ({ab with e7:=[]}:et) [(3,aZ hC ab.e7.length hD)]⟩,⟨hC,.row 139 ab.e7 hD⟩] (δ:=(av Nat×Nat)) (λd=>J.bR []) (λd=>[⟨some cG,.ck ({r with e7:=[]}:et) [(3,aZ d.1 r.e7.length d.2)]⟩,⟨d.1,.row 139 r.e7 d.2⟩]):=by
 unfold JR at h;refine bJ.of func25 I ntmps25 I λW A=>cf (dr ?_);refine bn (acR underlying43 (ai I)) (b0 ?_);refine ax.Dc (ai I) I (ax.fc (dr ?_));refine db kS ?_;refine db (cq ad0.fd) ?_;refine ae.own (α:=fh) 139 (ae.jS (i:=1) (γ:=fh) (b':=({ab with e7:=[]}:et)) (os':=[(3,aZ none ([]:aa fh).length 0)]) ((aO.id et).comp Bs) tP (ai I) mb iI I I I I (ae.nil (aq.kc (aq.bV 0 I (aq.bV 1 I ?_)))));cases h;exact aq.lk (none,0) (.cons_cons _ (.cons_cons _ (qT _))) I I
def Qs{hp ab r}(h:y0 hp ab=some r):hA prog 28 [J.of ab] hp (J.of r) hp:=by
 unfold y0 at h;refine bJ.of func28 I ntmps28 I λW A=>cf (bn (cP mL) ?_);refine aP (λh=>?_);refine bn (cP mL) ?_;exact go
def QL{hp ab aj r}(h:y9 hp ab aj=some r):hA prog 87 [J.of ab,J.of aj] hp (J.of r.1) r.2:=by
 unfold y9 at h;refine bJ.of func87 I ntmps87 I λW A=>cf (c7 (gB ?_));refine dr ?_;refine dr ?_;refine aB h λan bs h=>ae.gE (eL.ht 0 I Ua (QK bs) ⟨ai I,ai I,trivial⟩) I I I (c7 (h6 (cf ?_)));refine dr ?_;refine ea qk ?_;refine dr ?_;refine o7 cT ?_;refine o7 cT ?_;refine aB h λbp cO h=>kH (λhb=>kS (ij (cM I hb) (gW cO hb))) ?_;refine o7 (cq zQ.fd) ?_;refine aB h λaW dq h=>kH (λhb=>rf (k:=aW) Ac (cM I hb) (cM I hb) (dt (gW dq hb))) ?_;refine aB h λc1 cY h=>kH (λhb=>nt (((aO.id hS).comp wv).comp (aO.idx (α:=Int) 6 aW (dt (gW dq hb)).1)) (r:=b9 c1.gK aW) cr (cM I hb) (hX (n:=0) I (sm (gW cY hb)) I) I I) ?_;refine DT nz ?_;refine N8 (b0 ?_);refine mU h (λh=>?_) λh=>?_
 ·refine cf (c7 (b0 (ax.ret (aq.ret ?_))));cases h;exact aq.dV () (.refl _) I I (c9 I)
 refine kY (ax.seq (aB h λb6 ez h=>aB h λbP dI h=>aB h λc2 en h=>aB h λdc jt h=>ax.lB mixed 10 (rg 20 10) [[],[],[0],[2],[1,3],[4],[5],[0],[7],[1,8]] [_,_,_,_,_,_,_,_,_,_] ⟨hg,hg,fW λar=>kS (ij (ai I) ez),H1 (cq zQ.fd),fW λar=>rf (k:=bP) Ac (ai I) (ai I) (dt dI),fW λar=>nt (((aO.id hS).comp wv).comp (aO.idx (α:=Int) 6 bP (dt dI).1)) (r:=b9 c2.gK bP) cr (ai I) (nB (λi e q=>ar i e q I) (hX (n:=0) I (sm en) I)) I I,mx q4,fW λar=>kS (ij (ai I) ez),H1 (cq zQ.fd),fW λar=>rf (k:=dc) Ac (ai I) (ai I) (dt jt),trivial⟩ ?_));refine aB h λbH fy h=>ae.n2 (k':=Cell.qq ({c2 with gK:=iq c2.gK dc (bz ((b9 c2.gK bP)-1))}:hS)) 0 I (((aO.id hS).comp wv).comp (aO.idx (α:=Int) 6 dc (dt jt).1)) (v:=(bz ((b9 c2.gK bP)-1):Int)) cr (ai I) (ai I) (sm en) I I I I (dh fy) (gB (c7 (b0 (ax.ret ?_))));cases h;exact aq.dV () (.refl _) I I (c9 I)
def YW{hp ab r}(h:BX hp ab=some r):hA prog 37 [J.of ab] hp (J.of r) hp:=by
 unfold BX at h;refine bJ.of func37 I ntmps37 I λW A=>?_;refine aP ?_;exact aB h λan bs h=>ae.gE (eL.ht 0 I Vt (Qs bs) ⟨ai I,trivial⟩) I I I (aB h λaH b5 h=>ae.gE (eL.ht 0 I ah6 (ZC b5) ⟨ai I,trivial⟩) I I I go)
def oP{ab cG r}(h:l9 ab=some r):vY prog 18 [J.cV cG] cG ab (J.of r.1) r.2:=by
 unfold l9 at h;refine bJ.of func18 I ntmps18 I λW A=>?_;refine aP ?_;refine ae.bV 0 I (aB h λan bs h=>gj 1 jV (jP bs) λau=>?_);exact go
def aaF{hp ab aj Q}(h:zE hp ab aj Q):kl prog 39 [J.of ab,J.of aj] hp Q:=by
 unfold zE at h;refine bJ.of func39 I ntmps39 I λW A=>cf (pP λbg=>?_);refine bn (cP mL) ?_;refine go2 (λan bs h=>?_) (λan bs aW dq bE aH b5 h=>?_)
 ·refine bn (cP mL) (b0 (ax.ret (aq.ret ?_)));exact aq.dV (⟨⟨((none:Ref),hp),h⟩,()⟩: {r // _}×_) (ej 1) I I (c9 I)
 refine ae.C1 (α:=Int) (β:=aJ) 2 I (Cell.kz ([]:aa (Int×aJ))) (λ_=>rfl) I λbK oq=>?_;replace h:=ah.nZ h bK oq;refine ah.bB h λbr eG h=>lC eG (kt (b:=({(default:iG)with tz:=aH.1,tA:=(((aF ab.bM aW).ca).length:Int),nq:=(⟨some bK.1⟩:dZ)}:iG)) I aft afu (.cons YJ I (ai I) I (.cons YK I (ai I) I (.cons Qg I (ai I) I (.nil))))) ?_;refine ae.vq 2 I (Cell.oc br) (λ_=>rfl) (ai I) I λa2 tY=>?_;replace h:=ah.nZ h a2 tY;refine aP ?_;refine AF (γ:=Unit) h 2 [0,1,2,4,5,6,7,8,9,16,34,42] (λm1 g1=>[]) (λm1 g1=>[]) (λm1 g1=>aY m1) (λm1 g1 h=>?_) (λhm ak h=>?_) (λhm ak h=>?_)
 ·refine aP ?_;exact aq.dV (⟨⟨((some a2.1:Ref),m1),h⟩,()⟩: {r // _}×_) (ej 2) I I (c9 I)
 ·refine ax.fc (dr ?_);refine ae.dz 2 0 I ah7 (aaD h) I I q5 I λ⟨⟨bf,h⟩,au⟩=>ae.dd ?_;refine qA afv afw {sO:=bf.1:nW} (ot QR .nil) ?_;refine bn (Hy underlying167 I (ai I) (λ_ _ _ h=>abl h)) ?_;refine aP ?_;exact ah.bB h λc1 cY h=>ah.bB h λbH fy h=>ae.n2 (k':=Cell.oc ({c1 with lI:=(gT.od ({sO:=bf.1:nW}))}:iG)) 2 I ((aO.id iG).comp FL) (v:=((gT.od ({sO:=bf.1:nW})):gT)) HS (ai I) (ai I) (xn cY) I I I I (dh fy) (ae.nil (eA 0 (hm bH () h)))
 refine aP ?_;refine AF (γ:=Unit) h 2 [0,1,2,4,5,6,7,8,9,16,34,42,50] (λm2 g2=>[]) (λm2 g2=>[]) (λm2 g2=>aY m2) (λm2 g2 h=>?_) (λhm ak h=>?_) (λhm ak h=>?_)
 ·exact eA 0 (hm m2 () h)
 ·refine aP ?_;refine ah.bB h λbP dI h=>ah.bB h λbI fN h=>ax.e4 8 ?_;refine aP ?_;refine ah.bB h λm3 fE h=>xU (γ:=Unit) 2 [0,1,2,4,5,6,7,8,9,11,16,34,42,50,61] (λg3=>[(10,J.of m3)]) (λg3=>[]) (λg3=>aY a2.2) (λg3=>?_) (λhm ak=>?_) (λhm ak=>?_)
  ·refine aP ?_;refine ae.C1 (α:=Vector aX 4) (β:=Ref) 2 I (Cell.ml ([]:aa ((Vector aX 4)×Ref))) (λ_=>rfl) I λa3 akA=>?_;replace h:=ah.nZ h a3 akA;refine ah.bB h λz2 jZ h=>lC jZ (kt (b:= {tJ:=aH.2,gr:=m3,si:=(⟨some a3.1⟩:dZ):k7}) I afx afy (.cons Qt I (ai I) I (.cons J5 I (ai I) I (.cons Bt I (ai I) I (.nil))))) ?_;refine bn (Hy underlying170 I (ai I) (λ_ _ _ h=>abm h)) ?_;refine aP ?_;exact ah.bB h λc2 en h=>ah.bB h λcw xG h=>ae.n2 (k':=Cell.oc ({c2 with lI:=(gT.oe z2)}:iG)) 2 I ((aO.id iG).comp FL) (v:=((gT.oe z2):gT)) HS (ai I) (ai I) (xn en) I I I I (dh xG) (ae.nil (eA 0 (hm cw () h)))
  ·have h:=gd ak fE;exact go
  have h:=gf ak fE;exact go
 refine aP ?_;refine ah.bB h λbZ hZ h=>gj 0 ah8 (ZZ hZ) λcD=>?_;refine ae.Ub 4 2 (Cell.sF bZ cD.2.1 cD.2.2) I I I I j8 λa4 akB akC=>?_;replace h:=ah.nZ (h (cD.2.1,cD.2.2)) a4 akB;refine ae.Uc 37 I akC (qA afz afA {cK:=(some a4.1:Ref):nX} (ot QS .nil) ?_);refine bn (Hy underlying174 I (ai I) (λ_ _ _ h=>abn h)) ?_;refine aP ?_;exact ah.bB h λdM jF h=>ah.bB h λgC Dn h=>ae.n2 (k':=Cell.oc ({dM with lI:=(gT.og ({cK:=(some a4.1:Ref):nX}))}:iG)) 2 I ((aO.id iG).comp FL) (v:=((gT.og ({cK:=(some a4.1:Ref):nX})):gT)) HS (ai I) (ai I) (xn jF) I I I I (dh Dn) (ae.nil (eA 0 (hm gC () h)))
def ZD{ab aj r}(h:Gl ab aj=some r):cn prog 59 [J.ptr ab,J.ptr aj] (J.of r):=by
 unfold Gl at h;refine cn.of func59 I ntmps59 I λW A=>?_;exact go
instance:pj prog 61 _ _ _ _ GJ J.of J.of J.of (λr=>J.bR [J.of r.1,J.of r.2]):=.i func61 I ntmps61 I λab aj aI r h W A=>by
 unfold GJ at h;refine aP (λbg bE cx an bs aW dq h=>?_);refine ae.share (α:=Int) 1 5 I I (bn (xm (F:=(λa0=>Gd a0 aI)) (τs:=[J.ptr aI]) afB ⟨ai I,trivial⟩ (λ_ _ h=>Zd h)) ?_);refine aB h λaH b5 h=>nE afC (X8 b5) ?_;exact go
def ZE{ab aj r}(h:Gm ab aj=some r):cn prog 66 [J.ptr ab,J.ptr aj] (J.of r):=by
 unfold Gm at h;refine cn.of func66 I ntmps66 I λW A=>?_;exact go
instance Vu:eV prog 111 _ _ _ wX J.of J.of (λr=>J.bR [J.of r.1,J.of r.2]):=.i func111 I ntmps111 I λab aj r h W A=>by
 unfold wX at h;exact go
def aak{ab aj r}(h:K0 ab aj=some r):cn prog 114 [J.of ab,J.of aj] (J.of r):=by
 unfold K0 at h;refine cn.of func114 I ntmps114 I λW A=>?_;exact go
def YX{ab cG r}(h:BY ab=some r):vY prog 14 [J.cV cG] cG ab (J.of r.1) r.2:=by
 unfold BY at h;refine bJ.of func14 I ntmps14 I λW A=>cf (bn (cP (look_nil (α:=ee))) ?_);refine aP ?_;refine ae.bV 0 I (aB h λan bs h=>gj 1 jV (jP bs) λau=>?_);refine aB h λaW dq h=>N9 dq underlying39 cr ?_;refine db (kQ cr) ?_;refine bn (sh (b:=({(default:ee)with b2:=1,jk:=1,qe:=4,hV:=aF ([0,0,65535,3]:aa Int) aW}:ee)) [3] S7 I afD Ud (.cons Q0 I (c8 1) I (by rfl) (.cons QE I (c8 1) I (by rfl) (.cons QF I (c8 4) I (by rfl) (.cons Qz I (ai I) I (by rfl) (.nil)))))) ?_;refine ae.own (α:=hB) 112 (ae.qg (z:=(default:ee)) [3] S7 Ud I λbg=>ae.own (α:=hB) 112 (ae.tB (i:=1) Ue (ai I) (ai I) I (gB (bn (kt (b:=({(default:aX)with dp:=1#64}:aX)) I Dp xH (.cons se I (xe 1 I) I (.nil))) ?_))));refine bn (kt (b:=({(default:aX)with dp:=15#64}:aX)) I Dp xH (.cons se I (xe 15 I) I (.nil))) ?_;refine aB h λbr eG h=>lC eG (kt (b:= {b3:=({(default:aX)with dp:=1#64}:aX),hF:=({(default:aX)with dp:=15#64}:aX),tC:=2:hB}) I Uf HT (.cons Kr I (ai I) I (.cons KC I (ai I) I (.cons KD I (c8 2) I (.nil))))) ?_;refine bn (kt (b:=({(default:aX)with dp:=2#64}:aX)) I Dp xH (.cons se I (xe 2 I) I (.nil))) ?_;refine bn (kt (b:=({(default:aX)with dp:=3#64}:aX)) I Dp xH (.cons se I (xe 3 I) I (.nil))) ?_;refine aB h λz2 jZ h=>lC jZ (kt (b:= {b3:=({(default:aX)with dp:=2#64}:aX),hF:=({(default:aX)with dp:=3#64}:aX),tC:=3:hB}) I Uf HT (.cons Kr I (ai I) I (.cons KC I (ai I) I (.cons KD I (c8 3) I (.nil))))) ?_;refine ae.rh (α:=hB) (r:=[br,z2]) underlying108 MP HT I I (.cons (by simp) (ai I) (.cons (by simp) (ai I) (.nil))) I λeU=>?_;refine db (cq acS.fd) ?_;refine ae.jS (i:=2) (γ:=hB) (b':=({({(default:ee)with b2:=1,jk:=1,qe:=4,hV:=aF ([0,0,65535,3]:aa Int) aW}:ee)with qZ:=[]}:ee)) (os':=[(3,aZ eU [br,z2].length 2)]) ((aO.id ee).comp F3) HU (ai I) (ai I) iI I I I I ?_;refine aP ?_;refine ae.bV 4 I (aB h λaH b5 h=>gj 1 o3 (oP b5) λcD=>b0 ?_);refine aB h λm1 b7 h=>iu (γ:=(av Nat×Nat)) [0,2,3,4,23] (λg1=>[]) (λg1=>[(0,bb cG m1.1),(1,⟨g1.1,.row 112 m1.2 g1.2⟩),(3,⟨some bg,.ck ({({(default:ee)with b2:=1,jk:=1,qe:=4,hV:=aF ([0,0,65535,3]:aa Int) aW}:ee)with qZ:=[]}:ee) [(3,aZ g1.1 m1.2.length g1.2)]⟩)]) (λg1=>?_) (λhm ak=>?_) λhm ak=>?_
 ·refine aP ?_;refine ae.bV 0 I (aB h λbf eM h=>gj 1 jV (jP eM) λgm=>?_);refine aP λbP dI z3 nG bE z4 vD cx h=>?_;refine ae.bV 2 I (aB h λbI fN h=>gj 1 jV (jP fN) λlD=>?_);refine ea nz (b0 ?_);refine aB h λm2 dy h=>iu (γ:=Unit) [0,2,3,4,5,6,23,50] (λg2=>[]) (λg2=>[(0,bb cG m2.1),(1,bb cx m2.2)]) (λg2=>?_) (λhm ak=>?_) λhm ak=>?_
  ·exact aq.next (cf (ae.pM (β:=ee) (γ:=hB) (b':=({({(default:ee)with b2:=1,jk:=1,qe:=4,hV:=aF ([0,0,65535,3]:aa Int) aW}:ee)with qZ:=m1.2}:ee)) ((aO.id ee).comp F3) 5 3 0 I I I I I I (ae.ql 5 I go)))
  ·have h:=gd ak dy;refine aP ?_;refine ae.bV 0 I (aB h λbZ hZ h=>gj 1 jV (jP hZ) λiC=>?_);exact go
  have h:=gf ak dy;exact go
 ·have h:=gd ak b7;refine aB h λcS iw h=>aB h λl0 AG h=>aB h λdg lP h=>aB h λdc jt h=>aB h λjc DU h=>aB h λeB qB h=>gu [0,2,3,4,7,8,9,10,11,12,13,14,15,16,17,18,19,20,21,22,23] ?_;refine ax.bU 5 (aM 24 [] [] _::aM 25 [0] [3] (J.eq (aZ eU [br,z2].length 2))::aM 26 [] [] _::⟨some 27,[2],[0],[0],λ_=>J.of cS.1,λhd _=>bb cG cS.2⟩::aM 28 [3] [] _::aM 29 [4] [] _::aM 30 [5] [] _::aM 31 [] [] _::aM 32 [] [] _::aM 33 [] [] _::⟨some 34,[3,9],[0],[0],λ_=>J.of dg.1,λhd _=>bb cG dg.2⟩::aM 35 [8,10] [] _::aM 36 [11] [] _::aM 37 [6,7,12] [] _::aM 38 [13] [] _::⟨some 39,[1,14],[1],[1],λhd=>J.eq (aZ (hd 15 0) eB.length ((hd 15 1).getD 0)),λhd _=>⟨(hd 15 0),.row 112 eB ((hd 15 1).getD 0)⟩⟩::aM 40 [] [] _::j5 [1,15,16] [3] [3] (λhd=>⟨some bg,.ck ({({(default:ee)with b2:=1,jk:=1,qe:=4,hV:=aF ([0,0,65535,3]:aa Int) aW}:ee)with qZ:=[]}:ee) [(3,aZ (hd 15 0) eB.length ((hd 15 1).getD 0))]⟩)::[]) (eQ ?_ (eQ ?_ (eQ ?_ (eQ ?_ (eQ ?_ jJ))))) (λdJ=>?_)
  ·exact fS.q (pk λhd E' L' aK ar=>fQ (i:=3) (q:=0) (β:=ee) (γ:=hB) HU (ai (aK _ _ I)) (ar 3 _ I I) I)
  ·intro hd E' L' aK ar cb;exact ae.bV 0 (ar 0 _ I I) (ae.pI (Lin:=[bb cG aH.2]) (Lr:=L'.eraseIdx 0) jV (jP iw) ⟨ai (aK _ _ I),c8 2,trivial⟩ I λoJ=>ae.nil (aq.back 0 (ar 0 _ I I) (aq.fin (fe []) I I)))
  ·intro hd E' L' aK ar cb;exact ae.bV 0 (ar 0 _ I I) (ae.pI (Lin:=[bb cG cS.2]) (Lr:=L'.eraseIdx 0) jV (jP lP) ⟨ai (aK _ _ I),c8 4,trivial⟩ I λJl=>ae.nil (aq.back 0 (ar 0 _ I I) (aq.fin (fe []) I I)))
  ·intro hd E' L' aK ar cb;refine ae.app (i:=1) underlying108 MP HT (bytes:=40) (by kernel_rfl) (ai (aK _ _ I)) (ar 1 _ I I) (ai (aK _ _ I)) qB I λfL c5=>?_;exact ae.nil (aq.fin (fe [fL,some c5]) I I)
  ·intro hd E' L' aK ar cb;refine ae.jS (i:=3) (γ:=hB) (b':=({({(default:ee)with b2:=1,jk:=1,qe:=4,hV:=aF ([0,0,65535,3]:aa Int) aW}:ee)with qZ:=[]}:ee)) (os':=[(3,aZ (hd 15 0) eB.length ((hd 15 1).getD 0))]) ((aO.id ee).comp F3) HU (ai (aK _ _ I)) (ai (aK _ _ I)) iI (ar 3 _ I I) I I I (ae.nil ?_);exact aq.fin (fe []) I I
  refine aq.ep (L2:=[bb cG dg.2,⟨(dJ 15 0),.row 112 eB ((dJ 15 1).getD 0)⟩,⟨none,.row 112 ([]:aa hB) 0⟩,⟨some bg,.ck ({({(default:ee)with b2:=1,jk:=1,qe:=4,hV:=aF ([0,0,65535,3]:aa Int) aW}:ee)with qZ:=[]}:ee) [(3,aZ (dJ 15 0) eB.length ((dJ 15 1).getD 0))]⟩,⟨none,.row 112 ([]:aa hB) 0⟩]) I (ix ?_);cases h;exact eA 0 (hm ((dJ 15 0),((dJ 15 1).getD 0)))
 have h:=gf ak b7;refine ax.skip ?_;cases h;exact eA 0 (hm (eU,2))
def YL{ab cG r}(h:wG ab=some r):vY prog 15 [J.cV cG] cG ab (J.of r.1) r.2:=by
 unfold wG at h;refine bJ.of func15 I ntmps15 I λW A=>cf (bn (cP (look_nil (α:=eD))) ?_);refine aP λbg=>?_;refine aB h λbr eG h=>aB h λz2 jZ h=>aB h λz3 nG h=>aB h λz4 vD h=>aB h λz5 DV h=>aB h λnb DW h=>aB h λl0 AG h=>aB h λjc DU h=>aB h λz9 DX h=>aB h λmV Ih h=>aB h λpQ Vv h=>aB h λz12 Dq h=>aB h λlQ Nw h=>aB h λan bs h=>aB h λnH Nx h=>aB h λaH b5 h=>aB h λry Ny h=>aB h λxV ah9 h=>aB h λz17 aia h=>ax.qs 1 (gu [0,2,3,5] ?_);refine ax.bU 3 (aM 6 [] [] _::aM 7 [] [] _::aM 8 [1] [] _::aM 9 [2] [] _::aM 10 [] [] _::aM 11 [4] [] _::aM 12 [] [0] _::aM 13 [6] [] _::aM 14 [7] [] _::aM 15 [5,8] [] _::aM 16 [] [] _::aM 17 [10] [] _::aM 18 [] [0] _::aM 19 [12] [] _::aM 20 [] [] _::aM 21 [14] [] _::aM 22 [13,15] [] _::aM 23 [11,16] [] _::aM 24 [] [] _::aM 25 [] [] _::aM 26 [18,19] [] _::aM 27 [] [] _::aM 28 [] [0] _::aM 29 [22] [] _::aM 30 [] [] _::aM 31 [24] [] _::aM 32 [21,23,25] [] _::aM 33 [20,26] [] _::aM 34 [] [] _::⟨some 35,[28],[1],[1],λ_=>J.of an.1,λhd _=>bb cG an.2⟩::aM 36 [29] [] _::aM 37 [30] [] _::aM 38 [] [] _::⟨some 39,[29,32],[1],[1],λ_=>J.of aH.1,λhd _=>bb cG aH.2⟩::aM 40 [33] [] _::aM 41 [34] [] _::aM 42 [35] [] _::aM 43 [36] [] _::aM 44 [31,37] [] _::aM 45 [38] [] _::⟨some 46,[0,3,9,17,27,39],[2],[2],λhd=>J.eq (aZ (hd 40 0) [br,z2,z5,jc,lQ,z17].length 6),λhd _=>⟨(hd 40 0),.row 105 ([br,z2,z5,jc,lQ,z17]:aa eD) 6⟩⟩::⟨some 4,[40],[],[],λhd=>J.eq (aZ (hd 40 0) [br,z2,z5,jc,lQ,z17].length 6),λ_ _=>⟨none,.dead⟩⟩::[]) (eQ ?_ (eQ ?_ (eQ ?_ (eQ ?_ jJ)))) (λdJ=>?_)
 ·intro hd E' L' aK ar cb;exact ae.bV 1 (ar 1 _ I I) (ae.pI (Lin:=[bb cG ab]) (Lr:=L'.eraseIdx 1) jV (jP bs) ⟨ai (aK _ _ I),c8 2,trivial⟩ I λau=>ae.nil (aq.back 1 (ar 1 _ I I) (aq.fin (fe []) I I)))
 ·intro hd E' L' aK ar cb;exact ae.bV 1 (ar 1 _ I I) (ae.pI (Lin:=[bb cG an.2]) (Lr:=L'.eraseIdx 1) jV (jP b5) ⟨ai (aK _ _ I),c8 256,trivial⟩ I λcD=>ae.nil (aq.back 1 (ar 1 _ I I) (aq.fin (fe []) I I)))
 ·intro hd E' L' aK ar cb;refine ae.rh (α:=eD) (r:=[br,z2,z5,jc,lQ,z17]) underlying26 tK afE I I (.cons (by simp) (ai (aK _ _ I)) (.cons (by simp) (ai (aK _ _ I)) (.cons (by simp) (ai (aK _ _ I)) (.cons (by simp) (ai (aK _ _ I)) (.cons (by simp) (ai (aK _ _ I)) (.cons (by simp) (ai (aK _ _ I)) (.nil))))))) I λeU=>?_;exact ae.nil (aq.place 2 (ar 2 _ I I) (aq.fin (fe [eU]) I I))
 ·intro hd E' L' aK ar cb;refine bn (cP (ai (aK _ _ I))) (ae.nil ?_);exact aq.fin (fe []) I I
 refine aq.ep (L2:=[bb bg ({(default:ig)with du:=3}:ig),bb cG aH.2,⟨(dJ 40 0),.row 105 ([br,z2,z5,jc,lQ,z17]:aa eD) 6⟩]) I (ix ?_);refine aq.bV 2 I (aP ?_);refine ae.bV 2 I (aB h λbf eM h=>gj 1 o3 (oP eM) λgm=>b0 ?_);refine aB h λm1 b7 h=>iu (γ:=(av Nat×Nat)) [0,2,3,48] (λg1=>[(4,J.eq (aZ g1.1 m1.length g1.2))]) (λg1=>[(1,⟨g1.1,.row 105 m1 g1.2⟩)]) (λg1=>?_) (λhm ak=>?_) λhm ak=>?_
 ·refine aP ?_;refine ae.bV 0 I (aB h λbI fN h=>gj 1 o3 (oP fN) λlD=>b0 ?_);refine aB h λm2 dy h=>iu (γ:=(av Nat×Nat)) [0,2,3,48,53] (λg2=>[(4,J.eq (aZ g2.1 m2.length g2.2))]) (λg2=>[(1,⟨g2.1,.row 105 m2 g2.2⟩)]) (λg2=>?_) (λhm ak=>?_) λhm ak=>?_
  ·refine aP ?_;exact aq.ku (α:=eD) 1 [2,4,57] ⟨rfl,rfl,rfl,trivial⟩ I go
  ·have h:=gd ak dy;refine ax.fc (dr ?_);refine aB h λaW dq h=>bn (mO (i:=1) (k:=aW) (xs:=(m1:aa eD)) underlying26 tK (ai I) (c8 4) I (dt dq)) ?_;refine db (cq LY.fd) ?_;refine aB h λvE Ii h=>ae.tD (i:=1) (k:=aW) ((aO.id eD).comp Fy) (v:=(ByteArray.mk #[120,32,60,32,121,32,124,124,32,120,32,61,61,32,49,53]:ByteArray)) (r:=(vE:aa eD)) kB (ai I) (fJ (ByteArray.mk #[120,32,60,32,121,32,124,124,32,120,32,61,61,32,49,53])) I (dt dq).1 I (dh Ii) (ae.mg (m:=vE.length) 4 I (mN (dh Ii)) (ae.mg (m:=vE.length) 54 I (mN (dh Ii)) (ae.nil ?_)));cases h;exact eA 0 (hm (g1.1,g1.2))
  have h:=gf ak dy;refine ax.skip ?_;cases h;exact eA 0 (hm (g1.1,g1.2))
 ·have h:=gd ak b7;refine ax.fc (dr ?_);refine aB h λbP dI h=>bn (mO (i:=1) (k:=bP) (xs:=([br,z2,z5,jc,lQ,z17]:aa eD)) underlying26 tK (ai I) (c8 2) I (dt dI)) ?_;refine db (cq LY.fd) ?_;refine aB h λtZ Dr h=>ae.tD (i:=1) (k:=bP) ((aO.id eD).comp Fy) (v:=(ByteArray.mk #[112,111,114,116,32,33,61,32,48]:ByteArray)) (r:=(tZ:aa eD)) kB (ai I) (fJ (ByteArray.mk #[112,111,114,116,32,33,61,32,48])) I (dt dI).1 I (dh Dr) (ae.mg (m:=tZ.length) 4 I (mN (dh Dr)) (ae.mg (m:=tZ.length) 46 I (mN (dh Dr)) (ae.mg (m:=tZ.length) 49 I (mN (dh Dr)) (ae.nil ?_))));cases h;exact eA 0 (hm ((dJ 40 0),6))
 have h:=gf ak b7;refine ax.skip ?_;cases h;exact eA 0 (hm ((dJ 40 0),6))
def YY{ab cG r}(h:BZ ab=some r):vY prog 16 [J.cV cG] cG ab (J.of r.1) r.2:=by
 unfold BZ at h;refine bJ.of func16 I ntmps16 I λW A=>cf (bn (cP (look_nil (α:=bC))) ?_);refine aP λbr eG h=>?_;refine ae.bV 0 I (aB h λan bs h=>gj 1 jV (jP bs) λau=>?_);refine aP ?_;refine ae.bV 0 I (aB h λaH b5 h=>gj 1 jV (jP b5) λcD=>?_);refine ea ky ?_;refine aB h λz2 jZ h=>lC jZ (kt (b:=({(default:bC)with b2:=1,cd:=ByteArray.mk #[112,111,114,116,115],ca:=[br],dD:=([1,2,4]:aa Int),hV:=bz (1+an.1),e3:=bz (2+aH.1)}:bC)) I Ij qt (.cons wR I (c8 1) I (.cons Ge I (fJ (ByteArray.mk #[112,111,114,116,115])) I (.cons nU I (ai I) I (.cons BI I (ai I) I (.cons FQ I (ai I) I (.cons zc I (ai I) I (.nil)))))))) ?_;refine rz qt λbg=>?_;refine DY 0 jW (gB ?_);refine aB h λz3 nG h=>lC nG (kt (b:= {cd:=ByteArray.mk #[100],hE:=7,du:=2:c3}) I Ik sG (.cons Co I (fJ (ByteArray.mk #[100])) I (.cons Cj I (c8 7) I (.cons wS I (c8 2) I (.nil))))) ?_;refine ae.rh (α:=c3) (r:=[z3]) underlying38 ri sG I I (.cons (by simp) (ai I) (.nil)) I λeU=>?_;refine aP ?_;refine ae.bV 2 I (aB h λbf eM h=>gj 1 jV (jP eM) λgm=>?_);refine ea ky ?_;refine bn (sh (b:=({(default:bC)with b2:=2,cd:=ByteArray.mk #[114,111,117,116,101,115],dD:=([1,2,3,4]:aa Int),hV:=2,e3:=bz (3+bf.1)}:bC)) [] Ml I Ij qt (.cons wR I (c8 2) I (by rfl) (.cons Ge I (fJ (ByteArray.mk #[114,111,117,116,101,115])) I (by rfl) (.hole nU I (ai I) iI I I (.cons BI I (ai I) I (by rfl) (.cons FQ I (c8 2) I (by rfl) (.cons zc I (ai I) I (by rfl) (.nil)))))))) ?_;refine ae.qg (z:=(default:bC)) [2] Mm qt I λbE=>ae.own (α:=c3) 54 (ae.tB (i:=1) jW (ai I) (ai I) I ?_);refine aP ?_;refine ae.bV 2 I (aB h λbI fN h=>gj 1 o3 (oP fN) λlD=>b0 ?_);refine aB h λm1 b7 h=>iu (γ:=(av Nat×Nat)) [0,2,3,4,28] (λg1=>[]) (λg1=>[(2,⟨some bE,.ck m1.1 [(2,aZ g1.1 m1.2.length g1.2)]⟩),(3,⟨g1.1,.row 54 m1.2 g1.2⟩)]) (λg1=>?_) (λhm ak=>?_) λhm ak=>?_
 ·refine aq.next (cf (aB h λz4 vD h=>lC vD (kt (b:= {cd:=ByteArray.mk #[101],hE:=6,du:=3:c3}) I Ik sG (.cons Co I (fJ (ByteArray.mk #[101])) I (.cons Cj I (c8 6) I (.cons wS I (c8 3) I (.nil))))) ?_))
  refine aB h λz5 DV h=>lC DV (kt (b:= {cd:=ByteArray.mk #[97],hE:=4,du:=3:c3}) I Ik sG (.cons Co I (fJ (ByteArray.mk #[97])) I (.cons Cj I (c8 4) I (.cons wS I (c8 3) I (.nil))))) ?_;refine ae.rh (α:=c3) (r:=[z4,z5]) underlying38 ri sG I I (.cons (by simp) (ai I) (.cons (by simp) (ai I) (.nil))) I λfL=>?_;refine aP ?_;refine ae.bV 1 I (aB h λbZ hZ h=>gj 1 jV (jP hZ) λiC=>?_);refine ea ky ?_;refine bn (sh (b:=({(default:bC)with b2:=3,cd:=ByteArray.mk #[97,99,108],dD:=([1,2,3,5,6]:aa Int),hV:=1,e3:=bz (4+bZ.1)}:bC)) [] Ml I Ij qt (.cons wR I (c8 3) I (by rfl) (.cons Ge I (fJ (ByteArray.mk #[97,99,108])) I (by rfl) (.hole nU I (ai I) iI I I (.cons BI I (ai I) I (by rfl) (.cons FQ I (c8 1) I (by rfl) (.cons zc I (ai I) I (by rfl) (.nil)))))))) ?_;refine ae.qg (z:=(default:bC)) [2] Mm qt I λcx=>ae.own (α:=c3) 54 (ae.tB (i:=1) jW (ai I) (ai I) I ?_);refine aP ?_;refine ae.bV 2 I (aB h λcS iw h=>gj 1 o3 (oP iw) λoJ=>b0 ?_);refine aB h λm2 dy h=>iu (γ:=(av Nat×Nat)) [0,2,3,4,5,28,44] (λg2=>[]) (λg2=>[(2,⟨some cx,.ck m2.1 [(2,aZ g2.1 m2.2.length g2.2)]⟩),(3,⟨g2.1,.row 54 m2.2 g2.2⟩)]) (λg2=>?_) (λhm ak=>?_) λhm ak=>?_
  ·refine aq.next (cf (aB h λnb DW h=>lC DW (kt (b:= {cd:=ByteArray.mk #[102],hE:=8,du:=4:c3}) I Ik sG (.cons Co I (fJ (ByteArray.mk #[102])) I (.cons Cj I (c8 8) I (.cons wS I (c8 4) I (.nil))))) ?_))
   refine ae.rh (α:=c3) (r:=[nb]) underlying38 ri sG I I (.cons (by simp) (ai I) (.nil)) I λoh=>?_;refine aP ?_;refine ae.bV 1 I (aB h λdg lP h=>gj 1 jV (jP lP) λJl=>?_);refine ea ky ?_;refine bn (sh (b:=({(default:bC)with b2:=4,cd:=ByteArray.mk #[115,112,97,110,115],dD:=([1,3,5]:aa Int),hV:=3,wY:=[({(default:aX)with dp:=7#64}:aX)],e3:=bz (3+dg.1)}:bC)) [] Ml I Ij qt (.cons wR I (c8 4) I (by rfl) (.cons Ge I (fJ (ByteArray.mk #[115,112,97,110,115])) I (by rfl) (.hole nU I (ai I) iI I I (.cons BI I (ai I) I (by rfl) (.cons FQ I (c8 3) I (by rfl) (.cons Yb I (ai I) I (by rfl) (.cons zc I (ai I) I (by rfl) (.nil))))))))) ?_;refine ae.qg (z:=(default:bC)) [2] Mm qt I λeN=>ae.own (α:=c3) 54 (ae.tB (i:=1) jW (ai I) (ai I) I ?_);refine aP ?_;refine ae.bV 2 I (aB h λeB qB h=>gj 1 o3 (oP qB) λO6=>b0 ?_);refine aB h λm3 fE h=>iu (γ:=(av Nat×Nat)) [0,2,3,4,5,6,28,44,61] (λg3=>[]) (λg3=>[(2,⟨some eN,.ck m3.1 [(2,aZ g3.1 m3.2.length g3.2)]⟩),(3,⟨g3.1,.row 54 m3.2 g3.2⟩)]) (λg3=>?_) (λhm ak=>?_) λhm ak=>?_
   ·refine aq.next (cf (o6 10 jW ?_))
    refine ae.pM (β:=bC) (γ:=c3) (b':=({m1.1 with ca:=m1.2}:bC)) ((aO.id bC).comp nU) 8 9 0 I I I I I I (ae.ql 8 I (o6 8 jW ?_));refine ae.pM (β:=bC) (γ:=c3) (b':=({m2.1 with ca:=m2.2}:bC)) ((aO.id bC).comp nU) 5 6 0 I I I I I I (ae.ql 5 I (o6 5 jW ?_));refine ae.pM (β:=bC) (γ:=c3) (b':=({m3.1 with ca:=m3.2}:bC)) ((aO.id bC).comp nU) 2 3 0 I I I I I I (ae.ql 2 I (o6 2 jW ?_));refine aB h λl0 AG h=>ae.Vw (α:=bC) (r0:=[z2,({m1.1 with ca:=m1.2}:bC),({m2.1 with ca:=m2.2}:bC),({m3.1 with ca:=m3.2}:bC)]) (r:=l0) underlying27 jW qt I I (.cons (by simp) (ai I) (.cons (by simp) (ai I) (.cons (by simp) (ai I) (.cons (by simp) (ai I) (.nil))))) (dh AG) I λAm=>?_;refine aP λjc DU z9 DX mV Ih pQ Vv h=>?_;refine bn (q2 (i:=0) underlying27 (ai I) I I) ?_;refine dr (b0 (ax.block ?_));refine aB h λaz ao h=>hx (γ:=(av Nat×Nat)) (δ:=(av Nat×Nat)) ao [0,2,3,4,5,6,8,28,44,61,80] (λs1 g4=>[(7,J.eq (aZ g4.1 s1.2.1.length g4.2)),(81,J.of s1.1)]) (λs1 g4=>[(0,⟨g4.1,.row 42 s1.2.1 g4.2⟩),(1,bb cG s1.2.2)]) (λs5=>Exit.exit 0) (λs5 g4=>[(7,J.eq (aZ g4.1 s5.2.2.1.length g4.2)),(81,J.of s5.1),(82,J.of s5.2.1)]) (λs5 g4=>[(0,⟨g4.1,.row 42 s5.2.2.1 g4.2⟩),(1,bb cG s5.2.2.2)]) (Am,4) (λs1 r h g4=>?_) λg4=>?_
    ·refine go2 (λh=>?_) (λh=>?_)
     ·refine aB h λaW dq h=>aB h λiD xW h=>aB h λbP dI h=>aB h λdc jt h=>aB h λz12 Dq h=>gu [0,2,3,4,5,6,7,8,9,28,44,61,80,81,82,83] ?_;refine ax.O7 mixed (aM 84 [] [] _::aM 85 [] [] _::aM 86 [] [] _::aM 87 [] [] _::aM 88 [2,3] [] _::aM 89 [4] [] _::aM 90 [] [] _::⟨some 91,[6],[1],[1],λ_=>J.of iD.1,λhd _=>bb cG iD.2⟩::aM 92 [5,7] [] _::aM 93 [8] [] _::aM 94 [0,1] [0] _::aM 95 [10] [] _::j5 [9,10,11] [0] [0] (λhd=>⟨g4.1,.row 42 z12 g4.2⟩)::[]) ⟨pn,pn,pn,pn,iP λaK ar=>o0 (k:=aW) underlying120 MQ (ai (aK _ _ I)) (ai (aK _ _ I)) (dt dq),po (kQ MQ),pn,?_,iP λaK ar=>o0 (k:=bP) underlying119 kB (ai (aK _ _ I)) (ai (aK _ _ I)) (dt dI),po (kQ kB),iP λaK ar=>mO (i:=0) (k:=dc) (xs:=(s1.2.1:aa bC)) underlying27 jW (ai (aK _ _ I)) (ai (aK _ _ I)) (ar 0 _ I I) (dt jt),po (cq C2.fd),?_,trivial⟩ λdJ=>?_
      ·intro hd E' L' aK ar;refine ae.bV 1 (ar 1 _ I I) (ae.pI (Lin:=[bb cG s1.2.2]) (Lr:=L'.eraseIdx 1) jV (jP xW) ⟨ai (aK _ _ I),c8 3,trivial⟩ I λWv=>ae.nil (aq.back 1 (ar 1 _ I I) ?_));exact aq.fin (fe []) I I
      ·intro hd E' L' aK ar;refine ae.tD (i:=0) (k:=dc) ((aO.id bC).comp yW) (v:=(aF (aF [jc,z9,mV,pQ] aW) bP:ByteArray)) (r:=(z12:aa bC)) kB (ai (aK _ _ I)) (ai (aK _ _ I)) (ar 0 _ I I) (dt jt).1 I (dh Dq) (ae.nil ?_);exact aq.fin (fe []) I I
      refine aq.ep (L2:=[⟨g4.1,.row 42 z12 g4.2⟩,bb cG iD.2,⟨none,.row 54 ([]:aa c3) 0⟩,bb eN ({m3.1 with ca:=m3.2}:bC),⟨none,.dead⟩,⟨none,.row 54 ([]:aa c3) 0⟩,bb cx ({m2.1 with ca:=m2.2}:bC),⟨none,.dead⟩,⟨none,.row 54 ([]:aa c3) 0⟩,bb bE ({m1.1 with ca:=m1.2}:bC),⟨none,.dead⟩,bb bg z2]) I (aq.mg (m:=z12.length) 7 I (mN (dh Dq)) (aq.mg (m:=z12.length) 84 I (mN (dh Dq)) (ix ?_)));refine aP ?_;cases h;exact lq (g4.1,g4.2) 0
     cases h;exact kg (g4.1,g4.2) 0
    refine aP ?_;exact aq.ku (α:=bC) 0 [2,7,97] ⟨rfl,rfl,rfl,trivial⟩ I go
   ·have h:=gd ak fE;refine ax.fc (db (cq sn.fd) ?_);refine bn (fQ (i:=2) (q:=0) (β:=bC) (γ:=c3) rj (ai I) I I) ?_;refine aP λlQ Nw nH Nx h=>?_;refine aB h λiy xI h=>iv 3 underlying38 ri sG xI λxJ c5=>?_;refine db (cq sn.fd) ?_;refine ae.jS (i:=2) (γ:=c3) (b':=({({(default:bC)with b2:=4,cd:=ByteArray.mk #[115,112,97,110,115],dD:=([1,3,5]:aa Int),hV:=3,wY:=[({(default:aX)with dp:=7#64}:aX)],e3:=bz (3+dg.1)}:bC)with ca:=[]}:bC)) (os':=[(2,aZ xJ iy.length c5)]) ((aO.id bC).comp nU) rj (ai I) (ai I) iI I I I I (ae.nil ?_);cases h;exact eA 0 (hm (xJ,c5))
   have h:=gf ak fE;refine ax.skip ?_;cases h;exact eA 0 (hm (oh,1))
  ·have h:=gd ak dy;refine ax.fc (db (cq sn.fd) ?_);refine bn (fQ (i:=2) (q:=0) (β:=bC) (γ:=c3) rj (ai I) I I) ?_;refine aP λry Ny h=>?_;refine aB h λou Ds h=>iv 3 underlying38 ri sG Ds λVx oi=>?_;refine db (cq sn.fd) ?_;refine ae.jS (i:=2) (γ:=c3) (b':=({({(default:bC)with b2:=3,cd:=ByteArray.mk #[97,99,108],dD:=([1,2,3,5,6]:aa Int),hV:=1,e3:=bz (4+bZ.1)}:bC)with ca:=[]}:bC)) (os':=[(2,aZ Vx ou.length oi)]) ((aO.id bC).comp nU) rj (ai I) (ai I) iI I I I I (ae.nil ?_);cases h;exact eA 0 (hm (Vx,oi))
  have h:=gf ak dy;refine ax.skip ?_;cases h;exact eA 0 (hm (fL,2))
 ·have h:=gd ak b7;refine ax.fc (db (cq sn.fd) ?_);refine bn (fQ (i:=2) (q:=0) (β:=bC) (γ:=c3) rj (ai I) I I) ?_;refine aP λxV ah9 h=>?_;refine aB h λkC Dt h=>iv 3 underlying38 ri sG Dt λVy xK=>?_;refine db (cq sn.fd) ?_;refine ae.jS (i:=2) (γ:=c3) (b':=({({(default:bC)with b2:=2,cd:=ByteArray.mk #[114,111,117,116,101,115],dD:=([1,2,3,4]:aa Int),hV:=2,e3:=bz (3+bf.1)}:bC)with ca:=[]}:bC)) (os':=[(2,aZ Vy kC.length xK)]) ((aO.id bC).comp nU) rj (ai I) (ai I) iI I I I I (ae.nil ?_);cases h;exact eA 0 (hm (Vy,xK))
 have h:=gf ak b7;refine ax.skip ?_;cases h;exact eA 0 (hm (eU,1))
def Zf{ab aj cG r}(h:ti ab aj=some r):vY prog 17 [J.cV cG,J.of aj] cG ab (J.of r.1) r.2:=by
 unfold ti at h;refine bJ.of func17 I ntmps17 I λW A=>cf (bn (cP (look_nil (α:=cL))) (gB ?_));refine Oa ([1,2,3,4,5,6]:aa Int) underlying39 cr xX ?_;refine bn (sh (b:=({(default:cL)with b2:=1,cd:=ByteArray.mk #[97,108,108],dD:=([1,2,3,4,5,6]:aa Int),jD:=40,CX:=true}:cL)) [2] zR I MR Ad (.cons GH I (c8 1) I (by rfl) (.cons KE I (fJ (ByteArray.mk #[97,108,108])) I (by rfl) (.cons FZ I (ai I) I (by rfl) (.cons Ca I (c8 40) I (by rfl) (.cons Zg I (gI true) I (by rfl) (.nil))))))) ?_;refine ae.own (α:=dU) 126 (ae.qg (z:=(default:cL)) [2] zR Ad I λbg=>ae.own (α:=dU) 126 (ae.tB (i:=1) vk (ai I) (ai I) I ?_));refine aP ?_;refine ae.bV 3 I (aB h λan bs h=>gj 1 jV (jP bs) λau=>?_);refine aP ?_;refine ae.bV 0 I (aB h λaH b5 h=>gj 1 jV (jP b5) λcD=>?_);refine ea ky ?_;refine bn (sh (b:=({(default:cL)with b2:=2,cd:=ByteArray.mk #[115,111,109,101],dD:=([1,2,bz (3+an.1)]:aa Int),jD:=bz (1+aH.1)}:cL)) [2] zR I MR Ad (.cons GH I (c8 2) I (by rfl) (.cons KE I (fJ (ByteArray.mk #[115,111,109,101])) I (by rfl) (.cons FZ I (ai I) I (by rfl) (.cons Ca I (ai I) I (by rfl) (.nil)))))) ?_;refine ae.own (α:=dU) 126 (ae.qg (z:=(default:cL)) [2] zR Ad I λbE=>ae.own (α:=dU) 126 (ae.tB (i:=1) vk (ai I) (ai I) I ?_));refine aP ?_;refine ae.bV 3 I (aB h λbf eM h=>gj 1 jV (jP eM) λgm=>?_);refine aP ?_;refine ae.bV 0 I (aB h λbI fN h=>gj 1 jV (jP fN) λlD=>?_);refine bn (sh (b:=({(default:cL)with b2:=7,cd:=ByteArray.mk #[102,101,119],dD:=[bz (1+bf.1)],jD:=bI.1}:cL)) [2] zR I MR Ad (.cons GH I (c8 7) I (by rfl) (.cons KE I (fJ (ByteArray.mk #[102,101,119])) I (by rfl) (.cons FZ I (ai I) I (by rfl) (.cons Ca I (ai I) I (by rfl) (.nil)))))) ?_;refine ae.own (α:=dU) 126 (ae.qg (z:=(default:cL)) [2] zR Ad I λcx=>ae.own (α:=dU) 126 (ae.tB (i:=1) vk (ai I) (ai I) I ?_));refine aP ?_;refine aB h λaz ao h=>hx (γ:=(av Nat×Nat)×(av Nat×Nat)×(av Nat×Nat)) (δ:=(av Nat×Nat)×(av Nat×Nat)×(av Nat×Nat)) ao [0,1,4,5,6,7,30,31] (λs1 g1=>[(32,J.of s1.1)]) (λs1 g1=>[(1,⟨some cx,.ck s1.2.1 [(2,aZ g1.1.1 s1.2.2.1.length g1.1.2)]⟩),(2,⟨g1.1.1,.row 126 s1.2.2.1 g1.1.2⟩),(3,bb cG s1.2.2.2.1),(5,⟨some bE,.ck s1.2.2.2.2.1 [(2,aZ g1.2.1.1 s1.2.2.2.2.2.1.length g1.2.1.2)]⟩),(6,⟨g1.2.1.1,.row 126 s1.2.2.2.2.2.1 g1.2.1.2⟩),(8,⟨some bg,.ck s1.2.2.2.2.2.2.1 [(2,aZ g1.2.2.1 s1.2.2.2.2.2.2.2.length g1.2.2.2)]⟩),(9,⟨g1.2.2.1,.row 126 s1.2.2.2.2.2.2.2 g1.2.2.2⟩)]) (λiC=>Exit.exit 0) (λiC g1=>[(32,J.of iC.1),(33,J.of iC.2.1)]) (λiC g1=>[(1,⟨some cx,.ck iC.2.2.1 [(2,aZ g1.1.1 iC.2.2.2.1.length g1.1.2)]⟩),(2,⟨g1.1.1,.row 126 iC.2.2.2.1 g1.1.2⟩),(3,bb cG iC.2.2.2.2.1),(5,⟨some bE,.ck iC.2.2.2.2.2.1 [(2,aZ g1.2.1.1 iC.2.2.2.2.2.2.1.length g1.2.1.2)]⟩),(6,⟨g1.2.1.1,.row 126 iC.2.2.2.2.2.2.1 g1.2.1.2⟩),(8,⟨some bg,.ck iC.2.2.2.2.2.2.2.1 [(2,aZ g1.2.2.1 iC.2.2.2.2.2.2.2.2.length g1.2.2.2)]⟩),(9,⟨g1.2.2.1,.row 126 iC.2.2.2.2.2.2.2.2 g1.2.2.2⟩)]) ((none,0),(none,0),(none,0)) (λs1 r h g1=>?_) λg1=>?_
 ·refine go2 (λaW dq eN h=>?_) (λh=>?_)
  ·refine aB h λbZ hZ h=>ae.Ww underlying124 nF Wx I (by kernel_rfl) (ai I) (ai I) hZ I λeU=>?_;refine aP ?_;refine aB h λcS iw h=>ae.Ww underlying124 nF Wx I (by kernel_rfl) (ai I) (ai I) iw I λfL=>?_;refine aP ?_;refine bn (q2 (i:=1) underlying124 (ai I) I I) ?_;refine dr (b0 (ax.block ?_));refine aB h λa8 ao h=>hx (γ:=(av Nat×Nat)×(av Nat×Nat)) (δ:=(av Nat×Nat)×(av Nat×Nat)) ao [0,1,4,5,6,7,9,30,31,32,33,45] (λs2 g2=>[(10,J.eq (aZ g2.2.1 s2.2.2.1.length g2.2.2)),(11,J.eq (aZ g2.1.1 s2.2.1.length g2.1.2)),(46,J.of s2.1)]) (λs2 g2=>[(0,⟨g2.1.1,.row 4 s2.2.1 g2.1.2⟩),(1,⟨g2.2.1,.row 4 s2.2.2.1 g2.2.2⟩),(6,bb cG s2.2.2.2)]) (λoJ=>Exit.exit 2) (λoJ g2=>[(10,J.eq (aZ g2.2.1 oJ.2.2.2.1.length g2.2.2)),(11,J.eq (aZ g2.1.1 oJ.2.2.1.length g2.1.2)),(46,J.of oJ.1),(47,J.of oJ.2.1)]) (λoJ g2=>[(0,⟨g2.1.1,.row 4 oJ.2.2.1 g2.1.2⟩),(1,⟨g2.2.1,.row 4 oJ.2.2.2.1 g2.2.2⟩),(6,bb cG oJ.2.2.2.2)]) ((fL,cS.length),(eU,bZ.length)) (λs2 r h g2=>?_) λg2=>?_
   ·refine go2 (λh=>?_) (λh=>?_)
    ·refine ae.bV 6 I (aB h λdg lP h=>gj 1 jV (jP lP) λJl=>?_);refine ea Ae ?_;refine aB h λbP dI h=>bn (mO (i:=2) (k:=bP) (xs:=(s2.2.2.1:aa Bool)) underlying124 nF (ai I) (ai I) I (dt dI)) ?_;refine ae.tD (i:=2) (k:=bP) (aO.id Bool) (v:=true) (r:=(fi s2.2.2.1 bP true:aa Bool)) nF (ai I) (gI true) I (dt dI).1 I I (ae.mg (m:=(fi s2.2.2.1 bP true).length) 10 I (mN I) (ae.mg (m:=(fi s2.2.2.1 bP true).length) 49 I (mN I) (aB h λdc jt h=>bn (mO (i:=1) (k:=dc) (xs:=(s2.2.1:aa Bool)) underlying124 nF (ai I) (ai I) I (dt jt)) ?_)));refine ae.tD (i:=1) (k:=dc) (aO.id Bool) (v:=(decide (dg.1>0):Bool)) (r:=(fi s2.2.1 dc (decide (dg.1>0)):aa Bool)) nF (ai I) (ai I) I (dt jt).1 I I (ae.mg (m:=(fi s2.2.1 dc (decide (dg.1>0))).length) 11 I (mN I) (ae.mg (m:=(fi s2.2.1 dc (decide (dg.1>0))).length) 51 I (mN I) ?_));refine aP ?_;refine aq.bV 6 I (aq.bV 6 I (aq.bV 6 I (aq.bV 6 I (aq.bV 6 I (aq.bV 6 I ?_)))));cases h;exact lq ((g2.1.1,g2.1.2),(g2.2.1,g2.2.2)) 0
    cases h;exact kg ((g2.1.1,g2.1.2),(g2.2.1,g2.2.2)) 0
   refine aP ?_;refine bn (fQ (i:=11) (q:=0) (β:=cL) (γ:=dU) xw (ai I) I I) ?_;refine aP ?_;refine ae.ku (α:=Bool) 1 [63,10] ⟨rfl,rfl,trivial⟩ I (aP λbr eG h=>?_);refine aB h λeB qB h=>iv 12 underlying121 HV MS qB λoh c5=>?_;refine db (cq acT.fd) ?_;refine ae.jS (i:=11) (γ:=dU) (b':=({s1.2.2.2.2.2.2.1 with iV:=[]}:cL)) (os':=[(2,aZ oh eB.length c5)]) ((aO.id cL).comp wI) xw (ai I) (ai I) iI I I I I ?_;refine aP ?_;refine ae.bV 6 I (aB h λiD xW h=>gj 1 jV (jP xW) λO6=>?_);refine ea Ae (b0 ?_);refine ax.freeze (α:=Bool) 1 11 I I (aB h λm1 b7 h=>iu (γ:=(av Nat×Nat)) [0,1,4,5,6,7,9,10,11,30,31,32,33,45,46,47,70] (λg3=>[]) (λg3=>[(0,bb cG m1.1),(8,⟨some bE,.ck m1.2.1 [(2,aZ g3.1 m1.2.2.length g3.2)]⟩),(9,⟨g3.1,.row 126 m1.2.2 g3.2⟩)]) (λg3=>?_) (λhm ak=>?_) λhm ak=>?_)
   ·refine aq.next (cf (dr ?_))
    refine ae.bV 0 I (aB h λiy xI h=>gj 1 o3 (oP xI) λs5=>b0 ?_);refine aB h λm2 dy h=>iu (γ:=(av Nat×Nat)) [0,1,4,5,6,7,9,10,11,30,31,32,33,45,46,47,70,86] (λg4=>[]) (λg4=>[(0,bb cG m2.1),(5,⟨some cx,.ck m2.2.1 [(2,aZ g4.1 m2.2.2.length g4.2)]⟩),(6,⟨g4.1,.row 126 m2.2.2 g4.2⟩)]) (λg4=>?_) (λhm ak=>?_) λhm ak=>?_
    ·refine aP ?_;refine aq.bV 6 I (aq.bV 6 I (aq.bV 6 I (aq.bV 6 I (aq.bV 6 I (aq.bV 6 I ?_)))));cases h;exact lq ((g4.1,g4.2),(g3.1,g3.2),(oh,c5)) 3
    ·have h:=gd ak dy;refine aB h λou Ds h=>aB h λkC Dt h=>aB h λz2 jZ h=>aB h λqC Nz h=>gu [0,1,4,5,6,7,9,10,11,30,31,32,33,45,46,47,70,85,86] ?_;refine ax.bU 13 (aM 87 [] [] _::aM 88 [0] [5] (J.eq (aZ g1.1.1 s1.2.2.1.length g1.1.2))::aM 89 [] [] _::aM 90 [2] [3] _::aM 91 [] [] _::⟨some 92,[4],[0],[0],λ_=>J.of ou.1,λhd _=>bb cG ou.2⟩::aM 93 [] [] _::⟨some 94,[5,6],[0],[0],λ_=>J.of kC.1,λhd _=>bb cG kC.2⟩::aM 95 [] [] _::aM 96 [3,5,7,8] [] _::aM 97 [9] [] _::⟨some 98,[1,10],[6],[6],λhd=>J.eq (aZ (hd 11 0) qC.length ((hd 11 1).getD 0)),λhd _=>⟨(hd 11 0),.row 126 qC ((hd 11 1).getD 0)⟩⟩::aM 99 [] [] _::j5 [1,11,12] [5] [5] (λhd=>⟨some cx,.ck ({s1.2.1 with iV:=[]}:cL) [(2,aZ (hd 11 0) qC.length ((hd 11 1).getD 0))]⟩)::[]) (eQ ?_ (eQ ?_ (eQ ?_ (eQ ?_ (eQ ?_ jJ))))) (λdJ=>?_)
     ·exact fS.q (pk λhd E' L' aK ar=>fQ (i:=5) (q:=0) (β:=cL) (γ:=dU) xw (ai (aK _ _ I)) (ar 5 _ I I) I)
     ·intro hd E' L' aK ar cb;exact ae.bV 0 (ar 0 _ I I) (ae.pI (Lin:=[bb cG iy.2]) (Lr:=L'.eraseIdx 0) o3 (oP Ds) ⟨ai (aK _ _ I),trivial⟩ I λWv=>ae.nil (aq.back 0 (ar 0 _ I I) (aq.fin (fe []) I I)))
     ·intro hd E' L' aK ar cb;exact ae.bV 0 (ar 0 _ I I) (ae.pI (Lin:=[bb cG ou.2]) (Lr:=L'.eraseIdx 0) o3 (oP Dt) ⟨ai (aK _ _ I),trivial⟩ I λam9=>ae.nil (aq.back 0 (ar 0 _ I I) (aq.fin (fe []) I I)))
     ·intro hd E' L' aK ar cb;refine ae.app (i:=6) underlying121 HV MS (bytes:=40) (by kernel_rfl) (ai (aK _ _ I)) (ar 6 _ I I) (ai (aK _ _ I)) Nz I λAm oi=>?_;exact ae.nil (aq.fin (fe [Am,some oi]) I I)
     ·intro hd E' L' aK ar cb;refine ae.jS (i:=5) (γ:=dU) (b':=({s1.2.1 with iV:=[]}:cL)) (os':=[(2,aZ (hd 11 0) qC.length ((hd 11 1).getD 0))]) ((aO.id cL).comp wI) xw (ai (aK _ _ I)) (ai (aK _ _ I)) iI (ar 5 _ I I) I I I (ae.nil ?_);exact aq.fin (fe []) I I
     refine aq.ep (L2:=[bb cG kC.2,⟨none,.dead⟩,⟨none,.dead⟩,bb eN (aF aj aW:bC),⟨none,.row 126 ([]:aa dU) 0⟩,⟨some cx,.ck ({s1.2.1 with iV:=[]}:cL) [(2,aZ (dJ 11 0) qC.length ((dJ 11 1).getD 0))]⟩,⟨(dJ 11 0),.row 126 qC ((dJ 11 1).getD 0)⟩,⟨none,.row 126 ([]:aa dU) 0⟩,⟨some bE,.ck m1.2.1 [(2,aZ g3.1 m1.2.2.length g3.2)]⟩,⟨g3.1,.row 126 m1.2.2 g3.2⟩,⟨none,.row 126 ([]:aa dU) 0⟩,⟨some bg,.ck ({s1.2.2.2.2.2.2.1 with iV:=[]}:cL) [(2,aZ oh eB.length c5)]⟩,⟨oh,.row 126 eB c5⟩]) I (ix ?_);cases h;exact eA 0 (hm ((dJ 11 0),((dJ 11 1).getD 0)))
    have h:=gf ak dy;refine ax.skip ?_;cases h;exact eA 0 (hm (g1.1.1,g1.1.2))
   ·have h:=gd ak b7;refine aB h λmW NA h=>aB h λxY aib h=>aB h λz3 nG h=>aB h λvF aic h=>gu [0,1,4,5,6,7,9,10,11,30,31,32,33,45,46,47,59,61,62,63,64,65,66,67,68,69,70] ?_;refine ax.bU 13 (aM 71 [] [] _::aM 72 [0] [8] (J.eq (aZ g1.2.1.1 s1.2.2.2.2.2.1.length g1.2.1.2))::aM 73 [] [] _::aM 74 [2] [3] _::aM 75 [] [] _::⟨some 76,[4],[0],[0],λ_=>J.of mW.1,λhd _=>bb cG mW.2⟩::aM 77 [5] [] _::aM 78 [] [] _::⟨some 79,[5,7],[0],[0],λ_=>J.of xY.1,λhd _=>bb cG xY.2⟩::aM 80 [] [] _::aM 81 [3,6,8,9] [] _::aM 82 [10] [] _::⟨some 83,[1,11],[9],[9],λhd=>J.eq (aZ (hd 12 0) vF.length ((hd 12 1).getD 0)),λhd _=>⟨(hd 12 0),.row 126 vF ((hd 12 1).getD 0)⟩⟩::aM 84 [] [] _::j5 [1,12,13] [8] [8] (λhd=>⟨some bE,.ck ({s1.2.2.2.2.1 with iV:=[]}:cL) [(2,aZ (hd 12 0) vF.length ((hd 12 1).getD 0))]⟩)::[]) (eQ ?_ (eQ ?_ (eQ ?_ (eQ ?_ (eQ ?_ jJ))))) (λiY=>?_)
    ·exact fS.q (pk λhd E' L' aK ar=>fQ (i:=8) (q:=0) (β:=cL) (γ:=dU) xw (ai (aK _ _ I)) (ar 8 _ I I) I)
    ·intro hd E' L' aK ar cb;exact ae.bV 0 (ar 0 _ I I) (ae.pI (Lin:=[bb cG iD.2]) (Lr:=L'.eraseIdx 0) jV (jP NA) ⟨ai (aK _ _ I),c8 4,trivial⟩ I λana=>ae.nil (aq.back 0 (ar 0 _ I I) (aq.fin (fe []) I I)))
    ·intro hd E' L' aK ar cb;exact ae.bV 0 (ar 0 _ I I) (ae.pI (Lin:=[bb cG mW.2]) (Lr:=L'.eraseIdx 0) o3 (oP aib) ⟨ai (aK _ _ I),trivial⟩ I λanb=>ae.nil (aq.back 0 (ar 0 _ I I) (aq.fin (fe []) I I)))
    ·intro hd E' L' aK ar cb;refine ae.app (i:=9) underlying121 HV MS (bytes:=40) (by kernel_rfl) (ai (aK _ _ I)) (ar 9 _ I I) (ai (aK _ _ I)) aic I λxJ xK=>?_;exact ae.nil (aq.fin (fe [xJ,some xK]) I I)
    ·intro hd E' L' aK ar cb;refine ae.jS (i:=8) (γ:=dU) (b':=({s1.2.2.2.2.1 with iV:=[]}:cL)) (os':=[(2,aZ (hd 12 0) vF.length ((hd 12 1).getD 0))]) ((aO.id cL).comp wI) xw (ai (aK _ _ I)) (ai (aK _ _ I)) iI (ar 8 _ I I) I I I (ae.nil ?_);exact aq.fin (fe []) I I
    refine aq.ep (L2:=[bb cG xY.2,⟨none,.dead⟩,⟨none,.dead⟩,bb eN (aF aj aW:bC),⟨none,.row 126 ([]:aa dU) 0⟩,⟨some cx,.ck s1.2.1 [(2,aZ g1.1.1 s1.2.2.1.length g1.1.2)]⟩,⟨g1.1.1,.row 126 s1.2.2.1 g1.1.2⟩,⟨none,.row 126 ([]:aa dU) 0⟩,⟨some bE,.ck ({s1.2.2.2.2.1 with iV:=[]}:cL) [(2,aZ (iY 12 0) vF.length ((iY 12 1).getD 0))]⟩,⟨(iY 12 0),.row 126 vF ((iY 12 1).getD 0)⟩,⟨none,.row 126 ([]:aa dU) 0⟩,⟨some bg,.ck ({s1.2.2.2.2.2.2.1 with iV:=[]}:cL) [(2,aZ oh eB.length c5)]⟩,⟨oh,.row 126 eB c5⟩]) I (ix ?_);cases h;exact eA 0 (hm ((iY 12 0),((iY 12 1).getD 0)))
   have h:=gf ak b7;refine ax.skip ?_;cases h;exact eA 0 (hm (g1.2.1.1,g1.2.1.2))
  cases h;exact kg ((g1.1.1,g1.1.2),(g1.2.1.1,g1.2.1.2),(g1.2.2.1,g1.2.2.2)) 0
 refine aq.q6 (aq.next (cf (ae.pM (β:=cL) (γ:=dU) (b':=({az.2.2.2.2.2.2.2.1 with iV:=az.2.2.2.2.2.2.2.2}:cL)) ((aO.id cL).comp wI) 8 9 0 I I I I I I (ae.ql 8 I (aB h λz4 vD h=>lC vD (j9 (i:=8) (aO.id cL) (r:=({az.2.2.2.2.2.2.2.1 with iV:=az.2.2.2.2.2.2.2.2}:cL)) vk (ai I) I I I) ?_)))));refine ae.pM (β:=cL) (γ:=dU) (b':=({az.2.2.2.2.2.1 with iV:=az.2.2.2.2.2.2.1}:cL)) ((aO.id cL).comp wI) 5 6 0 I I I I I I (ae.ql 5 I (o6 5 vk ?_));exact ae.pM (β:=cL) (γ:=dU) (b':=({az.2.2.1 with iV:=az.2.2.2.1}:cL)) ((aO.id cL).comp wI) 1 2 0 I I I I I I (ae.ql 1 I go)
def QM{ab cG r}(h:p7 ab=some r):vY prog 6 [J.cV cG] cG ab (J.of r.1) r.2:=by
 unfold p7 at h;refine bJ.of func6 I ntmps6 I λW A=>?_;refine aP λbg=>?_;refine ae.bV 1 I (aB h λan bs h=>gj 1 jV (jP bs) λau=>?_);refine aP ?_;refine ae.bV 0 I (aB h λaH b5 h=>gj 1 jV (jP b5) λcD=>?_);refine ea ky ?_;refine bn (sh (b:=({(default:aR)with kP:=bz (2+an.1),CP:=bz (12+aH.1)}:aR)) [5,7] Sl I aid NB (.cons FF I (ai I) I (by rfl) (.cons Yt I (ai I) I (by rfl) (.nil)))) ?_;refine ae.own (α:=fI) 80 (ae.own (α:=ev) 37 (ae.qg (z:=(default:aR)) [5,7] Sl NB I λbE=>ae.own (α:=fI) 80 (ae.own (α:=ev) 37 (ae.tB (i:=2) pL (ai I) (ai I) I ?_))));refine aP λbr eG z2 jZ z3 nG z4 vD z5 DV nb DW l0 AG jc DU h=>?_;refine aB h λz9 DX h=>ae.zU (i:=2) ((aO.id aR).comp QA) (v:=jc) (b':=z9) Vz (ai I) (ai I) I I (dh DX) (by rfl) ?_;refine aP λmV Ih pQ Vv z12 Dq h=>?_;refine ae.zU (i:=2) ((aO.id aR).comp Qu) (v:=([mV,pQ,z12]:aa kr)) (b':=({z9 with w8:=[mV,pQ,z12]}:aR)) VA (ai I) (ai I) I I I (by rfl) ?_;refine aP ?_;refine ae.bV 5 I (aB h λbf eM h=>gj 1 aie (YX eM) λgm=>?_);refine dr ?_;refine ae.bV 0 I (aB h λbI fN h=>gj 1 aif (YL fN) λlD=>?_);refine dr ?_;refine ae.bV 0 I (aB h λbZ hZ h=>gj 1 aih (YY hZ) λiC=>?_);refine db (cq ad1.fd) ?_;refine aB h λlQ Nw h=>ae.zU (i:=3) ((aO.id aR).comp QB) (v:=bf.1) (b':=lQ) VB (ai I) (ai I) I I (dh Nw) (by rfl) ?_;refine db (cq Hz.fd) ?_;refine ae.zU (i:=3) ((aO.id aR).comp BC) (v:=bI.1) (b':=({lQ with dD:=bI.1}:aR)) Du (ai I) (ai I) I I I (by rfl) ?_;refine db (cq n3.fd) ?_;refine aB h λnH Nx h=>ae.zU (i:=3) ((aO.id aR).comp qU) (v:=bZ.1) (b':=nH) lM (ai I) (ai I) I I (dh Nx) (by rfl) ?_;refine aP ?_;refine akD 3 qU lM ?_;refine ae.bV 0 I (aB h λcS iw h=>gj 1 aii (Zf iw) λoJ=>?_);refine db (cq ad2.fd) ?_;refine ae.zU (i:=3) ((aO.id aR).comp QG) (v:=cS.1) (b':=({nH with fk:=cS.1}:aR)) Il (ai I) (ai I) I I I (by rfl) ?_;refine gB (qA Im An {cu:=1,jk:=1:fI} (ot B0 (ot Ki .nil)) ?_);refine qA Im An {cu:=2,jk:=2:fI} (ot B0 (ot Ki .nil)) ?_;refine qA Im An ({(default:fI)with cu:=3}:fI) (ot B0 .nil) ?_;refine qA Im An {cu:=4,jk:=3:fI} (ot B0 (ot Ki .nil)) ?_;refine aB h λry Ny h=>ae.Vw (α:=fI) (r0:=[{cu:=1,jk:=1:fI},{cu:=2,jk:=2:fI},({(default:fI)with cu:=3}:fI),{cu:=4,jk:=3:fI}]) (r:=ry) underlying28 NC An I I (.cons (by simp) (ai I) (.cons (by simp) (ai I) (.cons (by simp) (ai I) (.cons (by simp) (ai I) (.nil))))) (dh Ny) I λeU=>?_;refine db (cq Mn.fd) ?_;refine ae.jS (i:=4) (γ:=fI) (b':=({({nH with fk:=cS.1}:aR)with pB:=[]}:aR)) (os':=[(5,aZ eU ry.length 4),(7,aZ none ([]:aa ev).length 0)]) ((aO.id aR).comp FR) Io (ai I) (ai I) iI I I I I ?_;refine aP ?_;refine ae.bV 1 I (aB h λdg lP h=>gj 1 o3 (oP lP) λJl=>b0 ?_);refine aB h λm1 b7 h=>iu (γ:=(av Nat×Nat)) [0,2,3,51] (λg1=>[]) (λg1=>[(1,⟨g1.1,.row 80 m1 g1.2⟩),(4,⟨some bE,.ck ({({nH with fk:=cS.1}:aR)with pB:=[]}:aR) [(5,aZ g1.1 m1.length g1.2),(7,aZ none ([]:aa ev).length 0)]⟩)]) (λg1=>?_) (λhm ak=>?_) λhm ak=>?_
 ·refine aP ?_;refine ae.bV 0 I (aB h λeB qB h=>gj 1 o3 (oP qB) λO6=>b0 ?_);refine aB h λm2 dy h=>iu (γ:=(av Nat×Nat)) [0,2,3,51,59] (λg2=>[]) (λg2=>[(4,⟨some bE,.ck m2.1 [(5,aZ g1.1 m1.length g1.2),(7,aZ g2.1 m2.2.length g2.2)]⟩),(5,⟨g2.1,.row 37 m2.2 g2.2⟩)]) (λg2=>?_) (λhm ak=>?_) λhm ak=>?_
  ·refine aP ?_;refine ae.bV 0 I (aB h λiD xW h=>gj 1 o3 (oP xW) λs5=>?_);refine aP ?_;refine kH (λhb=>Hg (i:=4) ((aO.id aR).comp qU) (r:=m2.1.bM) lM (cM I hb) I I I (by rfl)) ?_;refine aP λaW dq h=>?_;refine aB h λm3 fE h=>iu (γ:=(av Nat×Nat)) [0,2,3,51,59,76] (λg3=>[]) (λg3=>[(4,⟨some bE,.ck m3.1 [(5,aZ g1.1 m1.length g1.2),(7,aZ g3.1 m3.2.length g3.2)]⟩),(5,⟨g3.1,.row 37 m3.2 g3.2⟩)]) (λg3=>?_) (λhm ak=>?_) λhm ak=>?_
   ·refine aP ?_;refine ae.bV 0 I (aB h λiy xI h=>gj 1 o3 (oP xI) λWv=>?_);refine aP ?_;refine kH (λhb=>Hg (i:=4) ((aO.id aR).comp qU) (r:=m3.1.bM) lM (cM I hb) I I I (by rfl)) ?_;refine aP λbP dI h=>?_;refine aB h λm4 DZ h=>iu (γ:=(av Nat×Nat)) [0,2,3,51,59,76,93] (λg4=>[]) (λg4=>[(4,⟨some bE,.ck m4.1 [(5,aZ g1.1 m1.length g1.2),(7,aZ g4.1 m4.2.length g4.2)]⟩),(5,⟨g4.1,.row 37 m4.2 g4.2⟩)]) (λg4=>?_) (λhm ak=>?_) λhm ak=>?_
    ·exact aq.next (cf (ae.pM (β:=aR) (γ:=fI) (b':=({m4.1 with pB:=m1}:aR)) ((aO.id aR).comp FR) 4 1 0 I I I I I I (ae.pM (β:=aR) (γ:=ev) (b':=({({m4.1 with pB:=m1}:aR)with eE:=m4.2}:aR)) ((aO.id aR).comp B1) 4 5 0 I I I I I I (ae.ql 4 I go))))
    ·have h:=gd ak DZ;refine ax.fc (db (cq zV.fd) ?_);refine bn (fQ (i:=4) (q:=1) (β:=aR) (γ:=ev) xL (ai I) I I) ?_;refine aP λz17 aia vE Ii h=>?_;refine aB h λou Ds h=>iv 5 underlying30 Ip ND Ds λfL c5=>?_;refine db (cq zV.fd) ?_;refine ae.jS (i:=4) (γ:=ev) (b':=({m3.1 with eE:=[]}:aR)) (os':=[(5,aZ g1.1 m1.length g1.2),(7,aZ fL ou.length c5)]) ((aO.id aR).comp B1) xL (ai I) (ai I) iI I I I I (ae.nil ?_);cases h;exact eA 0 (hm (fL,c5))
    have h:=gf ak DZ;refine ax.skip ?_;cases h;exact eA 0 (hm (g3.1,g3.2))
   ·have h:=gd ak fE;refine ax.fc (db (cq zV.fd) ?_);refine bn (fQ (i:=4) (q:=1) (β:=aR) (γ:=ev) xL (ai I) I I) ?_;refine aP λtZ Dr h=>?_;refine aB h λkC Dt h=>iv 5 underlying30 Ip ND Dt λoh oi=>?_;refine db (cq zV.fd) ?_;refine ae.jS (i:=4) (γ:=ev) (b':=({m2.1 with eE:=[]}:aR)) (os':=[(5,aZ g1.1 m1.length g1.2),(7,aZ oh kC.length oi)]) ((aO.id aR).comp B1) xL (ai I) (ai I) iI I I I I (ae.nil ?_);cases h;exact eA 0 (hm (oh,oi))
   have h:=gf ak fE;refine ax.skip ?_;cases h;exact eA 0 (hm (g2.1,g2.2))
  ·have h:=gd ak dy;refine ax.fc (db (cq zV.fd) ?_);refine bn (fQ (i:=4) (q:=1) (β:=aR) (γ:=ev) xL (ai I) I I) ?_;refine aP λz20 amX h=>?_;refine aB h λqC Nz h=>iv 5 underlying30 Ip ND Nz λAm xK=>?_;refine db (cq zV.fd) ?_;refine ae.jS (i:=4) (γ:=ev) (b':=({({({nH with fk:=cS.1}:aR)with pB:=[]}:aR)with eE:=[]}:aR)) (os':=[(5,aZ g1.1 m1.length g1.2),(7,aZ Am qC.length xK)]) ((aO.id aR).comp B1) xL (ai I) (ai I) iI I I I I (ae.nil ?_);cases h;exact eA 0 (hm (Am,xK))
  have h:=gf ak dy;refine ax.skip ?_;cases h;exact eA 0 (hm (none,0))
 ·have h:=gd ak b7;refine ax.fc (db (cq Mn.fd) ?_);refine bn (fQ (i:=4) (q:=0) (β:=aR) (γ:=fI) Io (ai I) I I) ?_;refine aP ?_;refine aB h λmW NA h=>iv 1 underlying28 NC An NA λxJ VC=>?_;refine db (cq Mn.fd) ?_;refine ae.jS (i:=4) (γ:=fI) (b':=({({nH with fk:=cS.1}:aR)with pB:=[]}:aR)) (os':=[(5,aZ xJ mW.length VC),(7,aZ none ([]:aa ev).length 0)]) ((aO.id aR).comp FR) Io (ai I) (ai I) iI I I I I (ae.nil ?_);cases h;exact eA 0 (hm (xJ,VC))
 have h:=gf ak b7;refine ax.skip ?_;cases h;exact eA 0 (hm (eU,4))
instance:eV prog 116 _ _ _ KF J.of J.of J.of:=.i func116 I ntmps116 I λab aj r h W A=>by
 unfold KF at h;refine aP ?_;refine aB h λaz ao h=>hx (γ:=Unit) (δ:=Unit) ao [0,1,7] (λs1 g1=>[(4,J.of (0:Int)),(8,J.of s1)]) (λs1 g1=>[]) (λau=>Sum.elim (λau=>Exit.exit 0) (λau=>Exit.ret) au) (λau g1=>Sum.elim (λau=>[(4,J.of (0:Int)),(8,J.of au.1),(9,J.of au.2)]) (λau=>[(4,J.of au.1),(5,J.of au.2.1),(8,J.of au.2.2.1),(9,J.of au.2.2.2.1),(16,J.of au.2.2.2.2)]) au) (λau g1=>[]) () (λs1 r h g1=>?_) λg1=>?_
 ·exact go
 rcases az with az|az
 ·simp only[Sum.elim_inl]at h;exact go
 simp only[Sum.elim_inr]at h;exact go
def YZ{ab aj r}(h:F4 ab aj=some r):cn prog 159 [J.of ab,J.ptr aj] (J.of r):=by
 unfold F4 at h;refine cn.of func159 I ntmps159 I λW A=>?_;exact go
def X3{ab aj r}(h:JH ab aj=some r):cn prog 158 [J.of ab,J.rv prog aj] (J.of r):=by
 unfold JH at h;refine cn.of func158 I ntmps158 I λW A=>?_;refine aP ?_;refine aB h λaz ao h=>hx (γ:=Unit) (δ:=Unit) ao [0,1,7] (λs1 g1=>[(4,J.of (0:Int)),(8,J.of s1)]) (λs1 g1=>[]) (λau=>Sum.elim (λau=>Exit.exit 0) (λau=>Exit.ret) au) (λau g1=>Sum.elim (λau=>[(4,J.of (0:Int)),(8,J.of au.1),(9,J.of au.2)]) (λau=>[(4,J.of au.1),(5,J.of au.2.1),(8,J.of au.2.2.1),(9,J.of au.2.2.2.1),(16,J.of au.2.2.2.2)]) au) (λau g1=>[]) () (λs1 r h g1=>?_) λg1=>?_
 ·refine aP (λaW dq h=>?_);refine aB h λan bs h=>bn (xc (ai I) (ai I) bs) ?_;exact go
 rcases az with az|az
 ·simp only[Sum.elim_inl]at h;exact go
 simp only[Sum.elim_inr]at h;exact go
instance:h9 prog 165 _ _ KG J.of J.of:=.i func165 I ntmps165 I λab r h W A=>by
 unfold KG at h;refine cf (bn (cP (look_nil (α:=ByteArray))) ?_);refine aP (λh=>?_);refine bn (cP (look_nil (α:=ByteArray))) ?_;exact go
def Rv{ab r}(h:uY ab=some r):cn prog 161 [J.of ab] (J.of r):=by
 unfold uY at h;refine cn.of func161 I ntmps161 I λW A=>?_;exact go
instance aij:h9 prog 161 _ _ uY J.of J.of:=
 ⟨⟨_,func161,rfl,by kernel_rfl⟩,λ_ _ h=>Rv h⟩
instance VD:h9 prog 123 _ _ Gn J.of J.of:=.i func123 I ntmps123 I λab r h W A=>by
 unfold Gn at h;refine cf (pP λbg=>?_);refine bn (cP (look_nil (α:=hT))) (gB ?_);refine ae.own (α:=hT) 289 (bn (cP mb) ?_);refine aP ?_;refine aB h λaz ao h=>hx (γ:=(av Nat×Nat)) (δ:=(av Nat×Nat)) ao [0,1,2,7,8] (λs1 g1=>[(3,J.eq (aZ g1.1 s1.2.length g1.2)),(9,J.of s1.1)]) (λs1 g1=>[(0,⟨g1.1,.row 289 s1.2 g1.2⟩)]) (λau=>Exit.exit 0) (λau g1=>[(3,J.eq (aZ g1.1 au.2.2.length g1.2)),(9,J.of au.1),(10,J.of au.2.1)]) (λau g1=>[(0,⟨g1.1,.row 289 au.2.2 g1.2⟩)]) (none,0) (λs1 r h g1=>?_) λg1=>?_
 ·refine go2 (λaW dq bE br eG h=>?_) (λh=>?_)
  ·refine aB h λan bs h=>iv 1 underlying238 Dd MT bs λeU c5=>?_;refine aP ?_;cases h;exact lq (eU,c5) 1
  cases h;exact kg (g1.1,g1.2) 0
 refine aP ?_;exact aq.ku (α:=hT) 0 [2,3,20] ⟨rfl,rfl,rfl,trivial⟩ I go
def Cb{hp ab aj r}(h:qV hp ab aj=some r):hA prog 93 [J.of ab,J.of aj] hp (J.of r) hp:=by
 unfold qV at h;refine bJ.of func93 I ntmps93 I λW A=>cf (bn (cP mL) ?_);refine go2 (λh=>?_) (λbp cO c1 cY h=>?_)
 ·refine bn (cP mL) ?_;exact go
 refine aB h λb6 ez h=>aB h λc2 en h=>aB h λbr eG h=>bn (tv (r:=br) underlying127 xZ Ug (jR (ai I) ez) (ai I) (hX (n:=0) I (u9 en) I) (dh eG)) ?_;exact go
instance:h9 prog 327 _ _ uS J.of J.of:=.i func327 I ntmps327 I λab r h W A=>by
 unfold uS at h;refine aP λbg bE cx=>?_;refine aB h λan bs h=>bn (He underlying50 sH (ai I) .none (.some (ai I)) bs) ?_;refine aP ?_;refine aB h λaz ao h=>hx (γ:=Unit) (δ:=Unit) ao [0,1,2,3,12,13] (λs1 g1=>[(14,J.of s1.1)]) (λs1 g1=>[(0,bb cx s1.2)]) (λau=>Exit.exit 0) (λau g1=>[(14,J.of au.1),(15,J.of au.2.1)]) (λau g1=>[(0,bb cx au.2.2)]) () (λs1 r h g1=>?_) λg1=>?_
 ·exact go
 exact go
def Q1{hp ab aj r}(h:zl hp ab aj=some r):hA prog 326 [J.of ab,J.of aj] hp (J.bR [J.of r.1,J.of r.2]) hp:=by
 unfold zl at h;refine bJ.of func326 I ntmps326 I λW A=>?_;refine aP (λbg h=>?_);refine aB h λbp cO h=>aB h λc1 cY h=>aB h λb6 ez h=>aB h λc2 en h=>aB h λbr eG h=>gu [0,1,3,4,5,8,9] ?_;refine ax.bU 1 (aM 11 [] [] _::aM 12 [0] [] _::aM 13 [1] [] _::aM 14 [2] [] _::aM 15 [] [0] _::aM 16 [3,4] [] (J.bR [J.of (br.getD default),J.of br.isSome])::aM 10 [5] [] _::aM 17 [6] [] _::aM 18 [6] [] _::aM 6 [7] [] _::aM 7 [8] [] _::[]) (eQ ?_ jJ) (λdJ=>?_)
 ·intro hd E' L' aK ar cb;refine bn (LG (r:=br) underlying218 HW xX (jR (ai (aK _ _ I)) ez) (ai (aK _ _ I)) (hX (n:=1) (cb.trans I) (so en) I) (dh eG)) (ae.nil ?_);exact aq.fin (fe []) I I
 refine aq.ep (L2:=(bb bg aj::aY hp)) I (ix ?_);exact go
instance:eV prog 340 _ _ _ FT J.of J.of (λr=>J.bR [J.of r.1,J.of r.2]):=.i func340 I ntmps340 I λab aj r h W A=>by
 unfold FT at h;refine aP λbg bE cx eN aW dq qL bP dI h=>?_;refine gu [0,1,2,3,4,5,6,7,8,9,10,11,12,13,14] ?_;refine ax.A7 5 (aM 15 [] [3] _::aM 16 [] [0] _::j5 [0] [2] [2] (λhd=>bb cx ((iq aj bP (default:aX)):Vector aX 4))::j5 [1] [1] [1] (λhd=>bb eN ((b9 aj aW):aX))::[]) (λdJ=>?_);refine aq.ep (L2:=[bb qL (b9 aj aW:aX),bb eN ((b9 aj aW):aX),bb cx ((iq aj bP (default:aX)):Vector aX 4),bb bE (iq aj bP (default:aX):Vector aX 4),bb bg ab]) I (ix ?_);exact go
def KV{ab aj aI r}(h:Cu ab aj aI=some r):cn prog 343 [J.of ab,J.of aj,J.of aI] (J.ju 346 [J.ptr r.1,J.ptr r.2.1,J.ptr r.2.2]):=by
 unfold Cu at h;refine cn.of func343 I ntmps343 I λW A=>?_;refine aP λbg bE cx=>?_;refine bn (cP (Hw .nilFunc)) (gB ?_);refine ae.share (α:=Int) 0 5 I I (ae.share (α:=aX) 1 4 I I (ae.share (α:=Ref) 2 3 I I (bn (De (f:=346) (τs:=[J.ptr aI,J.ptr aj,J.ptr ab]) ⟨ai I,ai I,ai I,trivial⟩) ?_)));exact go
instance:h9 prog 227 _ _ FG J.of J.of:=.i func227 I ntmps227 I λab r h W A=>by
 unfold FG at h;refine cf (bn (cP (look_nil (α:=cJ))) ?_);refine aP ?_;refine bn (Uh underlying50 (ai I)) (b0 ?_);refine ax.Ui (ai I) (λal=>?_) ?_
 ·subst al;replace h:=RT h;subst h;have h:some ([]:aa cJ)=some []:=rfl;refine cf (bn (cP (look_nil (α:=cJ))) (b0 (ax.ret (aq.ret ?_))));replace h:=dh h;exact pR
 refine kY (cf (ae.rh (α:=cJ) (r:=([]:aa cJ)) underlying50 sH Dv I I (.nil) I λeU=>dr ?_));refine aB h λan bs h=>iv 0 underlying50 sH Dv bs λfL c5=>?_;refine c7 (b0 (ax.ret ?_));exact aq.ku (α:=cJ) 0 [2,7] ⟨rfl,rfl,trivial⟩ I go
instance:h9 prog 160 _ _ Le J.of J.of:=.i func160 I ntmps160 I λab r h W A=>by
 unfold Le at h;exact go
instance:h9 prog 155 _ _ uU J.of J.of:=.i func155 I ntmps155 I λab r h W A=>by
 unfold uU at h;exact go
def X4{ab aj r}(h:JI ab aj=some r):cn prog 156 [J.of ab,J.rv prog aj] (J.of r):=by
 unfold JI at h;refine cn.of func156 I ntmps156 I λW A=>?_;refine aP ?_;refine aB h λan bs h=>nE Uj (P4 bs) ?_;exact go
instance:eV prog 71 _ _ _ BR J.of J.of J.of:=.i func71 I ntmps71 I λab aj r h W A=>by
 unfold BR at h;exact go
instance VE:eV prog 117 _ _ _ GI J.of J.of J.of:=.i func117 I ntmps117 I λab aj r h W A=>by
 unfold GI at h;refine aP λbg bE=>?_;refine ae.share (α:=Int) 0 3 I I (bn (xm (F:=(λa0=>F4 a0 aj)) (τs:=[J.ptr aj]) afF ⟨ai I,trivial⟩ (λ_ _ h=>YZ h)) ?_);refine aB h λan bs h=>nE afG (X3 bs) ?_;exact go
instance VF:h9 prog 120 _ _ GA J.of J.of:=.i func120 I ntmps120 I λab r h W A=>by
 unfold GA at h;refine cf (pP λbg=>?_);refine bn (cP (look_nil (α:=hT))) (gB ?_);refine ae.own (α:=hT) 289 (bn (cP mb) ?_);refine aP ?_;refine aB h λaz ao h=>hx (γ:=(av Nat×Nat)) (δ:=(av Nat×Nat)) ao [0,1,2,9,10] (λs1 g1=>[(3,J.eq (aZ g1.1 s1.2.length g1.2)),(11,J.of s1.1)]) (λs1 g1=>[(0,⟨g1.1,.row 289 s1.2 g1.2⟩)]) (λau=>Exit.exit 0) (λau g1=>[(3,J.eq (aZ g1.1 au.2.2.length g1.2)),(11,J.of au.1),(12,J.of au.2.1)]) (λau g1=>[(0,⟨g1.1,.row 289 au.2.2 g1.2⟩)]) (none,0) (λs1 r h g1=>?_) λg1=>?_
 ·refine go2 (λaW dq bE an bs h=>?_) (λh=>?_)
  ·refine aB h λa8 ao h=>hx (γ:=(av Nat×Nat)) (δ:=(av Nat×Nat)) ao [0,1,2,5,9,10,11,12,17,18] (λs2 g2=>[(3,J.eq (aZ g2.1 s2.2.length g2.2)),(19,J.of s2.1)]) (λs2 g2=>[(1,⟨g2.1,.row 289 s2.2 g2.2⟩)]) (λcD=>Exit.exit 2) (λcD g2=>[(3,J.eq (aZ g2.1 cD.2.2.length g2.2)),(19,J.of cD.1),(20,J.of cD.2.1)]) (λcD g2=>[(1,⟨g2.1,.row 289 cD.2.2 g2.2⟩)]) (g1.1,g1.2) (λs2 r h g2=>?_) λg2=>?_
   ·refine go2 (λbP dI br eG h=>?_) (λh=>?_)
    ·refine aB h λaH b5 h=>iv 1 underlying238 Dd MT b5 λeU c5=>?_;refine aP ?_;cases h;exact lq (eU,c5) 0
    cases h;exact kg (g2.1,g2.2) 0
   refine aP ?_;cases h;exact lq (g2.1,g2.2) 1
  cases h;exact kg (g1.1,g1.2) 0
 refine aP λz2 jZ h=>?_;refine aB h λbf eM h=>iv 0 underlying238 Dd MT eM λfL oi=>?_;refine c7 (b0 (ax.ret ?_));exact aq.ku (α:=hT) 0 [2,35] ⟨rfl,rfl,trivial⟩ I go
instance Iq:eV prog 119 _ _ _ GK J.of J.of (λr=>J.bR [J.of r.1,J.of r.2]):=.i func119 I ntmps119 I λab aj r h W A=>by
 unfold GK at h;refine cf (bn (cP (look_nil (α:=nY))) ?_);refine aP ?_;refine bn (HX underlying9 (ai I) (fJ (ByteArray.mk #[]))) ?_;refine aP (λh=>?_);cases h
instance:h9 prog 172 _ _ GL J.of J.of:=.i func172 I ntmps172 I λab r h W A=>by
 unfold GL at h;exact go
end Go.Proofs.YtdadopcnkghbaaaGreat
