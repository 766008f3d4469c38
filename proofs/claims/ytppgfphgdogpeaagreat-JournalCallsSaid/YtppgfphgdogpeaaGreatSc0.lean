/-
  Each function meets its functional program. Conditions: none.
-/
import Derived.Test.YtppgfphgdogpeaaGreatSd
set_option linter.defProp false
set_option linter.unusedVariables false
set_option linter.unusedSimpArgs false
set_option maxRecDepth 100000
set_option maxHeartbeats 2000000
namespace Go.Proofs.YtppgfphgdogpeaaGreat
open Go Gv Go.Proofs.Tryz
attribute [local irreducible] ae ay al bj aU ea eN eU J.of J.ptr J.eq J.cond J.bW
def PG{ab ai r}(h:Ag ab ai=some r):bL prog 7 [J.of ab,J.of ai] [] (δ:=Nat) (λd=>J.cr d) (λd=>[aI d r]):=by
 unfold Ag at h;refine bL.of func7 I ntmps7 I λW A=>b3 (bA (dm (H5 (.pointer none))) ?_);refine aO ?_;refine aA h λao bs h=>bA (AA underlying22 acm (ah I) .none (.some (ah I)) bs) ?_;refine aO λbk=>?_;refine al.bt 0 I ?_;cases h;exact sm bk
def afx{ab bR r}(h:K7 ab=some r):l7 prog 11 [J.cr bR] bR ab (J.of r) ab:=by
 unfold K7 at h;refine bL.of func11 I ntmps11 I λW A=>?_;refine aO ?_;refine ay.fy 10 ?_;exact go
def afa{ab ai r}(h:K0 ab ai=some r):dV prog 124 [J.of ab,J.ptr ai] (J.of r):=by
 unfold K0 at h;refine dV.of func124 I ntmps124 I λW A=>?_;exact go
def adY{ab ai r}(h:Ff ab ai=some r):dV prog 123 [J.of ab,J.Bl prog ai] (J.of r):=by
 unfold Ff at h;refine dV.of func123 I ntmps123 I λW A=>?_;refine aO ?_;refine aA h λav an h=>fk (γ:=Unit) (δ:=Unit) an [0,1,7] (λs1 g1=>[(4,J.of (0:Int)),(8,J.of s1)]) (λs1 g1=>[]) (λaw=>Sum.elim (λaw=>Exit.exit 0) (λaw=>Exit.ret) aw) (λaw g1=>Sum.elim (λaw=>[(4,J.of (0:Int)),(8,J.of aw.1),(9,J.of aw.2)]) (λaw=>[(4,J.of aw.1),(5,J.of aw.2.1),(8,J.of aw.2.2.1),(9,J.of aw.2.2.2.1),(16,J.of aw.2.2.2.2)]) aw) (λaw g1=>[]) () (λs1 r h g1=>?_) λg1=>?_
 ·refine aO (λaJ cT h=>?_);refine aA h λao bs h=>bA (LL (ah I) (ah I) bs) ?_;exact go
 rcases av with av|av
 ·simp only[Sum.elim_inl]at h;exact go
 simp only[Sum.elim_inr]at h;exact go
instance:lT prog 91 _ _ Df J.of (λr=>J.bW [J.of r.1,J.of r.2]):=.i func91 I ntmps91 I λab r h W A=>by
 unfold Df at h;refine aO λbk=>?_;refine aA h λav an h=>fk (γ:=Unit) (δ:=Unit) an [0,1,2,3,9,10] (λs1 g1=>[(4,J.of s1.1),(5,J.of s1.2.1),(11,J.of s1.2.2)]) (λs1 g1=>[]) (λaw=>Exit.exit 0) (λaw g1=>[(4,J.of aw.1),(5,J.of aw.2.1),(11,J.of aw.2.2.1),(12,J.of aw.2.2.2)]) (λaw g1=>[]) () (λs1 r h g1=>?_) λg1=>?_
 ·refine aO (λaJ cT bn h=>?_);refine aA h λm1 bS h=>ix (γ:=Unit) [0,1,2,3,6,7,9,10,11,12,17,18] (λg2=>[(4,J.of m1.1),(5,J.of m1.2)]) (λg2=>[]) (λg2=>?_) (λhm ag=>?_) λhm ag=>?_
  ·exact go
  ·have h:=fu ag bS;exact go
  have h:=fv ag bS;refine aO ?_;refine aA h λm2 c6 h=>ix (γ:=Unit) [0,1,2,3,6,7,9,10,11,12,17,18,20] (λg3=>[(4,J.of m2.1),(5,J.of m2.2)]) (λg3=>[]) (λg3=>?_) (λhm ag=>?_) λhm ag=>?_
  ·exact go
  ·have h:=fu ag c6;exact go
  have h:=fv ag c6;exact go
 exact go
def agx{hp Q}(h:Ll hp Q):lU prog 92 [] hp Q:=by
 unfold Ll at h;refine bL.of func92 I ntmps92 I λW A=>b3 (bA (dm o6) (h5 ?_));refine ae.H6 (α:=Vector aN 4) (β:=Int) 0 I (Cell.rC ([]:aa ((Vector aN 4)×Int))) (λ_=>rfl) I λbX qJ=>?_;replace h:=aj.qv h bX qJ;refine uB alZ al0 {vx:=(⟨some bX.1⟩:fj):sZ} (sn VJ .nil) ?_;refine ae.yA 0 I (Cell.Ea ({vx:=(⟨some bX.1⟩:fj):sZ})) (λ_=>rfl) (ah I) I λa2 pt=>?_;replace h:=aj.qv h a2 pt;refine dc (ca (ay.ret ?_));exact al.eC (⟨⟨((some a2.1:Ref),a2.2),h⟩,()⟩: {r // _}×_) (.refl _) I I (dn I)
def afb{ab ai r}(h:K1 ab ai=some r):dV prog 126 [J.of ab,J.ptr ai] (J.of r):=by
 unfold K1 at h;refine dV.of func126 I ntmps126 I λW A=>?_;exact go
def adZ{ab ai r}(h:Fg ab ai=some r):dV prog 125 [J.of ab,J.Bl prog ai] (J.of r):=by
 unfold Fg at h;refine dV.of func125 I ntmps125 I λW A=>?_;refine aO ?_;refine aA h λav an h=>fk (γ:=Unit) (δ:=Unit) an [0,1,7] (λs1 g1=>[(4,J.of (0:Int)),(8,J.of s1)]) (λs1 g1=>[]) (λaw=>Sum.elim (λaw=>Exit.exit 0) (λaw=>Exit.ret) aw) (λaw g1=>Sum.elim (λaw=>[(4,J.of (0:Int)),(8,J.of aw.1),(9,J.of aw.2)]) (λaw=>[(4,J.of aw.1),(5,J.of aw.2.1),(8,J.of aw.2.2.1),(9,J.of aw.2.2.2.1),(16,J.of aw.2.2.2.2)]) aw) (λaw g1=>[]) () (λs1 r h g1=>?_) λg1=>?_
 ·refine aO (λaJ cT h=>?_);refine aA h λao bs h=>bA (LL (ah I) (ah I) bs) ?_;exact go
 rcases av with av|av
 ·simp only[Sum.elim_inl]at h;exact go
 simp only[Sum.elim_inr]at h;exact go
def afN{ab r}(h:Pu ab=some r):bL prog 94 [J.of ab] [] (δ:=Nat×(aE Nat×Nat)) (λd=>J.cr d.1) (λd=>[⟨some d.1,.cu ({r with cz:=[]}:eh) [(10,aQ d.2.1 r.cz.length d.2.2)]⟩,⟨d.2.1,.row 54 r.cz d.2.2⟩]):=by
 unfold Pu at h;refine bL.of func94 I ntmps94 I λW A=>b3 (mq λbk=>?_);refine bA (dm o6) (h5 ?_);refine nC 0 rD ?_;refine bA (tZ (b:=({(default:eh)with mh:=ab}:eh)) [10] aiD I al1 al2 (.cons OG I (ah I) I (by rfl) (.nil))) ?_;refine ae.own (α:=aH) 54 (ae.aa3 (ah I) I λbn=>dc (ca (ay.ret ?_)));refine al.Nl (γ:=aH) (b':=({({(default:eh)with mh:=ab}:eh)with cz:=[]}:eh)) ((aP.id eh).comp CJ) 0 0 I I I (al.bt 1 I (al.bt 1 I ?_));cases h;exact sm (bn,(none,0))
def ag1{hp ab Q}(h:Lw hp ab Q):lU prog 29 [J.of ab] hp Q:=by
 unfold Lw at h;refine bL.of func29 I ntmps29 I λW A=>b3 (mq λbk=>?_);refine bA (dm o6) ?_;refine aO ?_;refine ae.H6 (α:=cx) (β:=k2) 1 I (Cell.tl ([]:aa (cx×k2))) (λ_=>rfl) I λbX qJ=>?_;replace h:=aj.qv h bX qJ;refine uB al3 al4 {mh:=ab,iM:=(⟨some bX.1⟩:fj):ri} (sn Vp (sn Vq .nil)) ?_;refine ae.yA 1 I (Cell.A8 ({mh:=ab,iM:=(⟨some bX.1⟩:fj):ri})) (λ_=>rfl) (ah I) I λa2 pt=>?_;replace h:=aj.qv h a2 pt;refine dc (ca (ay.ret ?_));exact al.eC (⟨⟨((some a2.1:Ref),a2.2),h⟩,()⟩: {r // _}×_) (fN 1) I I (dn I)
def agy{hp ab Q}(h:Lm hp ab Q):lU prog 30 [J.of ab] hp Q:=by
 unfold Lm at h;refine bL.of func30 I ntmps30 I λW A=>b3 (mq λbk=>?_);refine bA (dm o6) ?_;refine aO ?_;refine aj.bF h λao bs h=>bA (AA underlying29 wZ (ah I) .none (.some (ah I)) bs) ?_;refine uB al5 al6 ({(default:jS)with nW:=ao}:jS) (sn OH .nil) ?_;refine ae.yA 1 I (Cell.tm ({(default:jS)with nW:=ao}:jS)) (λ_=>rfl) (ah I) I λbX qJ=>?_;replace h:=aj.qv h bX qJ;refine dc (ca (ay.ret ?_));exact al.eC (⟨⟨((some bX.1:Ref),bX.2),h⟩,()⟩: {r // _}×_) (fN 1) I I (dn I)
def agz{ab r}(h:PH ab=some r):bL prog 10 [J.of ab] [] (δ:=Nat) (λd=>J.cr d) (λd=>[aI d r]):=by
 unfold PH at h;refine bL.of func10 I ntmps10 I λW A=>b3 (mq λbk=>?_);refine bA (dm (H5 (.pointer none))) ?_;refine aO λbp ez bn h=>?_;refine al.bt 0 I ?_;cases h;exact sm bn
def aeN{ab r}(h:Ga ab=some r):dV prog 11 [J.ptr ab] (J.of r):=by
 unfold Ga at h;refine dV.of func11 I ntmps11 I λW A=>?_;refine aO ?_;refine ay.fy 10 ?_;exact go
instance acn:fg prog 58 _ _ _ Dr J.of J.of J.of:=.i func58 I ntmps58 I λab ai r h W A=>by
 unfold Dr at h;exact go
def V6{ab bR r}(h:C5 ab=some r):l7 prog 49 [J.cr bR] bR ab (J.of r) ab:=by
 unfold C5 at h;refine bL.of func49 I ntmps49 I λW A=>b3 (bA (dm (look_nil (α:=bl))) (h5 ?_));refine ae.own (α:=bl) 52 (bA (dm mM) ?_);refine aO ?_;refine aA h λav an h=>fk (γ:=(aE Nat×Nat)) (δ:=(aE Nat×Nat)) an [0,2,9,10] (λs1 g1=>[(3,J.eq (aQ g1.1 s1.2.length g1.2)),(11,J.of s1.1)]) (λs1 g1=>[(0,⟨g1.1,.row 52 s1.2 g1.2⟩)]) (λaw=>Exit.exit 0) (λaw g1=>[(3,J.eq (aQ g1.1 aw.2.2.length g1.2)),(11,J.of aw.1),(12,J.of aw.2.1)]) (λaw g1=>[(0,⟨g1.1,.row 52 aw.2.2 g1.2⟩)]) (none,0) (λs1 r h g1=>?_) λg1=>?_
 ·refine go2 (λaJ cT bk h=>?_) (λh=>?_)
  ·refine aA h λao bs h=>jf 1 underlying121 oG MY bs λet dY=>?_;refine aO ?_;cases h;exact hA (et,dY) 1
  cases h;exact gq (g1.1,g1.2) 0
 refine aO ?_;exact al.kC (α:=bl) 0 [2,3,21] ⟨rfl,rfl,rfl,trivial⟩ I go
instance:fg prog 117 _ _ _ Hi J.of J.of J.of:=.i func117 I ntmps117 I λab ai r h W A=>by
 unfold Hi at h;refine aO λbk bn=>?_;refine bA (dm (look_nil (α:=e3))) (h5 ?_);refine ae.own (α:=e3) 127 (bA (dm mM) ?_);refine aO ?_;refine aA h λav an h=>fk (γ:=(aE Nat×Nat)) (δ:=(aE Nat×Nat)) an [0,1,2,3,4,9,10] (λs1 g1=>[(5,J.eq (aQ g1.1 s1.2.length g1.2)),(11,J.of s1.1)]) (λs1 g1=>[(0,⟨g1.1,.row 127 s1.2 g1.2⟩)]) (λaw=>Exit.exit 0) (λaw g1=>[(5,J.eq (aQ g1.1 aw.2.2.length g1.2)),(11,J.of aw.1),(12,J.of aw.2.1)]) (λaw g1=>[(0,⟨g1.1,.row 127 aw.2.2 g1.2⟩)]) (none,0) (λs1 r h g1=>?_) λg1=>?_
 ·refine go2 (λaJ cT b4 h=>?_) (λh=>?_)
  ·refine aA h λm1 bS h=>ix (γ:=(aE Nat×Nat)) [0,1,2,3,4,7,9,10,11,12,15] (λg2=>[(5,J.eq (aQ g2.1 m1.length g2.2))]) (λg2=>[(1,⟨g2.1,.row 127 m1 g2.2⟩)]) (λg2=>?_) (λhm ag=>?_) λhm ag=>?_
   ·refine aO ?_;cases h;exact hA (g2.1,g2.2) 1
   ·have h:=fu ag bS;refine ay.skip ?_;cases h;exact ed 0 (hm (g1.1,g1.2))
   have h:=fv ag bS;refine aO ?_;refine aA h λm2 c6 h=>ix (γ:=(aE Nat×Nat)) [0,1,2,3,4,7,9,10,11,12,15,21] (λg3=>[(5,J.eq (aQ g3.1 m2.length g3.2))]) (λg3=>[(1,⟨g3.1,.row 127 m2 g3.2⟩)]) (λg3=>?_) (λhm ag=>?_) λhm ag=>?_
   ·cases h;exact ed 0 (hm (g3.1,g3.2))
   ·have h:=fu ag c6;refine aA h λbx c4 h=>aA h λbp ez h=>ay.fy 14 ?_;refine aA h λao bs h=>jf 1 underlying119 pW DX bs λet dY=>?_;refine dc (ae.nil ?_);cases h;exact ed 0 (hm (et,dY))
   have h:=fv ag c6;refine aO ?_;refine aA h λm3 fZ h=>ix (γ:=(aE Nat×Nat)) [0,1,2,3,4,7,9,10,11,12,15,21,40] (λg4=>[(5,J.eq (aQ g4.1 m3.length g4.2))]) (λg4=>[(1,⟨g4.1,.row 127 m3 g4.2⟩)]) (λg4=>?_) (λhm ag=>?_) λhm ag=>?_
   ·cases h;exact ed 0 (hm (g4.1,g4.2))
   ·have h:=fu ag fZ;refine aA h λcB gr h=>aA h λz2 hi h=>ay.fy 13 ?_;refine aA h λaF b2 h=>jf 1 underlying119 pW DX b2 λkk mm=>?_;refine dc (ae.nil ?_);cases h;exact ed 0 (hm (kk,mm))
   have h:=fv ag fZ;refine ay.skip ?_;cases h;exact ed 0 (hm (g1.1,g1.2))
  cases h;exact gq (g1.1,g1.2) 0
 refine aO ?_;exact al.kC (α:=e3) 0 [4,5,61] ⟨rfl,rfl,rfl,trivial⟩ I go
instance:fg prog 119 _ _ _ GW J.of J.of J.of:=.i func119 I ntmps119 I λab ai r h W A=>by
 unfold GW at h;refine aO λbk bn=>?_;refine bA (dm (look_nil (α:=e3))) (h5 ?_);refine ae.own (α:=e3) 127 (bA (dm mM) ?_);refine aO ?_;refine aA h λav an h=>fk (γ:=(aE Nat×Nat)) (δ:=(aE Nat×Nat)) an [0,1,2,3,4,13,14] (λs1 g1=>[(5,J.eq (aQ g1.1 s1.2.length g1.2)),(15,J.of s1.1)]) (λs1 g1=>[(0,⟨g1.1,.row 127 s1.2 g1.2⟩)]) (λaw=>Exit.exit 0) (λaw g1=>[(5,J.eq (aQ g1.1 aw.2.2.length g1.2)),(15,J.of aw.1),(16,J.of aw.2.1)]) (λaw g1=>[(0,⟨g1.1,.row 127 aw.2.2 g1.2⟩)]) (none,0) (λs1 r h g1=>?_) λg1=>?_
 ·refine aco (λaJ cT b4 h=>?_) (λaJ cT b4 h=>?_) (λh=>?_)
  ·cases h;exact hA (g1.1,g1.2) 1
  ·refine aA h λbx c4 h=>aA h λbp ez h=>ay.mU 1 (ei [0,1,2,3,4,5,7,13,14,15,16,17,18,19,20,21,22,23] ?_);refine ay.rP 5 (az 24 [] [] _::az 25 [0] [0] _::az 26 [] [] _::az 27 [2] [0] _::az 28 [] [] _::az 29 [4] [2] _::az 30 [] [] _::az 31 [6] [0] _::az 32 [5,7] [] _::az 33 [8] [] _::az 34 [9] [] _::az 35 [1,3,10] [] _::qK 8 [] 4 12 _::fz [11,12] [4] [4] (λhd=>aI ((hd 12 0).getD 0) bp)::[]) (λcO=>?_);refine al.df (L2:=[aI b4 (ax ab.dj aJ:fD),⟨g1.1,.row 127 s1.2 g1.2⟩,aI bn ai,aI bk ab,aI ((cO 12 0).getD 0) bp]) I (eO ?_);refine al.bt 4 I (aO ?_);refine bA (rp (i:=2) underlying119 (ah I) I I) ?_;refine cD (ca (ay.block ?_));refine aA h λaS an h=>fk (γ:=Unit) (δ:=Unit) an [0,1,2,3,4,5,7,8,13,14,15,16,23,36,37] (λs2 g2=>[(9,J.of s2.1),(38,J.of s2.2)]) (λs2 g2=>[]) (λcH=>Exit.exit 2) (λcH g2=>[(9,J.of cH.1),(38,J.of cH.2.1),(39,J.of cH.2.2)]) (λcH g2=>[]) () (λs2 r h g2=>?_) λg2=>?_
   ·refine aO (λh=>?_);refine aA h λcB gr h=>bA (nr (i:=2) (k:=cB) (xs:=(s1.2:aa e3)) underlying119 pW (ah I) (ah I) I (cN gr)) ?_;refine bA (r7 (i:=2) (k:=cB) (aP.id e3) (r:=(ax s1.2 cB)) pW (ah I) I (cN gr).1 I I) ?_;exact go
   refine aO ?_;refine aA h λm1 bS h=>ix (γ:=(aE Nat×Nat)) [0,1,2,3,4,7,8,9,13,14,15,16,23,37,38,39,50] (λg3=>[(5,J.eq (aQ g3.1 m1.length g3.2))]) (λg3=>[(2,⟨g3.1,.row 127 m1 g3.2⟩)]) (λg3=>?_) (λhm ag=>?_) λhm ag=>?_
   ·refine aO ?_;cases h;exact hA (g3.1,g3.2) 2
   ·have h:=fu ag bS;refine aO ?_;refine aA h λao bs h=>jf 2 underlying119 pW DX bs λet dY=>?_;refine dc (ae.nil ?_);cases h;exact ed 0 (hm (et,dY))
   have h:=fv ag bS;refine ay.skip ?_;cases h;exact ed 0 (hm (g1.1,g1.2))
  cases h;exact gq (g1.1,g1.2) 0
 refine aO ?_;exact al.kC (α:=e3) 0 [4,5,56] ⟨rfl,rfl,rfl,trivial⟩ I go
def OI{ab bR iO iP r}(h:Fv ab=some r):bL prog 21 [J.cr bR] [⟨some bR,.cu ({ab with hX:=[]}:gy) [(3,aQ iO ab.hX.length iP)]⟩,⟨iO,.row 110 ab.hX iP⟩] (δ:=Unit) (λd=>J.of r) (λd=>[⟨some bR,.cu ({ab with hX:=[]}:gy) [(3,aQ iO ab.hX.length iP)]⟩,⟨iO,.row 110 ab.hX iP⟩]):=by
 unfold Fv at h;refine bL.of func21 I ntmps21 I λW A=>?_;refine aO ?_;refine bA (H7 underlying36 (ah I)) (ca ?_);refine ay.wR (ah I) I (aO ?_);refine bA (hZ (i:=0) (q:=0) (β:=gy) (γ:=gn) yB (ah I) I I) ?_;refine bA (rp (i:=1) underlying91 (ah I) I I) ?_;refine dc (ca (ay.ret ?_));refine al.bt 1 I (al.bt 1 I ?_);cases h;exact sm ()
def aed{ai JU r}(h:OP ai=some r):dV prog 264 [J.eq (.pointer JU),J.of ai] (J.lx 270 [J.zg (J.eq (.pointer JU)),J.ptr r]):=by
 unfold OP at h;refine dV.of func264 I ntmps264 I λW A=>b3 (ae.ao1 (ah I) ajC I (mq λbn=>?_));refine bA (dm (H5 .nilFunc)) (h5 ?_);refine ae.share (α:=Vector aN 4) 0 3 I I (bA (Ij (f:=270) (τs:=[J.zg (J.eq (.pointer JU)),J.ptr ai]) ⟨ah I,ah I,trivial⟩) ?_);exact go
instance aa4:lT prog 186 _ _ Hm J.of J.of:=.i func186 I ntmps186 I λab r h W A=>by
 unfold Hm at h;refine aO λbk bn b4=>?_;refine aA h λav an h=>fk (γ:=Unit) (δ:=Unit) an [0,1,2,3] (λs1 g1=>[(4,J.of s1.1)]) (λs1 g1=>[(0,aI b4 s1.2)]) (λaw=>Exit.exit 0) (λaw g1=>[(4,J.of aw.1),(6,J.of aw.2.1)]) (λaw g1=>[(0,aI b4 aw.2.2)]) () (λs1 r h g1=>?_) λg1=>?_
 ·refine aO (λaJ cT h=>?_);refine aA h λm1 bS h=>ix (γ:=Unit) [0,1,2,3,4,6,11] (λg2=>[]) (λg2=>[(0,aI b4 m1)]) (λg2=>?_) (λhm ag=>?_) λhm ag=>?_
  ·refine aO λbx c4 h=>?_;refine aA h λm2 c6 h=>ix (γ:=Unit) [0,1,2,3,4,6,11,22] (λg3=>[]) (λg3=>[(0,aI b4 m2)]) (λg3=>?_) (λhm ag=>?_) λhm ag=>?_
   ·exact go
   ·have h:=fu ag c6;refine ay.fc (dA (bY DB.fd) ?_);refine mW 0 vf lu ?_;refine cD ?_;refine dA (AF underlying3 underlying188) ?_;refine bA (HU (ua 1 I) (ah I)) ?_;refine dO AG ?_;refine dA (bY DB.fd) ?_;refine aA h λbp ez h=>I2 0 vf lu (hb:=by exact ez) ?_;exact go
   have h:=fv ag c6;exact go
  ·have h:=fu ag bS;refine ay.fc (dA (bY ud.fd) ?_);refine mW 0 ll lu ?_;refine cD ?_;refine dA (AF underlying3 underlying188) ?_;refine bA (HU (ua 1 I) (ah I)) ?_;refine dO AG ?_;refine dA (bY ud.fd) ?_;refine aA h λz2 hi h=>I2 0 ll lu (hb:=by exact hi) ?_;exact go
  have h:=fv ag bS;exact go
 exact go
def gN{ab ai bR r}(h:fU ab ai=some r):l7 prog 17 [J.cr bR,J.of ai] bR ab (J.of r.1) r.2:=by
 unfold fU at h;refine bL.of func17 I ntmps17 I λW A=>?_;refine aO ?_;refine aA h λao bs h=>ae.eH (dx.call [0] aa5 (afx bs) ⟨ah I,trivial⟩ I ⟨rfl,trivial⟩ I) I I I (aO (λh=>?_));refine aA h λaJ cT h=>aA h λaF b2 h=>ay.fy 14 ?_;exact go
instance:fg prog 95 _ _ _ G8 J.of J.of J.of:=.i func95 I ntmps95 I λab ai r h W A=>by
 unfold G8 at h;refine aO λbk=>?_;refine aA h λav an h=>fk (γ:=Unit) (δ:=Unit) an [0,1,2,8,9] (λs1 g1=>[(4,J.of (0:Int)),(10,J.of s1)]) (λs1 g1=>[]) (λaw=>Sum.elim (λaw=>Exit.exit 0) (λaw=>Exit.ret) aw) (λaw g1=>Sum.elim (λaw=>[(4,J.of (0:Int)),(10,J.of aw.1),(11,J.of aw.2)]) (λaw=>[(4,J.of aw.1),(10,J.of aw.2.1),(11,J.of aw.2.2.1),(17,J.of aw.2.2.2)]) aw) (λaw g1=>[]) () (λs1 r h g1=>?_) λg1=>?_
 ·exact go
 rcases av with av|av
 ·simp only[Sum.elim_inl]at h;exact go
 simp only[Sum.elim_inr]at h;exact go
instance acp:fg prog 61 _ _ _ Ah J.of J.of J.of:=.i func61 I ntmps61 I λab ai r h W A=>by
 unfold Ah at h;exact go
instance acq:fg prog 96 _ _ _ Lg J.of J.of J.of:=.i func96 I ntmps96 I λab ai r h W A=>by
 unfold Lg at h;exact go
instance acr:fg prog 60 _ _ _ C2 J.of J.of J.of:=.i func60 I ntmps60 I λab ai r h W A=>by
 unfold C2 at h;refine aO λbk bn=>?_;refine aA h λav an h=>fk (γ:=Unit) (δ:=Unit) an [0,1,2,4,8,9] (λs1 g1=>[(10,J.of s1)]) (λs1 g1=>[]) (λaw=>Sum.elim (λaw=>Exit.exit 0) (λaw=>Exit.ret) aw) (λaw g1=>Sum.elim (λaw=>[(10,J.of aw.1),(11,J.of aw.2)]) (λaw=>[(10,J.of aw.1),(11,J.of aw.2.1),(17,J.of aw.2.2.1)]) aw) (λaw g1=>Sum.elim (λaw=>[]) (λaw=>[(0,aI bn aw.2.2.2)]) aw) () (λs1 r h g1=>?_) λg1=>?_
 ·exact go
 rcases av with av|av
 ·simp only[Sum.elim_inl]at h;exact go
 simp only[Sum.elim_inr]at h;exact go
def CK{hp ab ai r}(h:ra hp ab ai=some r):hl prog 97 [J.of ab,J.of ai] hp (J.of r) hp:=by
 unfold ra at h;refine bL.of func97 I ntmps97 I λW A=>b3 (bA (dm o6) ?_);refine go2 (λh=>?_) (λbz dq c1 dv h=>?_)
 ·refine bA (dm o6) ?_;exact go
 refine aA h λcE fl h=>aA h λc2 eV h=>aA h λbp ez h=>bA (vm (r:=bp) underlying161 Bm ZG (ln (ah I) fl) (ah I) (jt (n:=0) I (yg eV) I) (dt ez)) ?_;exact go
instance:lT prog 215 _ _ x3 J.of J.of:=.i func215 I ntmps215 I λab r h W A=>by
 unfold x3 at h;refine aO λbk bn b4=>?_;refine aA h λao bs h=>bA (AA underlying49 vy (ah I) .none (.some (ah I)) bs) ?_;refine aO ?_;refine aA h λav an h=>fk (γ:=Unit) (δ:=Unit) an [0,1,2,3,12,13] (λs1 g1=>[(14,J.of s1.1)]) (λs1 g1=>[(0,aI b4 s1.2)]) (λaw=>Exit.exit 0) (λaw g1=>[(14,J.of aw.1),(15,J.of aw.2.1)]) (λaw g1=>[(0,aI b4 aw.2.2)]) () (λs1 r h g1=>?_) λg1=>?_
 ·exact go
 exact go
def Pv{hp ab ai r}(h:xW hp ab ai=some r):hl prog 214 [J.of ab,J.of ai] hp (J.bW [J.of r.1,J.of r.2]) hp:=by
 unfold xW at h;refine bL.of func214 I ntmps214 I λW A=>?_;refine aO (λbk h=>?_);refine aA h λbz dq h=>aA h λc1 dv h=>aA h λcE fl h=>aA h λc2 eV h=>aA h λbp ez h=>ei [0,1,3,4,5,8,9] ?_;refine ay.cf 1 (az 11 [] [] _::az 12 [0] [] _::az 13 [1] [] _::az 14 [2] [] _::az 15 [] [0] _::az 16 [3,4] [] (J.bW [J.of (bp.getD default),J.of bp.isSome])::az 10 [5] [] _::az 17 [6] [] _::az 18 [6] [] _::az 6 [7] [] _::az 7 [8] [] _::[]) (dK ?_ hR) (λcO=>?_)
 ·intro hd E' L' aD ar bZ;refine bA (P8 (r:=bp) underlying229 My so (ln (ah (aD _ _ I)) fl) (ah (aD _ _ I)) (jt (n:=1) (bZ.trans I) (vo eV) I) (dt ez)) (ae.nil ?_);exact al.fin (cJ []) I I
 refine al.df (L2:=(aI bk ai::a1 hp)) I (eO ?_);exact go
instance:fg prog 224 _ _ _ Cu J.of J.of (λr=>J.bW [J.of r.1,J.of r.2]):=.i func224 I ntmps224 I λab ai r h W A=>by
 unfold Cu at h;refine aO λbk bn b4 dd aJ cT lA bx c4 h=>?_;refine ei [0,1,2,3,4,5,6,7,8,9,10,11,12,13,14] ?_;refine ay.rP 5 (az 15 [] [3] _::az 16 [] [0] _::fz [0] [2] [2] (λhd=>aI b4 ((dJ ai bx (default:aN)):Vector aN 4))::fz [1] [1] [1] (λhd=>aI dd ((bE ai aJ):aN))::[]) (λcO=>?_);refine al.df (L2:=[aI lA (bE ai aJ:aN),aI dd ((bE ai aJ):aN),aI b4 ((dJ ai bx (default:aN)):Vector aN 4),aI bn (dJ ai bx (default:aN):Vector aN 4),aI bk ab]) I (eO ?_);exact go
instance:lT prog 237 _ _ Dg J.of J.of:=.i func237 I ntmps237 I λab r h W A=>by
 unfold Dg at h;exact go
instance:fg prog 236 _ _ _ Dk J.of J.of J.of:=.i func236 I ntmps236 I λab ai r h W A=>by
 unfold Dk at h;exact go
instance:fg prog 247 _ _ _ Hv J.of J.of J.of:=.i func247 I ntmps247 I λab ai r h W A=>by
 unfold Hv at h;exact go
instance:fg prog 226 _ _ _ x6 J.of J.of J.of:=.i func226 I ntmps226 I λab ai r h W A=>by
 unfold x6 at h;exact go
def Ld{ab ai aT r}(h:C3 ab ai aT=some r):dV prog 235 [J.of ab,J.of ai,J.of aT] (J.lx 242 [J.ptr r.1,J.ptr r.2.1,J.ptr r.2.2]):=by
 unfold C3 at h;refine dV.of func235 I ntmps235 I λW A=>?_;refine aO λbk bn b4=>?_;refine bA (dm (H5 .nilFunc)) (h5 ?_);refine ae.share (α:=Int) 0 5 I I (ae.share (α:=aN) 1 4 I I (ae.share (α:=Ref) 2 3 I I (bA (Ij (f:=242) (τs:=[J.ptr aT,J.ptr ai,J.ptr ab]) ⟨ah I,ah I,ah I,trivial⟩) ?_)));exact go
instance:lT prog 169 _ _ Ky J.of J.of:=.i func169 I ntmps169 I λab r h W A=>by
 unfold Ky at h;refine b3 (bA (dm (look_nil (α:=cG))) ?_);refine aO ?_;refine bA (ZH underlying49 (ah I)) (ca ?_);refine ay.ZI (ah I) (λau=>?_) ?_
 ·subst au;replace h:=WV h;subst h;have h:some ([]:aa cG)=some []:=rfl;refine b3 (bA (dm (look_nil (α:=cG))) (ca (ay.ret (al.ret ?_))));replace h:=dt h;exact uC
 refine k9 (b3 (ae.si (α:=cG) (r:=([]:aa cG)) underlying49 vy Ik I I (.nil) I λet=>cD ?_));refine aA h λao bs h=>jf 0 underlying49 vy Ik bs λkk dY=>?_;refine dc (ca (ay.ret ?_));exact al.kC (α:=cG) 0 [2,7] ⟨rfl,rfl,trivial⟩ I go
def VK{hp ab ai r}(h:CB hp ab ai=some r):hl prog 102 [J.of ab,J.of ai] hp (J.of r) hp:=by
 unfold CB at h;refine bL.of func102 I ntmps102 I λW A=>?_;refine aO ?_;refine ay.scope (go2 (λh=>?_) (λh=>?_))
 ·exact al.aa6 go
 refine ay.label (aO λbz dq c1 dv h=>?_);refine aA h λav an h=>tw (σ:=Int) (ε:=(Int×Int×Bool)) (γ:=Unit) (δ:=Unit) an 0 [0,1,4,9,14,15] (λs1 g1=>[(5,J.of (-1)),(16,J.of s1)]) (λs1 g1=>[]) (λs1 g1=>a1 hp) (λaw=>Exit.exit 0) (λaw g1=>[(5,J.of aw.1),(16,J.of aw.2.1),(17,J.of aw.2.2)]) (λaw g1=>[]) (λaw g1=>a1 hp) () (λs1 r h g1=>?_) (λg1=>?_)
 ·exact go
 refine aO ?_;exact al.aa6 go
def V0{hp ab r}(h:CW hp ab=some r):hl prog 239 [J.of ab] hp (J.of r) hp:=by
 unfold CW at h;refine bL.of func239 I ntmps239 I λW A=>b3 (dc (h5 ?_));refine cD ?_;refine aA h λbz dq h=>bA (jq (j2 (ah I) dq)) ?_;refine dA (bY ajD.fd) ?_;refine aA h λc1 dv h=>bA (o8 ((aP.id e9).comp Gt) (r:=c1.gP) la (ah I) (jt (n:=0) I (sb dv) I) I I) ?_;refine dA oC ?_;refine cD ?_;refine hN cY ?_;refine aA h λcE fl h=>iX (λhb=>jq (j2 (ck I hb) (fi fl hb))) ?_;refine hN (bY L1.fd) ?_;refine aA h λc2 eV h=>iX (λhb=>o8 ((aP.id e9).comp Cr) (r:=c2.dF) ZJ (ck I hb) (jt (n:=0) I (sb (fi eV hb)) I) I I) ?_;refine iX (λhb=>aiE (b:=(default:Vector Ref 2)) (sz:=1) I underlying328 (by kernel_rfl) al7 (.nil)) ?_;refine iX (λhb=>aiF underlying328 kF underlying326 akL (ck I hb) (ck I hb) al8) ?_;refine Ev ?_;refine dc (ca (ay.ret ?_));cases h;exact al.eC () (.refl _) I I (dn I)
def aej{hp ab ai aT cR uD Qp Qq r}(h:KK hp ab ai aT cR=some r):bL prog 246 [J.of ab,J.of ai,J.of aT,J.cr uD] ([⟨some uD,.cu ([]:aa fC) [(0,aQ Qp cR.length Qq)]⟩,⟨Qp,.row 342 cR Qq⟩]++a1 hp) (δ:=(aE Nat×Nat)) (λd=>J.bW []) (λd=>[⟨some uD,.cu ([]:aa fC) [(0,aQ d.1 r.length d.2)]⟩,⟨d.1,.row 342 r d.2⟩]++a1 hp):=by
 unfold KK at h;refine bL.of func246 I ntmps246 I λW A=>?_;refine aO λbk bz dq c1 dv h=>?_;refine aA h λm1 bS h=>qL (γ:=(aE Nat×Nat)) 3 [0,1,2,3,5,10] (λg1=>[]) (λg1=>[(1,⟨some uD,.cu ([]:aa fC) [(0,aQ g1.1 m1.length g1.2)]⟩),(2,⟨g1.1,.row 342 m1 g1.2⟩)]) (λg1=>a1 hp) (λg1=>?_) (λhm ag=>?_) (λhm ag=>?_)
 ·refine al.lv (al.bt 2 I (al.bt 2 I ?_));cases h;exact al.ns (g1.1,g1.2) (.cons_cons _ (.cons_cons _ (.cons _ (.refl _)))) I I
 ·have h:=fu ag bS;refine ay.kM mixed 9 (rg 11 9) [[],[],[],[],[3],[4],[5],[1,2,6],[7]] [_,_,_,_,_,_,_,_,_] ⟨fA λar=>hZ (i:=1) (q:=0) (β:=aa fC) (γ:=fC) RO (ah I) (ar _ _ I I) I,sq 0 fw,fh,fh,fA λar=>jq (j2 (ah I) dq),H1 (bY ajE.fd),fA λar=>o8 ((aP.id e9).comp K9) (r:=c1.j5) ch (ah I) (pj (λi e q=>ar i e q I) (jt (n:=3) I (sb dv) I)) I I,fA λar=>kD (b:= {cc:=ai,Av:=aT,b6:=c1.j5:fC}) I al9 RP (.cons aek I (ah I) I (.cons aee I (ah I) I (.cons afc I (ah I) I (.nil)))),fA λar=>AV (r:=[{cc:=ai,Av:=aT,b6:=c1.j5:fC}]) underlying337 RQ RP I I (.cons (by simp) (ah I) (.nil)),trivial⟩ ?_;refine aA h λao bs h=>jf 2 underlying337 RQ RP bs λet dY=>?_;refine ae.j3 (i:=1) (γ:=fC) (b':=([]:aa fC)) (os':=[(0,aQ et ao.length dY)]) (aP.id (aa fC)) RO (ah I) (ah I) jn I I I I (ae.nil ?_);cases h;exact ed 0 (hm (et,dY))
 have h:=fv ag bS;refine ay.skip ?_;cases h;exact ed 0 (hm (Qp,Qq))
instance aa7:lT prog 251 _ _ PN J.of J.of:=.i func251 I ntmps251 I λab r h W A=>by
 unfold PN at h;exact go
instance aa8:fg prog 250 _ _ _ Hn J.of J.of J.of:=.i func250 I ntmps250 I λab ai r h W A=>by
 unfold Hn at h;exact go
instance aa9:fg prog 249 _ _ _ PO J.of J.of J.of:=.i func249 I ntmps249 I λab ai r h W A=>by
 unfold PO at h;exact go
instance:lT prog 106 _ _ Ai J.of J.of:=.i func106 I ntmps106 I λab r h W A=>by
 unfold Ai at h;refine b3 (mq λbk=>?_);refine jv ZK λbn=>h5 ?_;refine ae.sc (z:=(default:Vector (aa Int) 6)) [0,1,2,3,4,5] afO ZK I λb4=>ae.own (α:=Int) 3 (ae.own (α:=Int) 3 (ae.own (α:=Int) 3 (ae.own (α:=Int) 3 (ae.own (α:=Int) 3 (ae.own (α:=Int) 3 (aO ?_))))));refine aA h λav an h=>fk (γ:=(aE Nat×Nat)) (δ:=(aE Nat×Nat)) an [0,1,2,3,17,18] (λs1 g1=>[(19,J.of s1.1)]) (λs1 g1=>[(5,⟨g1.1,.row 3 s1.2.1 g1.2⟩),(6,⟨some b4,.cu s1.2.2 [(0,aQ g1.1 s1.2.1.length g1.2),(1,aQ none ([]:aa Int).length 0),(2,aQ none ([]:aa Int).length 0),(3,aQ none ([]:aa Int).length 0),(4,aQ none ([]:aa Int).length 0),(5,aQ none ([]:aa Int).length 0)]⟩)]) (λaw=>Exit.exit 0) (λaw g1=>[(19,J.of aw.1),(20,J.of aw.2.1)]) (λaw g1=>[(5,⟨g1.1,.row 3 aw.2.2.1 g1.2⟩),(6,⟨some b4,.cu aw.2.2.2 [(0,aQ g1.1 aw.2.2.1.length g1.2),(1,aQ none ([]:aa Int).length 0),(2,aQ none ([]:aa Int).length 0),(3,aQ none ([]:aa Int).length 0),(4,aQ none ([]:aa Int).length 0),(5,aQ none ([]:aa Int).length 0)]⟩)]) (none,0) (λs1 r h g1=>?_) λg1=>?_
 ·refine go2 (λaJ cT dd h=>?_) (λh=>?_)
  ·refine bA (hz (k:=0) tf (ah I) (de 0) ⟨by decide,rfl⟩) ?_;refine bA (hZ (i:=7) (q:=0) (β:=Vector (aa Int) 6) (γ:=Int) lL (ah I) I I) ?_;refine aO ?_;refine aA h λao bs h=>jf 6 underlying56 ch so bs λet dY=>?_;refine bA (hz (k:=0) tf (ah I) (de 0) ⟨by decide,rfl⟩) ?_;refine ae.j3 (i:=7) (γ:=Int) (b':=(dJ s1.2.2 0 []:Vector (aa Int) 6)) (os':=[(0,aQ et ao.length dY),(1,aQ none ([]:aa Int).length 0),(2,aQ none ([]:aa Int).length 0),(3,aQ none ([]:aa Int).length 0),(4,aQ none ([]:aa Int).length 0),(5,aQ none ([]:aa Int).length 0)]) ((aP.id (Vector (aa Int) 6)).comp (aP.idx (α:=aa Int) 6 0 (by decide))) lL (ah I) (ah I) jn I I I I ?_;refine aO ?_;cases h;exact hA (et,dY) 1
  cases h;exact gq (g1.1,g1.2) 0
 refine aO ?_;refine aA h λaS an h=>fk (γ:=(aE Nat×Nat)) (δ:=(aE Nat×Nat)) an [0,1,2,3,17,18,19,20,32,33] (λs2 g2=>[(34,J.of s2.1)]) (λs2 g2=>[(4,⟨g2.1,.row 3 s2.2.1 g2.2⟩),(6,⟨some b4,.cu s2.2.2 [(0,aQ g1.1 av.2.2.1.length g1.2),(1,aQ g2.1 s2.2.1.length g2.2),(2,aQ none ([]:aa Int).length 0),(3,aQ none ([]:aa Int).length 0),(4,aQ none ([]:aa Int).length 0),(5,aQ none ([]:aa Int).length 0)]⟩)]) (λcH=>Exit.exit 2) (λcH g2=>[(34,J.of cH.1),(35,J.of cH.2.1)]) (λcH g2=>[(4,⟨g2.1,.row 3 cH.2.2.1 g2.2⟩),(6,⟨some b4,.cu cH.2.2.2 [(0,aQ g1.1 av.2.2.1.length g1.2),(1,aQ g2.1 cH.2.2.1.length g2.2),(2,aQ none ([]:aa Int).length 0),(3,aQ none ([]:aa Int).length 0),(4,aQ none ([]:aa Int).length 0),(5,aQ none ([]:aa Int).length 0)]⟩)]) (none,0) (λs2 r h g2=>?_) λg2=>?_
 ·refine go2 (λbx c4 lA h=>?_) (λh=>?_)
  ·refine bA (hz (k:=1) tf (ah I) (de 1) ⟨by decide,rfl⟩) ?_;refine bA (hZ (i:=7) (q:=1) (β:=Vector (aa Int) 6) (γ:=Int) lL (ah I) I I) ?_;refine aO ?_;refine aA h λaF b2 h=>jf 5 underlying56 ch so b2 λkk mm=>?_;refine bA (hz (k:=1) tf (ah I) (de 1) ⟨by decide,rfl⟩) ?_;refine ae.j3 (i:=7) (γ:=Int) (b':=(dJ s2.2.2 1 []:Vector (aa Int) 6)) (os':=[(0,aQ g1.1 av.2.2.1.length g1.2),(1,aQ kk aF.length mm),(2,aQ none ([]:aa Int).length 0),(3,aQ none ([]:aa Int).length 0),(4,aQ none ([]:aa Int).length 0),(5,aQ none ([]:aa Int).length 0)]) ((aP.id (Vector (aa Int) 6)).comp (aP.idx (α:=aa Int) 6 1 (by decide))) lL (ah I) (ah I) jn I I I I ?_;refine aO ?_;cases h;exact hA (kk,mm) 1
  cases h;exact gq (g2.1,g2.2) 0
 refine aO ?_;refine aA h λcM an h=>fk (γ:=(aE Nat×Nat)) (δ:=(aE Nat×Nat)) an [0,1,2,3,17,18,19,20,32,33,34,35,47,48] (λgB g3=>[(49,J.of gB.1)]) (λgB g3=>[(3,⟨g3.1,.row 3 gB.2.1 g3.2⟩),(6,⟨some b4,.cu gB.2.2 [(0,aQ g1.1 av.2.2.1.length g1.2),(1,aQ g2.1 aS.2.2.1.length g2.2),(2,aQ g3.1 gB.2.1.length g3.2),(3,aQ none ([]:aa Int).length 0),(4,aQ none ([]:aa Int).length 0),(5,aQ none ([]:aa Int).length 0)]⟩)]) (λeI=>Exit.exit 4) (λeI g3=>[(49,J.of eI.1),(50,J.of eI.2.1)]) (λeI g3=>[(3,⟨g3.1,.row 3 eI.2.2.1 g3.2⟩),(6,⟨some b4,.cu eI.2.2.2 [(0,aQ g1.1 av.2.2.1.length g1.2),(1,aQ g2.1 aS.2.2.1.length g2.2),(2,aQ g3.1 eI.2.2.1.length g3.2),(3,aQ none ([]:aa Int).length 0),(4,aQ none ([]:aa Int).length 0),(5,aQ none ([]:aa Int).length 0)]⟩)]) (none,0) (λgB r h g3=>?_) λg3=>?_
 ·refine go2 (λcB gr pF h=>?_) (λh=>?_)
  ·refine bA (hz (k:=2) tf (ah I) (de 2) ⟨by decide,rfl⟩) ?_;refine bA (hZ (i:=7) (q:=2) (β:=Vector (aa Int) 6) (γ:=Int) lL (ah I) I I) ?_;refine aO ?_;refine aA h λbg dR h=>jf 4 underlying56 ch so dR λnw rE=>?_;refine bA (hz (k:=2) tf (ah I) (de 2) ⟨by decide,rfl⟩) ?_;refine ae.j3 (i:=7) (γ:=Int) (b':=(dJ gB.2.2 2 []:Vector (aa Int) 6)) (os':=[(0,aQ g1.1 av.2.2.1.length g1.2),(1,aQ g2.1 aS.2.2.1.length g2.2),(2,aQ nw bg.length rE),(3,aQ none ([]:aa Int).length 0),(4,aQ none ([]:aa Int).length 0),(5,aQ none ([]:aa Int).length 0)]) ((aP.id (Vector (aa Int) 6)).comp (aP.idx (α:=aa Int) 6 2 (by decide))) lL (ah I) (ah I) jn I I I I ?_;refine aO ?_;cases h;exact hA (nw,rE) 1
  cases h;exact gq (g3.1,g3.2) 0
 refine aO ?_;refine aA h λeW an h=>fk (γ:=(aE Nat×Nat)) (δ:=(aE Nat×Nat)) an [0,1,2,3,17,18,19,20,32,33,34,35,47,48,49,50,62,63] (λjP g4=>[(64,J.of jP.1)]) (λjP g4=>[(2,⟨g4.1,.row 3 jP.2.1 g4.2⟩),(6,⟨some b4,.cu jP.2.2 [(0,aQ g1.1 av.2.2.1.length g1.2),(1,aQ g2.1 aS.2.2.1.length g2.2),(2,aQ g3.1 cM.2.2.1.length g3.2),(3,aQ g4.1 jP.2.1.length g4.2),(4,aQ none ([]:aa Int).length 0),(5,aQ none ([]:aa Int).length 0)]⟩)]) (λhn=>Exit.exit 6) (λhn g4=>[(64,J.of hn.1),(65,J.of hn.2.1)]) (λhn g4=>[(2,⟨g4.1,.row 3 hn.2.2.1 g4.2⟩),(6,⟨some b4,.cu hn.2.2.2 [(0,aQ g1.1 av.2.2.1.length g1.2),(1,aQ g2.1 aS.2.2.1.length g2.2),(2,aQ g3.1 cM.2.2.1.length g3.2),(3,aQ g4.1 hn.2.2.1.length g4.2),(4,aQ none ([]:aa Int).length 0),(5,aQ none ([]:aa Int).length 0)]⟩)]) (none,0) (λjP r h g4=>?_) λg4=>?_
 ·refine go2 (λfo jw BY h=>?_) (λh=>?_)
  ·refine bA (hz (k:=3) tf (ah I) (de 3) ⟨by decide,rfl⟩) ?_;refine bA (hZ (i:=7) (q:=3) (β:=Vector (aa Int) 6) (γ:=Int) lL (ah I) I I) ?_;refine aO ?_;refine aA h λbw e5 h=>jf 3 underlying56 ch so e5 λsj Iz=>?_;refine bA (hz (k:=3) tf (ah I) (de 3) ⟨by decide,rfl⟩) ?_;refine ae.j3 (i:=7) (γ:=Int) (b':=(dJ jP.2.2 3 []:Vector (aa Int) 6)) (os':=[(0,aQ g1.1 av.2.2.1.length g1.2),(1,aQ g2.1 aS.2.2.1.length g2.2),(2,aQ g3.1 cM.2.2.1.length g3.2),(3,aQ sj bw.length Iz),(4,aQ none ([]:aa Int).length 0),(5,aQ none ([]:aa Int).length 0)]) ((aP.id (Vector (aa Int) 6)).comp (aP.idx (α:=aa Int) 6 3 (by decide))) lL (ah I) (ah I) jn I I I I ?_;refine aO ?_;cases h;exact hA (sj,Iz) 1
  cases h;exact gq (g4.1,g4.2) 0
 refine aO ?_;refine aA h λjY an h=>fk (γ:=(aE Nat×Nat)) (δ:=(aE Nat×Nat)) an [0,1,2,3,17,18,19,20,32,33,34,35,47,48,49,50,62,63,64,65,77,78] (λjZ g5=>[(79,J.of jZ.1)]) (λjZ g5=>[(1,⟨g5.1,.row 3 jZ.2.1 g5.2⟩),(6,⟨some b4,.cu jZ.2.2 [(0,aQ g1.1 av.2.2.1.length g1.2),(1,aQ g2.1 aS.2.2.1.length g2.2),(2,aQ g3.1 cM.2.2.1.length g3.2),(3,aQ g4.1 eW.2.2.1.length g4.2),(4,aQ g5.1 jZ.2.1.length g5.2),(5,aQ none ([]:aa Int).length 0)]⟩)]) (λc7=>Exit.exit 8) (λc7 g5=>[(79,J.of c7.1),(80,J.of c7.2.1)]) (λc7 g5=>[(1,⟨g5.1,.row 3 c7.2.2.1 g5.2⟩),(6,⟨some b4,.cu c7.2.2.2 [(0,aQ g1.1 av.2.2.1.length g1.2),(1,aQ g2.1 aS.2.2.1.length g2.2),(2,aQ g3.1 cM.2.2.1.length g3.2),(3,aQ g4.1 eW.2.2.1.length g4.2),(4,aQ g5.1 c7.2.2.1.length g5.2),(5,aQ none ([]:aa Int).length 0)]⟩)]) (none,0) (λjZ r h g5=>?_) λg5=>?_
 ·refine go2 (λl8 yO au5 h=>?_) (λh=>?_)
  ·refine bA (hz (k:=4) tf (ah I) (de 4) ⟨by decide,rfl⟩) ?_;refine bA (hZ (i:=7) (q:=4) (β:=Vector (aa Int) 6) (γ:=Int) lL (ah I) I I) ?_;refine aO ?_;refine aA h λcd hB h=>jf 2 underlying56 ch so hB λvC aba=>?_;refine bA (hz (k:=4) tf (ah I) (de 4) ⟨by decide,rfl⟩) ?_;refine ae.j3 (i:=7) (γ:=Int) (b':=(dJ jZ.2.2 4 []:Vector (aa Int) 6)) (os':=[(0,aQ g1.1 av.2.2.1.length g1.2),(1,aQ g2.1 aS.2.2.1.length g2.2),(2,aQ g3.1 cM.2.2.1.length g3.2),(3,aQ g4.1 eW.2.2.1.length g4.2),(4,aQ vC cd.length aba),(5,aQ none ([]:aa Int).length 0)]) ((aP.id (Vector (aa Int) 6)).comp (aP.idx (α:=aa Int) 6 4 (by decide))) lL (ah I) (ah I) jn I I I I ?_;refine aO ?_;cases h;exact hA (vC,aba) 1
  cases h;exact gq (g5.1,g5.2) 0
 refine aO ?_;refine aA h λl9 an h=>fk (γ:=(aE Nat×Nat)) (δ:=(aE Nat×Nat)) an [0,1,2,3,17,18,19,20,32,33,34,35,47,48,49,50,62,63,64,65,77,78,79,80,92,93] (λkY g6=>[(94,J.of kY.1)]) (λkY g6=>[(0,⟨g6.1,.row 3 kY.2.1 g6.2⟩),(6,⟨some b4,.cu kY.2.2 [(0,aQ g1.1 av.2.2.1.length g1.2),(1,aQ g2.1 aS.2.2.1.length g2.2),(2,aQ g3.1 cM.2.2.1.length g3.2),(3,aQ g4.1 eW.2.2.1.length g4.2),(4,aQ g5.1 jY.2.2.1.length g5.2),(5,aQ g6.1 kY.2.1.length g6.2)]⟩)]) (λgL=>Exit.exit 10) (λgL g6=>[(94,J.of gL.1),(95,J.of gL.2.1)]) (λgL g6=>[(0,⟨g6.1,.row 3 gL.2.2.1 g6.2⟩),(6,⟨some b4,.cu gL.2.2.2 [(0,aQ g1.1 av.2.2.1.length g1.2),(1,aQ g2.1 aS.2.2.1.length g2.2),(2,aQ g3.1 cM.2.2.1.length g3.2),(3,aQ g4.1 eW.2.2.1.length g4.2),(4,aQ g5.1 jY.2.2.1.length g5.2),(5,aQ g6.1 gL.2.2.1.length g6.2)]⟩)]) (none,0) (λkY r h g6=>?_) λg6=>?_
 ·refine go2 (λoU yP au6 h=>?_) (λh=>?_)
  ·refine bA (hz (k:=5) tf (ah I) (de 5) ⟨by decide,rfl⟩) ?_;refine bA (hZ (i:=7) (q:=5) (β:=Vector (aa Int) 6) (γ:=Int) lL (ah I) I I) ?_;refine aO ?_;refine aA h λcj ih h=>jf 1 underlying56 ch so ih λIA abb=>?_;refine bA (hz (k:=5) tf (ah I) (de 5) ⟨by decide,rfl⟩) ?_;refine ae.j3 (i:=7) (γ:=Int) (b':=(dJ kY.2.2 5 []:Vector (aa Int) 6)) (os':=[(0,aQ g1.1 av.2.2.1.length g1.2),(1,aQ g2.1 aS.2.2.1.length g2.2),(2,aQ g3.1 cM.2.2.1.length g3.2),(3,aQ g4.1 eW.2.2.1.length g4.2),(4,aQ g5.1 jY.2.2.1.length g5.2),(5,aQ IA cj.length abb)]) ((aP.id (Vector (aa Int) 6)).comp (aP.idx (α:=aa Int) 6 5 (by decide))) lL (ah I) (ah I) jn I I I I ?_;refine aO ?_;cases h;exact hA (IA,abb) 1
  cases h;exact gq (g6.1,g6.2) 0
 refine al.k5 (al.next (b3 (ae.nx (β:=Vector (aa Int) 6) (γ:=Int) (b':=(dJ l9.2.2.2 0 av.2.2.1:Vector (aa Int) 6)) ((aP.id (Vector (aa Int) 6)).comp (aP.idx (α:=aa Int) 6 0 (by decide))) 6 5 0 I I I I I I ?_)));refine ae.nx (β:=Vector (aa Int) 6) (γ:=Int) (b':=(dJ (dJ l9.2.2.2 0 av.2.2.1) 1 aS.2.2.1:Vector (aa Int) 6)) ((aP.id (Vector (aa Int) 6)).comp (aP.idx (α:=aa Int) 6 1 (by decide))) 6 4 0 I I I I I I ?_;refine ae.nx (β:=Vector (aa Int) 6) (γ:=Int) (b':=(dJ (dJ (dJ l9.2.2.2 0 av.2.2.1) 1 aS.2.2.1) 2 cM.2.2.1:Vector (aa Int) 6)) ((aP.id (Vector (aa Int) 6)).comp (aP.idx (α:=aa Int) 6 2 (by decide))) 6 3 0 I I I I I I ?_;refine ae.nx (β:=Vector (aa Int) 6) (γ:=Int) (b':=(dJ (dJ (dJ (dJ l9.2.2.2 0 av.2.2.1) 1 aS.2.2.1) 2 cM.2.2.1) 3 eW.2.2.1:Vector (aa Int) 6)) ((aP.id (Vector (aa Int) 6)).comp (aP.idx (α:=aa Int) 6 3 (by decide))) 6 2 0 I I I I I I ?_;refine ae.nx (β:=Vector (aa Int) 6) (γ:=Int) (b':=(dJ (dJ (dJ (dJ (dJ l9.2.2.2 0 av.2.2.1) 1 aS.2.2.1) 2 cM.2.2.1) 3 eW.2.2.1) 4 jY.2.2.1:Vector (aa Int) 6)) ((aP.id (Vector (aa Int) 6)).comp (aP.idx (α:=aa Int) 6 4 (by decide))) 6 1 0 I I I I I I ?_;refine ae.nx (β:=Vector (aa Int) 6) (γ:=Int) (b':=(dJ (dJ (dJ (dJ (dJ (dJ l9.2.2.2 0 av.2.2.1) 1 aS.2.2.1) 2 cM.2.2.1) 3 eW.2.2.1) 4 jY.2.2.1) 5 l9.2.2.1:Vector (aa Int) 6)) ((aP.id (Vector (aa Int) 6)).comp (aP.idx (α:=aa Int) 6 5 (by decide))) 6 0 0 I I I I I I ?_;exact ae.tg 6 I go
instance:fg prog 105 _ _ _ wo J.of J.of J.of:=.i func105 I ntmps105 I λab ai r h W A=>by
 unfold wo at h;refine aO ?_;refine aA h λav an h=>fk (γ:=Unit) (δ:=Unit) an [0,1,7,8] (λs1 g1=>[(4,J.of (0:Int)),(9,J.of s1)]) (λs1 g1=>[]) (λaw=>Sum.elim (λaw=>Exit.exit 0) (λaw=>Exit.ret) aw) (λaw g1=>Sum.elim (λaw=>[(4,J.of (0:Int)),(9,J.of aw.1),(10,J.of aw.2)]) (λaw=>[(4,J.of aw.1),(5,J.of aw.2.1),(6,J.of aw.2.2.1),(9,J.of aw.2.2.2.1),(10,J.of aw.2.2.2.2.1),(16,J.of aw.2.2.2.2.2)]) aw) (λaw g1=>[]) () (λs1 r h g1=>?_) λg1=>?_
 ·exact go
 rcases av with av|av
 ·simp only[Sum.elim_inl]at h;exact go
 simp only[Sum.elim_inr]at h;exact go
instance tn:lT prog 166 _ _ vj J.of J.of:=.i func166 I ntmps166 I λab r h W A=>by
 unfold vj at h;refine aO λbk bn b4=>?_;refine aA h λav an h=>fk (γ:=Unit) (δ:=Unit) an [0,1,2,3] (λs1 g1=>[(4,J.of s1.1)]) (λs1 g1=>[(0,aI b4 s1.2)]) (λaw=>Exit.exit 0) (λaw g1=>[(4,J.of aw.1),(6,J.of aw.2.1)]) (λaw g1=>[(0,aI b4 aw.2.2)]) () (λs1 r h g1=>?_) λg1=>?_
 ·refine aO (λh=>?_);refine aA h λaJ cT h=>aA h λbp ez h=>aA h λbx c4 h=>aA h λz2 hi h=>ei [0,1,2,3,4,5,6] ?_;refine ay.rP 3 (az 9 [] [] _::az 10 [] [] _::az 11 [1] [] _::az 12 [] [] _::az 13 [3] [2] _::az 14 [] [] _::az 15 [5] [] _::az 16 [4,6] [] _::az 17 [7] [] _::az 18 [8] [] _::az 19 [] [] _::az 20 [10] [2] _::az 21 [] [] _::az 22 [12] [] _::az 23 [11,13] [] _::az 24 [14] [] _::az 25 [15] [] _::az 26 [0] [] _::fz [9,17] [0] [0] (λhd=>aI b4 bp)::az 27 [2] [] _::fz [16,18,19] [0] [0] (λhd=>aI b4 z2)::[]) (λcO=>?_);refine al.df (L2:=[aI b4 z2,aI bn (default:Vector Bool 128),aI bk ab]) I (eO ?_);exact go
 exact go
instance:fg prog 133 _ _ _ r4 J.of J.of J.of:=.i func133 I ntmps133 I λab ai r h W A=>by
 unfold r4 at h;exact go
def Pb{ab ai bR r}(h:zR ab ai=some r):l7 prog 44 [J.cr bR,J.of ai] bR ab (J.of r) ab:=by
 unfold zR at h;refine bL.of func44 I ntmps44 I λW A=>b3 (bA (dm (look_nil (α:=aH))) (h5 ?_));refine ae.own (α:=aH) 54 (bA (dm mM) ?_);refine aO ?_;refine aA h λav an h=>fk (γ:=(aE Nat×Nat)) (δ:=(aE Nat×Nat)) an [0,1,4,11,12] (λs1 g1=>[(5,J.eq (aQ g1.1 s1.2.length g1.2)),(13,J.of s1.1)]) (λs1 g1=>[(0,⟨g1.1,.row 54 s1.2 g1.2⟩)]) (λaw=>Exit.exit 0) (λaw g1=>[(5,J.eq (aQ g1.1 aw.2.2.length g1.2)),(13,J.of aw.1),(14,J.of aw.2.1)]) (λaw g1=>[(0,⟨g1.1,.row 54 aw.2.2 g1.2⟩)]) (none,0) (λs1 r h g1=>?_) λg1=>?_
 ·refine go2 (λaJ cT bk h=>?_) (λh=>?_)
  ·refine aA h λm1 bS h=>ix (γ:=(aE Nat×Nat)) [0,1,4,7,11,12,13,14,21] (λg2=>[(5,J.eq (aQ g2.1 m1.length g2.2))]) (λg2=>[(1,⟨g2.1,.row 54 m1 g2.2⟩)]) (λg2=>?_) (λhm ag=>?_) λhm ag=>?_
   ·refine aO ?_;cases h;exact hA (g2.1,g2.2) 1
   ·have h:=fu ag bS;refine aO ?_;refine aA h λao bs h=>jf 1 underlying43 dZ kl bs λet dY=>?_;refine dc (ae.nil ?_);cases h;exact ed 0 (hm (et,dY))
   have h:=fv ag bS;refine ay.skip ?_;cases h;exact ed 0 (hm (g1.1,g1.2))
  cases h;exact gq (g1.1,g1.2) 0
 refine aO ?_;exact al.kC (α:=aH) 0 [4,5,27] ⟨rfl,rfl,rfl,trivial⟩ I go
def V7{ab ai r}(h:C6 ab ai=some r):dV prog 50 [J.ptr ab,J.of ai] (J.of r):=by
 unfold C6 at h;refine dV.of func50 I ntmps50 I λW A=>?_;refine aO ?_;refine aA h λav an h=>fk (γ:=Unit) (δ:=Unit) an [0,1,4,11,12] (λs1 g1=>[(5,J.of s1.1),(13,J.of s1.2)]) (λs1 g1=>[]) (λaw=>Exit.exit 0) (λaw g1=>[(5,J.of aw.1),(13,J.of aw.2.1),(14,J.of aw.2.2)]) (λaw g1=>[]) () (λs1 r h g1=>?_) λg1=>?_
 ·refine aO (λaJ cT bk h=>?_);refine aA h λm1 bS h=>ix (γ:=Unit) [0,1,4,7,11,12,13,14,20] (λg2=>[(5,J.of m1)]) (λg2=>[]) (λg2=>?_) (λhm ag=>?_) λhm ag=>?_
  ·exact go
  ·have h:=fu ag bS;exact go
  have h:=fv ag bS;exact go
 exact go
def FE{hp ab r}(h:wb hp ab=some r):hl prog 38 [J.of ab] hp (J.of r) hp:=by
 unfold wb at h;refine bL.of func38 I ntmps38 I λW A=>b3 (bA (dm o6) ?_);refine aO (λh=>?_);refine bA (dm o6) ?_;exact go
def WW:Go.Shelf.Ren:=⟨λ|6=>135|15=>139|14=>151|28=>164|29=>165|20=>172|21=>173|22=>174|23=>175|24=>176|25=>177|26=>178|27=>179|46=>188|47=>182|48=>183|49=>189|50=>190|57=>192|n=>n,λ|22=>43|24=>54|25=>245|3=>3|39=>188|0=>0|53=>268|55=>104|4=>4|46=>262|45=>261|50=>236|5=>5|9=>9|66=>283|70=>287|76=>292|77=>191|n=>n,λ|n=>n⟩
def ama:Go.Proofs.SlLaysF0.n6 prog WW:= {
 mixed:=by kernel_rfl
 f6:=⟨f135.name,by decide,func135.trans (eG some (by kernel_rfl))⟩
 f14:=⟨f151.name,by decide,func151.trans (eG some (by kernel_rfl))⟩
 f15:=func139.trans (eG some (by kernel_rfl))
 f20:=⟨f172.name,by decide,func172.trans (eG some (by kernel_rfl))⟩
 f21:=⟨f173.name,by decide,func173.trans (eG some (by kernel_rfl))⟩
 f22:=⟨f174.name,by decide,func174.trans (eG some (by kernel_rfl))⟩
 f23:=⟨f175.name,by decide,func175.trans (eG some (by kernel_rfl))⟩
 f24:=⟨f176.name,by decide,func176.trans (eG some (by kernel_rfl))⟩
 f25:=⟨f177.name,by decide,func177.trans (eG some (by kernel_rfl))⟩
 f26:=⟨f178.name,by decide,func178.trans (eG some (by kernel_rfl))⟩
 f27:=⟨f179.name,by decide,func179.trans (eG some (by kernel_rfl))⟩
 f28:=func164.trans (eG some (by kernel_rfl))
 f29:=func165.trans (eG some (by kernel_rfl))
 f46:=⟨f188.name,by decide,func188.trans (eG some (by kernel_rfl))⟩
 f47:=func182.trans (eG some (by kernel_rfl))
 f48:=func183.trans (eG some (by kernel_rfl))
 f49:=⟨f189.name,by decide,func189.trans (eG some (by kernel_rfl))⟩
 f50:=⟨f190.name,by decide,func190.trans (eG some (by kernel_rfl))⟩
 f57:=⟨f192.name,by decide,func192.trans (eG some (by kernel_rfl))⟩
 t0:=underlying0
 a0:=isAgg0
 z0:=sizeOf0
 v0:=zeroValue0
 t3:=underlying3
 a3:=isAgg3
 z3:=sizeOf3
 v3:=zeroValue3
 t4:=underlying4
 a4:=isAgg4
 z4:=sizeOf4
 v4:=zeroValue4
 t5:=underlying5
 a5:=isAgg5
 z5:=sizeOf5
 v5:=zeroValue5
 t9:=underlying9
 a9:=isAgg9
 z9:=sizeOf9
 v9:=zeroValue9
 t22:=underlying43
 a22:=isAgg43
 z22:=sizeOf43
 v22:=zeroValue43
 t25:=underlying245
 a25:=isAgg245
 z25:=sizeOf245
 v25:=zeroValue245
 t39:=underlying188
 a39:=isAgg188
 z39:=sizeOf188
 v39:=zeroValue188
 t45:=underlying261
 a45:=isAgg261
 z45:=sizeOf261
 v45:=zeroValue261
 t46:=underlying262
 a46:=isAgg262
 z46:=sizeOf262
 v46:=zeroValue262
 t50:=underlying236
 a50:=isAgg236
 z50:=sizeOf236
 v50:=zeroValue236
 t53:=underlying268
 a53:=isAgg268
 z53:=sizeOf268
 v53:=zeroValue268
 t55:=underlying104
 a55:=isAgg104
 z55:=sizeOf104
 v55:=zeroValue104
 t66:=underlying283
 a66:=isAgg283
 z66:=sizeOf283
 v66:=zeroValue283
 t70:=underlying287
 a70:=isAgg287
 z70:=sizeOf287
 v70:=zeroValue287
 t76:=underlying292
 a76:=isAgg292
 z76:=sizeOf292
 v76:=zeroValue292
 t77:=underlying191
 a77:=isAgg191
 z77:=sizeOf191
 v77:=zeroValue191}
def adR{xs F K}(h:aj.wS xs F K){key:aE Nat}{cap:Nat}:bL prog 135 [.eq (aQ key xs.length cap),.I3 prog F] [⟨key,.row 54 xs cap⟩] (δ:= {r:aa aH // xs.length=r.length∧K r}) (λ_=>.bW []) (λd=>[⟨key,.row 54 d.1 cap⟩]):=ZL (ρ:=WW) ama (λ_=>by kernel_rfl) (λ_=>by kernel_rfl) I h
def adU{ab ai aT r}(h:Fa ab ai aT=some r):dV prog 153 [J.of ab,J.of ai,J.Bn prog aT] (J.of r):=by
 unfold Fa at h;refine dV.of func153 I ntmps153 I λW A=>?_;refine aO ?_;refine aA h λav an h=>fk (γ:=Unit) (δ:=Unit) an [0,1,2,11,12] (λs1 g1=>[(6,J.of (0:Int)),(13,J.of s1)]) (λs1 g1=>[]) (λaw=>Sum.elim (λaw=>Exit.exit 0) (λaw=>Exit.ret) aw) (λaw g1=>Sum.elim (λaw=>[(6,J.of (0:Int)),(13,J.of aw.1),(14,J.of aw.2)]) (λaw=>[(6,J.of aw.1),(7,J.of aw.2.1),(13,J.of aw.2.2.1),(14,J.of aw.2.2.2.1),(21,J.of aw.2.2.2.2)]) aw) (λaw g1=>[]) () (λs1 r h g1=>?_) λg1=>?_
 ·refine aO (λaJ cT bk bx c4 bn h=>?_);refine aA h λao bs h=>bA (LM (ah I) (ah I) (ah I) bs) ?_;exact go
 rcases av with av|av
 ·simp only[Sum.elim_inl]at h;exact go
 simp only[Sum.elim_inr]at h;exact go
def adV{ab ai aT r}(h:Fb ab ai aT=some r):dV prog 155 [J.of ab,J.of ai,J.Bn prog aT] (J.of r):=by
 unfold Fb at h;refine dV.of func155 I ntmps155 I λW A=>?_;refine aO ?_;refine aA h λav an h=>fk (γ:=Unit) (δ:=Unit) an [0,1,2,11,12] (λs1 g1=>[(6,J.of (0:Int)),(13,J.of s1)]) (λs1 g1=>[]) (λaw=>Sum.elim (λaw=>Exit.exit 0) (λaw=>Exit.ret) aw) (λaw g1=>Sum.elim (λaw=>[(6,J.of (0:Int)),(13,J.of aw.1),(14,J.of aw.2)]) (λaw=>[(6,J.of aw.1),(7,J.of aw.2.1),(13,J.of aw.2.2.1),(14,J.of aw.2.2.2.1),(21,J.of aw.2.2.2.2)]) aw) (λaw g1=>[]) () (λs1 r h g1=>?_) λg1=>?_
 ·refine aO (λaJ cT bk bx c4 bn h=>?_);refine aA h λao bs h=>bA (LM (ah I) (ah I) (ah I) bs) ?_;exact go
 rcases av with av|av
 ·simp only[Sum.elim_inl]at h;exact go
 simp only[Sum.elim_inr]at h;exact go
instance:lT prog 180 _ _ C7 J.of J.of:=.i func180 I ntmps180 I λab r h W A=>by
 unfold C7 at h;exact go
def V8{ab ai r}(h:re ab ai=some r):dV prog 116 [J.of ab,J.of ai] (J.of r):=by
 unfold re at h;refine dV.of func116 I ntmps116 I λW A=>?_;refine aO (λbk bn h=>?_);refine iX (λhb=>wT (ck I hb) (ah I) (λh=>⟨hb,h⟩)) ?_;exact go
instance:fg prog 116 _ _ _ re J.of J.of J.of:=
 ⟨⟨_,func116,rfl,by kernel_rfl⟩,λ_ _ _ h=>V8 h⟩
def afy{hp ab r}(h:GH hp ab=some r):hl prog 83 [J.of ab] hp (J.of r) hp:=by
 unfold GH at h;refine bL.of func83 I ntmps83 I λW A=>?_;exact go
def WX:Go.Shelf.Ren:=⟨λ|6=>112|15=>139|14=>138|28=>164|29=>165|20=>156|21=>157|22=>158|23=>159|24=>160|25=>161|26=>162|27=>163|46=>181|47=>182|48=>183|49=>184|50=>185|57=>191|n=>n,λ|22=>113|24=>126|25=>221|3=>3|39=>188|0=>0|53=>268|55=>104|4=>4|46=>262|45=>261|50=>236|5=>5|9=>9|66=>283|70=>287|76=>292|77=>191|n=>n,λ|n=>n⟩
def amb:Go.Proofs.SlLaysF0.n6 prog WX:= {
 mixed:=by kernel_rfl
 f6:=⟨f112.name,by decide,func112.trans (eG some (by kernel_rfl))⟩
 f14:=⟨f138.name,by decide,func138.trans (eG some (by kernel_rfl))⟩
 f15:=func139.trans (eG some (by kernel_rfl))
 f20:=⟨f156.name,by decide,func156.trans (eG some (by kernel_rfl))⟩
 f21:=⟨f157.name,by decide,func157.trans (eG some (by kernel_rfl))⟩
 f22:=⟨f158.name,by decide,func158.trans (eG some (by kernel_rfl))⟩
 f23:=⟨f159.name,by decide,func159.trans (eG some (by kernel_rfl))⟩
 f24:=⟨f160.name,by decide,func160.trans (eG some (by kernel_rfl))⟩
 f25:=⟨f161.name,by decide,func161.trans (eG some (by kernel_rfl))⟩
 f26:=⟨f162.name,by decide,func162.trans (eG some (by kernel_rfl))⟩
 f27:=⟨f163.name,by decide,func163.trans (eG some (by kernel_rfl))⟩
 f28:=func164.trans (eG some (by kernel_rfl))
 f29:=func165.trans (eG some (by kernel_rfl))
 f46:=⟨f181.name,by decide,func181.trans (eG some (by kernel_rfl))⟩
 f47:=func182.trans (eG some (by kernel_rfl))
 f48:=func183.trans (eG some (by kernel_rfl))
 f49:=⟨f184.name,by decide,func184.trans (eG some (by kernel_rfl))⟩
 f50:=⟨f185.name,by decide,func185.trans (eG some (by kernel_rfl))⟩
 f57:=⟨f191.name,by decide,func191.trans (eG some (by kernel_rfl))⟩
 t0:=underlying0
 a0:=isAgg0
 z0:=sizeOf0
 v0:=zeroValue0
 t3:=underlying3
 a3:=isAgg3
 z3:=sizeOf3
 v3:=zeroValue3
 t4:=underlying4
 a4:=isAgg4
 z4:=sizeOf4
 v4:=zeroValue4
 t5:=underlying5
 a5:=isAgg5
 z5:=sizeOf5
 v5:=zeroValue5
 t9:=underlying9
 a9:=isAgg9
 z9:=sizeOf9
 v9:=zeroValue9
 t22:=underlying113
 a22:=isAgg113
 z22:=sizeOf113
 v22:=zeroValue113
 t25:=underlying221
 a25:=isAgg221
 z25:=sizeOf221
 v25:=zeroValue221
 t39:=underlying188
 a39:=isAgg188
 z39:=sizeOf188
 v39:=zeroValue188
 t45:=underlying261
 a45:=isAgg261
 z45:=sizeOf261
 v45:=zeroValue261
 t46:=underlying262
 a46:=isAgg262
 z46:=sizeOf262
 v46:=zeroValue262
 t50:=underlying236
 a50:=isAgg236
 z50:=sizeOf236
 v50:=zeroValue236
 t53:=underlying268
 a53:=isAgg268
 z53:=sizeOf268
 v53:=zeroValue268
 t55:=underlying104
 a55:=isAgg104
 z55:=sizeOf104
 v55:=zeroValue104
 t66:=underlying283
 a66:=isAgg283
 z66:=sizeOf283
 v66:=zeroValue283
 t70:=underlying287
 a70:=isAgg287
 z70:=sizeOf287
 v70:=zeroValue287
 t76:=underlying292
 a76:=isAgg292
 z76:=sizeOf292
 v76:=zeroValue292
 t77:=underlying191
 a77:=isAgg191
 z77:=sizeOf191
 v77:=zeroValue191}
def adW{xs F K}(h:aj.wS xs F K){key:aE Nat}{cap:Nat}:bL prog 112 [.eq (aQ key xs.length cap),.I3 prog F] [⟨key,.row 126 xs cap⟩] (δ:= {r:aa hU // xs.length=r.length∧K r}) (λ_=>.bW []) (λd=>[⟨key,.row 126 d.1 cap⟩]):=ZL (ρ:=WX) amb (λ_=>by kernel_rfl) (λ_=>by kernel_rfl) I h
instance:lT prog 114 _ _ Ho J.of J.of:=.i func114 I ntmps114 I λab r h W A=>by
 unfold Ho at h;refine aO ?_;refine aA h λav an h=>fk (γ:=Unit) (δ:=Unit) an [0,3,6,7] (λs1 g1=>[(2,J.of (0:Int)),(8,J.of s1)]) (λs1 g1=>[]) (λaw=>Sum.elim (λaw=>Exit.exit 0) (λaw=>Exit.ret) aw) (λaw g1=>Sum.elim (λaw=>[(2,J.of (0:Int)),(8,J.of aw.1),(9,J.of aw.2)]) (λaw=>[(2,J.of aw.1),(5,J.of aw.2.1),(8,J.of aw.2.2.1),(9,J.of aw.2.2.2.1),(14,J.of aw.2.2.2.2)]) aw) (λaw g1=>[]) () (λs1 r h g1=>?_) λg1=>?_
 ·exact go
 rcases av with av|av
 ·simp only[Sum.elim_inl]at h;exact go
 simp only[Sum.elim_inr]at h;exact go
def afd{hp ab r}(h:Gu hp ab=some r):hl prog 40 [J.of ab] hp (J.of r) hp:=by
 unfold Gu at h;refine bL.of func40 I ntmps40 I λW A=>b3 (bA (dm (look_nil (α:=jD))) (gW (b3 ?_)));refine cD ?_;refine bA (Aw underlying89 (ah I)) (ca ?_);refine j8 h (λh=>?_) λh=>?_
 ·refine b3 (bA (dm (look_nil (α:=jD))) ?_);exact go
 refine k9 (b3 (ae.own (α:=jD) 48 (bA (dm mM) ?_)));refine aO λbz dq c1 dv h=>?_;refine aA h λav an h=>tw (σ:=Int×(aa jD)) (ε:=(Int×Bool×(aa jD))) (γ:=(aE Nat×Nat)) (δ:=(aE Nat×Nat)) an 1 [0,2,7,11,12] (λs1 g1=>[(3,J.eq (aQ g1.1 s1.2.length g1.2)),(13,J.of s1.1)]) (λs1 g1=>[(0,⟨g1.1,.row 48 s1.2 g1.2⟩)]) (λs1 g1=>a1 hp) (λaw=>Exit.exit 0) (λaw g1=>[(3,J.eq (aQ g1.1 aw.2.2.length g1.2)),(13,J.of aw.1),(14,J.of aw.2.1)]) (λaw g1=>[(0,⟨g1.1,.row 48 aw.2.2 g1.2⟩)]) (λaw g1=>a1 hp) (none,0) (λs1 r h g1=>?_) (λg1=>?_)
 ·refine go2 (λaJ cT bk h=>?_) (λh=>?_)
  ·refine aA h λbx c4 h=>aA h λbp ez h=>ay.fy 11 ?_;refine aA h λao bs h=>jf 1 underlying45 IB abc bs λet dY=>?_;refine aO ?_;cases h;exact hA (et,dY) 1
  cases h;exact gq (g1.1,g1.2) 0
 refine aO ?_;exact al.kC (α:=jD) 0 [2,3,31] ⟨rfl,rfl,rfl,trivial⟩ I go
instance acs:fg prog 51 _ _ _ G9 J.of J.of J.of:=.i func51 I ntmps51 I λab ai r h W A=>by
 unfold G9 at h;refine aO λbk bn b4=>?_;refine aA h λav an h=>fk (γ:=Unit) (δ:=Unit) an [0,1,2,3,4,8,9] (λs1 g1=>[(10,J.of s1.1)]) (λs1 g1=>[(1,aI bn s1.2)]) (λaw=>Exit.exit 0) (λaw g1=>[(10,J.of aw.1),(11,J.of aw.2.1)]) (λaw g1=>[(1,aI bn aw.2.2)]) () (λs1 r h g1=>?_) λg1=>?_
 ·refine aO (λaJ cT dd h=>?_);refine aA h λm1 bS h=>ix (γ:=Unit) [0,1,2,3,4,5,6,8,9,10,11,21,26] (λg2=>[]) (λg2=>[(2,aI bn m1)]) (λg2=>?_) (λhm ag=>?_) λhm ag=>?_
  ·exact go
  ·have h:=fu ag bS;refine aA h λbx c4 h=>aA h λbp ez h=>aA h λcB gr h=>aA h λz2 hi h=>aA h λfo jw h=>aA h λl8 yO h=>aA h λz3 lZ h=>ei [0,1,2,3,4,5,6,8,9,10,11,12,13,14,15,16,17,18,19,20,21,26,27,28,29,30] ?_;refine ay.tJ mixed (az 31 [] [] _::az 32 [] [] _::az 33 [] [] _::az 34 [2] [] _::az 35 [3] [] _::az 36 [4] [2] _::az 37 [] [] _::az 38 [6] [] _::az 39 [7] [0] _::az 40 [5,8] [] _::az 41 [] [] _::az 42 [10] [] _::az 43 [11] [0] _::az 44 [9,12] [] _::az 45 [] [] _::az 46 [14] [] _::az 47 [15] [] _::az 48 [16] [2] _::az 49 [] [] _::az 50 [18] [] _::az 51 [19] [0] _::az 52 [17,20] [] _::az 53 [] [] _::az 54 [22] [] _::az 55 [23] [0] _::az 56 [21,24] [] _::az 57 [0] [] _::az 58 [26] [] _::fz [5,13,17,27] [2] [2] (λhd=>aI bn (dJ s1.2 fo ({(bE s1.2 fo)with cI:=bp}:aN):Vector aN 4))::az 59 [1] [] _::az 60 [29] [] _::fz [5,17,25,28,30] [2] [2] (λhd=>aI bn z3)::[]) ⟨hD,hD,hD,fS λaD ar=>hz (k:=bx) uk (ah (aD _ _ I)) (ah (aD _ _ I)) (cN c4),gv (bY ud.fd),oM 2 (((aP.id (Vector aN 4)).comp (aP.idx (α:=aN) 4 bx (cN c4).1)).comp ll) lu,gv (bY Qr.fd),gv (bY ud.fd),oM 0 (CL.comp ll) lu,JV PQ,gv (bY AB.fd),gv (bY ud.fd),oM 0 (tW.comp ll) lu,fS λaD ar=>(AG (ah (aD _ _ I)) (ah (aD _ _ I))).qe (dt ez),hD,fS λaD ar=>hz (k:=cB) uk (ah (aD _ _ I)) (ah (aD _ _ I)) (cN gr),gv (bY DB.fd),oM 2 (((aP.id (Vector aN 4)).comp (aP.idx (α:=aN) 4 cB (cN gr).1)).comp vf) lu,gv (bY Qr.fd),gv (bY DB.fd),oM 0 (CL.comp vf) lu,JV PQ,gv (bY AB.fd),gv (bY DB.fd),oM 0 (tW.comp vf) lu,fS λaD ar=>(AG (ah (aD _ _ I)) (ah (aD _ _ I))).qe (dt hi),fS λaD ar=>hz (k:=fo) uk (ah (aD _ _ I)) (ah (aD _ _ I)) (cN jw),gv (bY ud.fd),?_,fS λaD ar=>hz (k:=l8) uk (ah (aD _ _ I)) (ah (aD _ _ I)) (cN yO),gv (bY DB.fd),?_,trivial⟩ λcO=>?_
   ·intro hd E' L' aD ar;refine ae.store (i:=2) (((aP.id (Vector aN 4)).comp (aP.idx (α:=aN) 4 fo (cN jw).1)).comp ll) (v:=bp) (b':=(dJ s1.2 fo ({(bE s1.2 fo)with cI:=bp}:aN):Vector aN 4)) lu (ah (aD _ _ I)) (ah (aD _ _ I)) (ar 2 _ I I) I I (ae.nil ?_);exact al.fin (cJ []) I I
   ·intro hd E' L' aD ar;refine ae.store (i:=2) (((aP.id (Vector aN 4)).comp (aP.idx (α:=aN) 4 l8 (cN yO).1)).comp vf) (v:=z2) (b':=z3) lu (ah (aD _ _ I)) (ah (aD _ _ I)) (ar 2 _ I I) I (dt lZ) (ae.nil ?_);exact al.fin (cJ []) I I
   refine al.df (L2:=[aI dd (ax ab.bP aJ:cG),aI b4 (default:Vector aN 4),aI bn z3,aI bk ab]) I (eO ?_);exact go
  have h:=fv ag bS;refine aO λz4 sr h=>?_;refine aA h λm2 c6 h=>ix (γ:=Unit) [0,1,2,3,4,5,6,8,9,10,11,21,26,61] (λg3=>[]) (λg3=>[(2,aI bn m2)]) (λg3=>?_) (λhm ag=>?_) λhm ag=>?_
  ·exact go
  ·have h:=fu ag c6;refine aA h λoU yP h=>aA h λz5 xe h=>aA h λoV I4 h=>aA h λma Nn h=>ay.kM mixed 18 (rg 70 18) [[],[],[1],[2],[],[4],[5],[6],[],[8],[9],[10],[11],[12],[7,13],[3,14],[15],[0]] [_,_,_,_,_,_,_,_,_,_,_,_,_,_,_,_,_,_] ⟨fh,H1 (bY AB.fd),H1 (bY ud.fd),iV 0 (tW.comp ll) lu,fh,fA λar=>hz (k:=oU) uk (ah I) (ah I) (cN yP),H1 (bY ud.fd),iV 2 (((aP.id (Vector aN 4)).comp (aP.idx (α:=aN) 4 oU (cN yP).1)).comp ll) lu,H1 (bY Yg.fd),iV 0 Cz ch,lV th,H1 (AF underlying3 underlying188),tK xe λL' ar=>HU (ua 1 I) (ah I),fA λar=>Yh (ah I) (ua 1 I),lV Qs,tK I4 λL' ar=>AG (ah I) (ah I),fA λar=>kD (b:=({(default:aN)with cI:=oV}:aN)) I yt sd (.cons ll I (ah I) I (.nil)),fA λar=>hz (k:=ma) uk (ah I) (ah I) (cN Nn),trivial⟩ ?_;refine aA h λod Ew h=>I2 2 ((aP.id (Vector aN 4)).comp (aP.idx (α:=aN) 4 ma (cN Nn).1)) fw (hb:=by exact Ew) ?_;exact go
  have h:=fv ag c6;exact go
 exact go
instance:lT prog 165 _ _ CX J.of J.of:=.i func165 I ntmps165 I λab r h W A=>by
 unfold CX at h;refine aO ?_;refine aA h λm1 bS h=>ix (γ:=Unit) [4] (λg1=>[(0,J.of m1.1),(2,J.of m1.2)]) (λg1=>[]) (λg1=>?_) (λhm ag=>?_) λhm ag=>?_
 ·refine aO ?_;refine aA h λm2 c6 h=>ix (γ:=Unit) [4,8] (λg2=>[(0,J.of m2.1),(2,J.of m2.2)]) (λg2=>[]) (λg2=>?_) (λhm ag=>?_) λhm ag=>?_
  ·refine aO ?_;refine aA h λm3 fZ h=>ix (γ:=Unit) [4,8,14] (λg3=>[(0,J.of m3.1),(2,J.of m3.2)]) (λg3=>[]) (λg3=>?_) (λhm ag=>?_) λhm ag=>?_
   ·refine aO ?_;refine dA (ajF underlying104 underlying5) ?_;refine aA h λao bs h=>bA (ajG underlying9 (iN (ByteArray.mk (List.toArray (List.append (List.append [0,1,2,2,3,3,3,3,4,4,4,4,4,4,4,4,5,5,5,5,5,5,5,5,5,5,5,5,5,5,5,5,6,6,6,6,6,6,6,6,6,6,6,6,6,6,6,6,6,6,6,6,6,6,6,6,6,6,6,6,6,6,6,6] [7,7,7,7,7,7,7,7,7,7,7,7,7,7,7,7,7,7,7,7,7,7,7,7,7,7,7,7,7,7,7,7,7,7,7,7,7,7,7,7,7,7,7,7,7,7,7,7,7,7,7,7,7,7,7,7,7,7,7,7,7,7,7,7]) (List.append [8,8,8,8,8,8,8,8,8,8,8,8,8,8,8,8,8,8,8,8,8,8,8,8,8,8,8,8,8,8,8,8,8,8,8,8,8,8,8,8,8,8,8,8,8,8,8,8,8,8,8,8,8,8,8,8,8,8,8,8,8,8,8,8] [8,8,8,8,8,8,8,8,8,8,8,8,8,8,8,8,8,8,8,8,8,8,8,8,8,8,8,8,8,8,8,8,8,8,8,8,8,8,8,8,8,8,8,8,8,8,8,8,8,8,8,8,8,8,8,8,8,8,8,8,8,8,8,8]))))) (ah I) bs) ?_;exact go
   ·have h:=fu ag fZ;exact go
   have h:=fv ag fZ;exact go
  ·have h:=fu ag c6;exact go
  have h:=fv ag c6;exact go
 ·have h:=fu ag bS;exact go
 have h:=fv ag bS;exact go
def Vr{hp ab ai aT cR N4 bR e6 ij uD Ex r}(h:zH hp ab ai aT cR N4=some r):bL prog 234 [J.cr bR,J.cr e6,J.cr ij,J.cr uD,J.cr Ex] ([aI bR ab,aI e6 ai,aI ij aT,aI uD cR,aI Ex N4]++a1 hp) (δ:=Unit) (λ_=>J.bW []) (λ_=>[aI bR ab,aI e6 ai,aI ij r.1,aI uD r.2.1,aI Ex r.2.2]++a1 hp):=by
 unfold zH at h;refine bL.of func234 I ntmps234 I λW A=>?_;refine aO λbz dq c1 dv h=>?_;refine aA h λm1 bS h=>qL (γ:=Unit) 5 [0,1,2,3,4,12] (λg1=>[]) (λg1=>[(2,aI ij m1.1),(3,aI uD m1.2.1),(4,aI Ex m1.2.2)]) (λg1=>a1 hp) (λg1=>?_) (λhm ag=>?_) (λhm ag=>?_)
 ·refine al.lv (al.bt 4 I (al.bt 4 I (al.bt 4 I (al.bt 4 I (al.bt 4 I ?_)))));cases h;exact al.ns () (.cons_cons _ (.cons_cons _ (.cons_cons _ (.cons_cons _ (.cons_cons _ (.refl _)))))) I I
 ·have h:=fu ag bS;refine aA h λcE fl h=>aA h λc2 eV h=>ei [0,1,2,3,4,5,6,7,8,9,10,11,12] ?_;refine ay.rP 5 (az 13 [] [1] _::az 14 [] [0] _::az 15 [1] [] _::az 16 [2] [] _::az 17 [3] [] _::fz [0] [2] [2] (λhd=>aI ij ai)::fz [4] [3] [3] (λhd=>aI uD c2.j5)::fz [] [4] [4] (λhd=>aI Ex true)::[]) (λcO=>?_);refine al.df (L2:=(aI bR ab::aI e6 ai::aI ij ai::aI uD c2.j5::aI Ex true::a1 hp)) I (eO ?_);exact go
 have h:=fv ag bS;exact go
def VL{hp ab ai r}(h:CC hp ab ai=some r):hl prog 71 [J.of ab,J.of ai] hp (J.of r.1) r.2:=by
 unfold CC at h;refine bL.of func71 I ntmps71 I λW A=>b3 (dc (h5 ?_));refine cD ?_;refine cD ?_;refine aA h λao bs h=>ae.eH (dx.fR 0 I ZM (VK bs) ⟨ah I,ah I,trivial⟩) I I I (dc (gW (b3 ?_)));refine cD ?_;refine dO pd ?_;refine cD ?_;refine hN cY ?_;refine hN cY ?_;refine aA h λbz dq h=>iX (λhb=>jq (j2 (ck I hb) (fi dq hb))) ?_;refine hN (bY DC.fd) ?_;refine aA h λaJ cT h=>iX (λhb=>hz (k:=aJ) DY (ck I hb) (ck I hb) (cN (fi cT hb))) ?_;refine aA h λc1 dv h=>iX (λhb=>o8 (((aP.id jS).comp zF).comp (aP.idx (α:=Int) 6 aJ (cN (fi cT hb)).1)) (r:=bE c1.iM aJ) ch (ck I hb) (jt (n:=0) I (vp (fi dv hb)) I) I I) ?_;refine Bo pX ?_;refine Ey (ca ?_);refine j8 h (λh=>?_) λh=>?_
 ·refine b3 (dc (ca (ay.ret (al.ret ?_))));cases h;exact al.eC () (.refl _) I I (dn I)
 refine k9 (ay.seq (aA h λcE fl h=>aA h λbx c4 h=>aA h λc2 eV h=>aA h λcB gr h=>ay.kM mixed 10 (rg 20 10) [[],[],[0],[2],[1,3],[4],[5],[0],[7],[1,8]] [_,_,_,_,_,_,_,_,_,_] ⟨fh,fh,fA λar=>jq (j2 (ah I) fl),H1 (bY DC.fd),fA λar=>hz (k:=bx) DY (ah I) (ah I) (cN c4),fA λar=>o8 (((aP.id jS).comp zF).comp (aP.idx (α:=Int) 6 bx (cN c4).1)) (r:=bE c2.iM bx) ch (ah I) (pj (λi e q=>ar i e q I) (jt (n:=0) I (vp eV) I)) I I,lV th,fA λar=>jq (j2 (ah I) fl),H1 (bY DC.fd),fA λar=>hz (k:=cB) DY (ah I) (ah I) (cN gr),trivial⟩ ?_));refine aA h λbQ hL h=>ae.qz (k':=Cell.tm ({c2 with iM:=dJ c2.iM cB (bm ((bE c2.iM bx)-1))}:jS)) 0 I (((aP.id jS).comp zF).comp (aP.idx (α:=Int) 6 cB (cN gr).1)) (v:=(bm ((bE c2.iM bx)-1):Int)) ch (ah I) (ah I) (vp eV) I I I I (dt hL) (h5 (dc (ca (ay.ret ?_))));cases h;exact al.eC () (.refl _) I I (dn I)
def CD{hp ab r}(h:CE hp ab=some r):hl prog 41 [J.of ab] hp (J.of r) hp:=by
 unfold CE at h;refine bL.of func41 I ntmps41 I λW A=>?_;refine aO ?_;exact aA h λao bs h=>ae.eH (dx.fR 0 I IC (FE bs) ⟨ah I,trivial⟩) I I I (aA h λaF b2 h=>ae.eH (dx.fR 0 I ao2 (afy b2) ⟨ah I,trivial⟩) I I I go)
def aeO{hp ab r}(h:Gb hp ab=some r):hl prog 14 [J.of ab] hp (J.of r) hp:=by
 unfold Gb at h;refine bL.of func14 I ntmps14 I λW A=>b3 (bA (dm (look_nil (α:=jD))) ?_);refine go2 (λh=>?_) (λbz dq c1 dv h=>?_)
 ·refine bA (dm (look_nil (α:=jD))) ?_;exact go
 exact aA h λao bs h=>ae.eH (dx.fR 0 I ao3 (afd bs) ⟨ah I,trivial⟩) I I I go
def aey{hp ab ai r}(h:FX hp ab ai=some r):hl prog 211 [J.of ab,J.of ai] hp (J.bW [J.of r.1,J.of r.2]) hp:=by
 unfold FX at h;refine bL.of func211 I ntmps211 I λW A=>?_;refine aO λbk bn=>?_;exact aA h λao bs h=>ae.eH (dx.fR 2 I RR (Pv bs) ⟨ah I,ah I,trivial⟩) I I I go
instance:lT prog 241 _ _ Ln J.of J.of:=.i func241 I ntmps241 I λab r h W A=>by
 unfold Ln at h;exact go
instance:fg prog 187 _ _ _ G0 J.of J.of J.of:=.i func187 I ntmps187 I λab ai r h W A=>by
 unfold G0 at h;refine aO λbk ao bs h=>?_;refine bA (Qt (k:=0) underlying213 lL (ah I) (de 0) ⟨by decide,rfl⟩) ?_;exact go
instance abd:fg prog 167 _ _ _ Hw J.of J.of J.of:=.i func167 I ntmps167 I λab ai r h W A=>by
 unfold Hw at h;refine b3 (mq λbk=>?_);refine mq λbn=>?_;refine jv sd λb4=>gW ?_;refine aA h λao bs h=>aA h λaF b2 h=>ay.mU 2 (ei [0,1,2,3,4] ?_);refine ay.tJ mixed (az 8 [] [2] _::az 9 [0] [] _::az 10 [] [1] _::az 11 [2] [] _::⟨some 5,[],[3],[3],λhd=>J.cr ((hd 4 0).getD 0),λhd _=>aI ((hd 4 0).getD 0) (default:Vector Bool 128)⟩::⟨some 6,[],[4],[4],λhd=>J.cr ((hd 5 0).getD 0),λhd _=>aI ((hd 5 0).getD 0) (default:Vector Bool 128)⟩::fz [1,4] [3] [3] (λhd=>aI ((hd 4 0).getD 0) ao)::fz [3,5] [4] [4] (λhd=>aI ((hd 5 0).getD 0) aF)::[]) ⟨xf 2 fw,fS λaD ar=>ja tn.cf (tn.m _ _ bs) ⟨ah (aD _ _ I),trivial⟩,xf 1 fw,fS λaD ar=>ja tn.cf (tn.m _ _ b2) ⟨ah (aD _ _ I),trivial⟩,?_,?_,?_,?_,trivial⟩ λcO=>?_
 ·intro hd E' L' aD ar;refine jv DZ λdd=>ae.nil ?_;exact al.place 3 (ar 3 _ I I) (al.fin (cJ [some dd]) I I)
 ·intro hd E' L' aD ar;refine jv DZ λlA=>ae.nil ?_;exact al.place 4 (ar 4 _ I I) (al.fin (cJ [some lA]) I I)
 ·intro hd E' L' aD ar;refine ae.store (i:=3) (aP.id (Vector Bool 128)) (v:=ao) (b':=ao) AW (ah (aD _ _ I)) (ah (aD _ _ I)) (ar 3 _ I I) I I (ae.nil ?_);exact al.fin (cJ []) I I
 ·intro hd E' L' aD ar;refine ae.store (i:=4) (aP.id (Vector Bool 128)) (v:=aF) (b':=aF) AW (ah (aD _ _ I)) (ah (aD _ _ I)) (ar 4 _ I I) I I (ae.nil ?_);exact al.fin (cJ []) I I
 refine al.df (L2:=[aI b4 (default:aN),aI bn ai,aI bk ab,aI ((cO 4 0).getD 0) ao,aI ((cO 5 0).getD 0) aF]) I (eO ?_);refine al.bt 3 I (al.bt 4 I (al.next (ay.seq (b3 (cD (ca (ay.block ?_)))))));refine aA h λav an h=>fk (γ:=Unit) (δ:=Unit) an [0,1,2,3,4,5,6] (λs1 g1=>[(12,J.of s1.1)]) (λs1 g1=>[(1,aI ((cO 4 0).getD 0) s1.2)]) (λaw=>Exit.exit 0) (λaw g1=>[(12,J.of aw.1),(13,J.of aw.2.1)]) (λaw g1=>[(1,aI ((cO 4 0).getD 0) aw.2.2)]) () (λs1 r h g1=>?_) λg1=>?_
 ·refine b3 (dO pd (gW ?_));refine j8 h (λh=>?_) λh=>?_
  ·refine k9 (ay.seq (ay.block (b3 (cD ?_))));refine dc (ca (ay.fc ?_));refine cD ?_;refine cD ?_;refine aA h λaJ cT h=>bA (hz (k:=aJ) yu (ah I) (ah I) (cN cT)) ?_;refine mW 1 ((aP.id (Vector Bool 128)).comp (aP.idx (α:=Bool) 128 aJ (cN cT).1)) la ?_;refine cD ?_;refine hN cY ?_;refine aA h λbx c4 h=>iX (λhb=>hz (k:=bx) yu (ah I) (ck I hb) (cN (fi c4 hb))) ?_;refine iX (λhb=>hv (i:=0) ((aP.id (Vector Bool 128)).comp (aP.idx (α:=Bool) 128 bx (cN (fi c4 hb)).1)) (r:=bE aF bx) la (ck I hb) I I I) ?_;refine Ev ?_;refine aA h λcB gr h=>bA (hz (k:=cB) yu (ah I) (ah I) (cN gr)) ?_;refine I5 1 ((aP.id (Vector Bool 128)).comp (aP.idx (α:=Bool) 128 cB (cN gr).1)) la (ae.nil ?_);refine al.ml (al.next (ay.fc (dO jI ?_)));refine cD (ae.nil ?_);cases h;exact hA () 0
  refine ay.exit (al.exit ?_);cases h;exact gq () 0
 refine al.k5 (al.next (b3 (nC 1 AW ?_)));refine aA h λbg dR h=>ss aa4.cf (aa4.m _ _ dR) ?_;refine p3 2 fw (ca (ay.ret ?_));cases h;exact al.Sz I (Ez 2 fw)
def qq{ab bR r}(h:nT ab=some r):l7 prog 27 [J.cr bR] bR ab (J.of r.1) r.2:=by
 unfold nT at h;refine bL.of func27 I ntmps27 I λW A=>?_;refine aO ?_;refine ae.bt 0 I (aA h λao bs h=>eL 1 gR (gN bs) λaw=>?_);exact go
def aeP{ab bR r}(h:Gc ab=some r):l7 prog 23 [J.cr bR] bR ab (J.of r.1) r.2:=by
 unfold Gc at h;refine bL.of func23 I ntmps23 I λW A=>b3 (bA (dm (look_nil (α:=ft))) ?_);refine aO ?_;refine ae.bt 0 I (aA h λao bs h=>eL 1 gR (gN bs) λaw=>?_);refine aA h λaJ cT h=>yQ cT underlying56 ch ?_;refine dA (kE ch) ?_;refine bA (tZ (b:=({(default:ft)with b6:=1,k3:=1,s5:=4,jT:=ax ([0,0,65535,3]:aa Int) aJ}:ft)) [3] Yi I amc ZN (.cons V1 I (de 1) I (by rfl) (.cons VF I (de 1) I (by rfl) (.cons VG I (de 4) I (by rfl) (.cons Vz I (ah I) I (by rfl) (.nil)))))) ?_;refine ae.own (α:=jE) 143 (ae.sc (z:=(default:ft)) [3] Yi ZN I λbk=>ae.own (α:=jE) 143 (ae.wK (i:=1) ZO (ah I) (ah I) I (h5 (bA (kD (b:=({(default:aN)with cI:=1#64}:aN)) I yt sd (.cons ll I (ua 1 I) I (.nil))) ?_))));refine bA (kD (b:=({(default:aN)with cI:=15#64}:aN)) I yt sd (.cons ll I (ua 15 I) I (.nil))) ?_;refine aA h λbp ez h=>qf ez (kD (b:= {cc:=({(default:aN)with cI:=1#64}:aN),hx:=({(default:aN)with cI:=15#64}:aN),wL:=2:jE}) I ZP Mz (.cons Pc I (ah I) I (.cons Pj I (ah I) I (.cons Pk I (de 2) I (.nil))))) ?_;refine bA (kD (b:=({(default:aN)with cI:=2#64}:aN)) I yt sd (.cons ll I (ua 2 I) I (.nil))) ?_;refine bA (kD (b:=({(default:aN)with cI:=3#64}:aN)) I yt sd (.cons ll I (ua 3 I) I (.nil))) ?_;refine aA h λz2 hi h=>qf hi (kD (b:= {cc:=({(default:aN)with cI:=2#64}:aN),hx:=({(default:aN)with cI:=3#64}:aN),wL:=3:jE}) I ZP Mz (.cons Pc I (ah I) I (.cons Pj I (ah I) I (.cons Pk I (de 3) I (.nil))))) ?_;refine ae.si (α:=jE) (r:=[bp,z2]) underlying139 RS Mz I I (.cons (by simp) (ah I) (.cons (by simp) (ah I) (.nil))) I λet=>?_;refine dA (bY ajH.fd) ?_;refine ae.j3 (i:=2) (γ:=jE) (b':=({({(default:ft)with b6:=1,k3:=1,s5:=4,jT:=ax ([0,0,65535,3]:aa Int) aJ}:ft)with ue:=[]}:ft)) (os':=[(3,aQ et [bp,z2].length 2)]) ((aP.id ft).comp KV) MA (ah I) (ah I) jn I I I I ?_;refine aO ?_;refine ae.bt 4 I (aA h λaF b2 h=>eL 1 qF (qq b2) λcH=>ca ?_);refine aA h λm1 bS h=>ix (γ:=(aE Nat×Nat)) [0,2,3,4,23] (λg1=>[]) (λg1=>[(0,aI bR m1.1),(1,⟨g1.1,.row 143 m1.2 g1.2⟩),(3,⟨some bk,.cu ({({(default:ft)with b6:=1,k3:=1,s5:=4,jT:=ax ([0,0,65535,3]:aa Int) aJ}:ft)with ue:=[]}:ft) [(3,aQ g1.1 m1.2.length g1.2)]⟩)]) (λg1=>?_) (λhm ag=>?_) λhm ag=>?_
 ·refine aO ?_;refine ae.bt 0 I (aA h λbg dR h=>eL 1 gR (gN dR) λeI=>?_);refine aO λbx c4 z3 lZ bn z4 sr b4 h=>?_;refine ae.bt 2 I (aA h λbw e5 h=>eL 1 gR (gN e5) λhn=>?_);refine dO pX (ca ?_);refine aA h λm2 c6 h=>ix (γ:=Unit) [0,2,3,4,5,6,23,50] (λg2=>[]) (λg2=>[(0,aI bR m2.1),(1,aI b4 m2.2)]) (λg2=>?_) (λhm ag=>?_) λhm ag=>?_
  ·exact al.next (b3 (ae.nx (β:=ft) (γ:=jE) (b':=({({(default:ft)with b6:=1,k3:=1,s5:=4,jT:=ax ([0,0,65535,3]:aa Int) aJ}:ft)with ue:=m1.2}:ft)) ((aP.id ft).comp KV) 5 3 0 I I I I I I (ae.tg 5 I go)))
  ·have h:=fu ag c6;refine aO ?_;refine ae.bt 0 I (aA h λcd hB h=>eL 1 gR (gN hB) λc7=>?_);exact go
  have h:=fv ag c6;exact go
 ·have h:=fu ag bS;refine aA h λcj ih h=>aA h λod Ew h=>aA h λcm mr h=>aA h λcB gr h=>aA h λkN No h=>aA h λcA p4 h=>ei [0,2,3,4,7,8,9,10,11,12,13,14,15,16,17,18,19,20,21,22,23] ?_;refine ay.cf 5 (az 24 [] [] _::az 25 [0] [3] (J.eq (aQ et [bp,z2].length 2))::az 26 [] [] _::⟨some 27,[2],[0],[0],λ_=>J.of cj.1,λhd _=>aI bR cj.2⟩::az 28 [3] [] _::az 29 [4] [] _::az 30 [5] [] _::az 31 [] [] _::az 32 [] [] _::az 33 [] [] _::⟨some 34,[3,9],[0],[0],λ_=>J.of cm.1,λhd _=>aI bR cm.2⟩::az 35 [8,10] [] _::az 36 [11] [] _::az 37 [6,7,12] [] _::az 38 [13] [] _::⟨some 39,[1,14],[1],[1],λhd=>J.eq (aQ (hd 15 0) cA.length ((hd 15 1).getD 0)),λhd _=>⟨(hd 15 0),.row 143 cA ((hd 15 1).getD 0)⟩⟩::az 40 [] [] _::fz [1,15,16] [3] [3] (λhd=>⟨some bk,.cu ({({(default:ft)with b6:=1,k3:=1,s5:=4,jT:=ax ([0,0,65535,3]:aa Int) aJ}:ft)with ue:=[]}:ft) [(3,aQ (hd 15 0) cA.length ((hd 15 1).getD 0))]⟩)::[]) (dK ?_ (dK ?_ (dK ?_ (dK ?_ (dK ?_ hR))))) (λcO=>?_)
  ·exact ey.q (qg λhd E' L' aD ar=>hZ (i:=3) (q:=0) (β:=ft) (γ:=jE) MA (ah (aD _ _ I)) (ar 3 _ I I) I)
  ·intro hd E' L' aD ar bZ;exact ae.bt 0 (ar 0 _ I I) (ae.lI (Lin:=[aI bR aF.2]) (Lr:=L'.eraseIdx 0) gR (gN ih) ⟨ah (aD _ _ I),de 2,trivial⟩ I λgL=>ae.nil (al.back 0 (ar 0 _ I I) (al.fin (cJ []) I I)))
  ·intro hd E' L' aD ar bZ;exact ae.bt 0 (ar 0 _ I I) (ae.lI (Lin:=[aI bR cj.2]) (Lr:=L'.eraseIdx 0) gR (gN mr) ⟨ah (aD _ _ I),de 4,trivial⟩ I λlB=>ae.nil (al.back 0 (ar 0 _ I I) (al.fin (cJ []) I I)))
  ·intro hd E' L' aD ar bZ;refine ae.app (i:=1) underlying139 RS Mz (bytes:=40) (by kernel_rfl) (ah (aD _ _ I)) (ar 1 _ I I) (ah (aD _ _ I)) p4 I λkk dY=>?_;exact ae.nil (al.fin (cJ [kk,some dY]) I I)
  ·intro hd E' L' aD ar bZ;refine ae.j3 (i:=3) (γ:=jE) (b':=({({(default:ft)with b6:=1,k3:=1,s5:=4,jT:=ax ([0,0,65535,3]:aa Int) aJ}:ft)with ue:=[]}:ft)) (os':=[(3,aQ (hd 15 0) cA.length ((hd 15 1).getD 0))]) ((aP.id ft).comp KV) MA (ah (aD _ _ I)) (ah (aD _ _ I)) jn (ar 3 _ I I) I I I (ae.nil ?_);exact al.fin (cJ []) I I
  refine al.df (L2:=[aI bR cm.2,⟨(cO 15 0),.row 143 cA ((cO 15 1).getD 0)⟩,⟨none,.row 143 ([]:aa jE) 0⟩,⟨some bk,.cu ({({(default:ft)with b6:=1,k3:=1,s5:=4,jT:=ax ([0,0,65535,3]:aa Int) aJ}:ft)with ue:=[]}:ft) [(3,aQ (cO 15 0) cA.length ((cO 15 1).getD 0))]⟩,⟨none,.row 143 ([]:aa jE) 0⟩]) I (eO ?_);cases h;exact ed 0 (hm ((cO 15 0),((cO 15 1).getD 0)))
 have h:=fv ag bS;refine ay.skip ?_;cases h;exact ed 0 (hm (et,2))
def aez{ab bR r}(h:FY ab=some r):l7 prog 24 [J.cr bR] bR ab (J.of r.1) r.2:=by
 unfold FY at h;refine bL.of func24 I ntmps24 I λW A=>b3 (bA (dm (look_nil (α:=fV))) ?_);refine aO λbk=>?_;refine aA h λbp ez h=>aA h λz2 hi h=>aA h λz3 lZ h=>aA h λz4 sr h=>aA h λz5 xe h=>aA h λoV I4 h=>aA h λod Ew h=>aA h λkN No h=>aA h λz9 Tf h=>aA h λqM abe h=>aA h λqN abf h=>aA h λz12 ID h=>aA h λn3 SA h=>aA h λao bs h=>aA h λp5 SB h=>aA h λaF b2 h=>aA h λuE SC h=>aA h λBp ao4 h=>aA h λz17 ao5 h=>ay.mU 1 (ei [0,2,3,5] ?_);refine ay.cf 3 (az 6 [] [] _::az 7 [] [] _::az 8 [1] [] _::az 9 [2] [] _::az 10 [] [] _::az 11 [4] [] _::az 12 [] [0] _::az 13 [6] [] _::az 14 [7] [] _::az 15 [5,8] [] _::az 16 [] [] _::az 17 [10] [] _::az 18 [] [0] _::az 19 [12] [] _::az 20 [] [] _::az 21 [14] [] _::az 22 [13,15] [] _::az 23 [11,16] [] _::az 24 [] [] _::az 25 [] [] _::az 26 [18,19] [] _::az 27 [] [] _::az 28 [] [0] _::az 29 [22] [] _::az 30 [] [] _::az 31 [24] [] _::az 32 [21,23,25] [] _::az 33 [20,26] [] _::az 34 [] [] _::⟨some 35,[28],[1],[1],λ_=>J.of ao.1,λhd _=>aI bR ao.2⟩::az 36 [29] [] _::az 37 [30] [] _::az 38 [] [] _::⟨some 39,[29,32],[1],[1],λ_=>J.of aF.1,λhd _=>aI bR aF.2⟩::az 40 [33] [] _::az 41 [34] [] _::az 42 [35] [] _::az 43 [36] [] _::az 44 [31,37] [] _::az 45 [38] [] _::⟨some 46,[0,3,9,17,27,39],[2],[2],λhd=>J.eq (aQ (hd 40 0) [bp,z2,z5,kN,n3,z17].length 6),λhd _=>⟨(hd 40 0),.row 149 ([bp,z2,z5,kN,n3,z17]:aa fV) 6⟩⟩::⟨some 4,[40],[],[],λhd=>J.eq (aQ (hd 40 0) [bp,z2,z5,kN,n3,z17].length 6),λ_ _=>⟨none,.dead⟩⟩::[]) (dK ?_ (dK ?_ (dK ?_ (dK ?_ hR)))) (λcO=>?_)
 ·intro hd E' L' aD ar bZ;exact ae.bt 1 (ar 1 _ I I) (ae.lI (Lin:=[aI bR ab]) (Lr:=L'.eraseIdx 1) gR (gN bs) ⟨ah (aD _ _ I),de 2,trivial⟩ I λaw=>ae.nil (al.back 1 (ar 1 _ I I) (al.fin (cJ []) I I)))
 ·intro hd E' L' aD ar bZ;exact ae.bt 1 (ar 1 _ I I) (ae.lI (Lin:=[aI bR ao.2]) (Lr:=L'.eraseIdx 1) gR (gN b2) ⟨ah (aD _ _ I),de 256,trivial⟩ I λcH=>ae.nil (al.back 1 (ar 1 _ I I) (al.fin (cJ []) I I)))
 ·intro hd E' L' aD ar bZ;refine ae.si (α:=fV) (r:=[bp,z2,z5,kN,n3,z17]) underlying26 MB amd I I (.cons (by simp) (ah (aD _ _ I)) (.cons (by simp) (ah (aD _ _ I)) (.cons (by simp) (ah (aD _ _ I)) (.cons (by simp) (ah (aD _ _ I)) (.cons (by simp) (ah (aD _ _ I)) (.cons (by simp) (ah (aD _ _ I)) (.nil))))))) I λet=>?_;exact ae.nil (al.place 2 (ar 2 _ I I) (al.fin (cJ [et]) I I))
 ·intro hd E' L' aD ar bZ;refine bA (dm (ah (aD _ _ I))) (ae.nil ?_);exact al.fin (cJ []) I I
 refine al.df (L2:=[aI bk ({(default:kf)with dQ:=3}:kf),aI bR aF.2,⟨(cO 40 0),.row 149 ([bp,z2,z5,kN,n3,z17]:aa fV) 6⟩]) I (eO ?_);refine al.bt 2 I (aO ?_);refine ae.bt 2 I (aA h λbg dR h=>eL 1 qF (qq dR) λeI=>ca ?_);refine aA h λm1 bS h=>ix (γ:=(aE Nat×Nat)) [0,2,3,48] (λg1=>[(4,J.eq (aQ g1.1 m1.length g1.2))]) (λg1=>[(1,⟨g1.1,.row 149 m1 g1.2⟩)]) (λg1=>?_) (λhm ag=>?_) λhm ag=>?_
 ·refine aO ?_;refine ae.bt 0 I (aA h λbw e5 h=>eL 1 qF (qq e5) λhn=>ca ?_);refine aA h λm2 c6 h=>ix (γ:=(aE Nat×Nat)) [0,2,3,48,53] (λg2=>[(4,J.eq (aQ g2.1 m2.length g2.2))]) (λg2=>[(1,⟨g2.1,.row 149 m2 g2.2⟩)]) (λg2=>?_) (λhm ag=>?_) λhm ag=>?_
  ·refine aO ?_;exact al.kC (α:=fV) 1 [2,4,57] ⟨rfl,rfl,rfl,trivial⟩ I go
  ·have h:=fu ag c6;refine ay.fc (cD ?_);refine aA h λaJ cT h=>bA (nr (i:=1) (k:=aJ) (xs:=(m1:aa fV)) underlying26 MB (ah I) (de 4) I (cN cT)) ?_;refine dA (bY Yj.fd) ?_;refine aA h λyR MZ h=>ae.AH (i:=1) (k:=aJ) ((aP.id fV).comp Ot) (v:=(ByteArray.mk #[120,32,60,32,121,32,124,124,32,120,32,61,61,32,49,53]:ByteArray)) (r:=(yR:aa fV)) su (ah I) (iN (ByteArray.mk #[120,32,60,32,121,32,124,124,32,120,32,61,61,32,49,53])) I (cN cT).1 I (dt MZ) (ae.kG (m:=yR.length) 4 I (lH (dt MZ)) (ae.kG (m:=yR.length) 54 I (lH (dt MZ)) (ae.nil ?_)));cases h;exact ed 0 (hm (g1.1,g1.2))
  have h:=fv ag c6;refine ay.skip ?_;cases h;exact ed 0 (hm (g1.1,g1.2))
 ·have h:=fu ag bS;refine ay.fc (cD ?_);refine aA h λbx c4 h=>bA (nr (i:=1) (k:=bx) (xs:=([bp,z2,z5,kN,n3,z17]:aa fV)) underlying26 MB (ah I) (de 2) I (cN c4)) ?_;refine dA (bY Yj.fd) ?_;refine aA h λxg IE h=>ae.AH (i:=1) (k:=bx) ((aP.id fV).comp Ot) (v:=(ByteArray.mk #[112,111,114,116,32,33,61,32,48]:ByteArray)) (r:=(xg:aa fV)) su (ah I) (iN (ByteArray.mk #[112,111,114,116,32,33,61,32,48])) I (cN c4).1 I (dt IE) (ae.kG (m:=xg.length) 4 I (lH (dt IE)) (ae.kG (m:=xg.length) 46 I (lH (dt IE)) (ae.kG (m:=xg.length) 49 I (lH (dt IE)) (ae.nil ?_))));cases h;exact ed 0 (hm ((cO 40 0),6))
 have h:=fv ag bS;refine ay.skip ?_;cases h;exact ed 0 (hm ((cO 40 0),6))
def aeQ{ab bR r}(h:Gd ab=some r):l7 prog 25 [J.cr bR] bR ab (J.of r.1) r.2:=by
 unfold Gd at h;refine bL.of func25 I ntmps25 I λW A=>b3 (bA (dm (look_nil (α:=cy))) ?_);refine aO λbp ez h=>?_;refine ae.bt 0 I (aA h λao bs h=>eL 1 gR (gN bs) λaw=>?_);refine aO ?_;refine ae.bt 0 I (aA h λaF b2 h=>eL 1 gR (gN b2) λcH=>?_);refine dO jI ?_;refine aA h λz2 hi h=>qf hi (kD (b:=({(default:cy)with b6:=1,du:=ByteArray.mk #[112,111,114,116,115],cn:=[bp],dW:=([1,2,4]:aa Int),jT:=bm (1+ao.1),ie:=bm (2+aF.1)}:cy)) I M0 vD (.cons xX I (de 1) I (.cons K2 I (iN (ByteArray.mk #[112,111,114,116,115])) I (.cons sU I (ah I) I (.cons zM I (ah I) I (.cons KL I (ah I) I (.cons Gw I (ah I) I (.nil)))))))) ?_;refine jv vD λbk=>?_;refine p3 0 qG (h5 ?_);refine aA h λz3 lZ h=>qf lZ (kD (b:= {du:=ByteArray.mk #[100],jo:=7,dQ:=2:dD}) I MC um (.cons GP I (iN (ByteArray.mk #[100])) I (.cons GI I (de 7) I (.cons wk I (de 2) I (.nil))))) ?_;refine ae.si (α:=dD) (r:=[z3]) underlying82 ti um I I (.cons (by simp) (ah I) (.nil)) I λet=>?_;refine aO ?_;refine ae.bt 2 I (aA h λbg dR h=>eL 1 gR (gN dR) λeI=>?_);refine dO jI ?_;refine bA (tZ (b:=({(default:cy)with b6:=2,du:=ByteArray.mk #[114,111,117,116,101,115],dW:=([1,2,3,4]:aa Int),jT:=2,ie:=bm (3+bg.1)}:cy)) [] Q6 I M0 vD (.cons xX I (de 2) I (by rfl) (.cons K2 I (iN (ByteArray.mk #[114,111,117,116,101,115])) I (by rfl) (.hole sU I (ah I) jn I I (.cons zM I (ah I) I (by rfl) (.cons KL I (de 2) I (by rfl) (.cons Gw I (ah I) I (by rfl) (.nil)))))))) ?_;refine ae.sc (z:=(default:cy)) [2] Q7 vD I λbn=>ae.own (α:=dD) 155 (ae.wK (i:=1) qG (ah I) (ah I) I ?_);refine aO ?_;refine ae.bt 2 I (aA h λbw e5 h=>eL 1 qF (qq e5) λhn=>ca ?_);refine aA h λm1 bS h=>ix (γ:=(aE Nat×Nat)) [0,2,3,4,28] (λg1=>[]) (λg1=>[(2,⟨some bn,.cu m1.1 [(2,aQ g1.1 m1.2.length g1.2)]⟩),(3,⟨g1.1,.row 155 m1.2 g1.2⟩)]) (λg1=>?_) (λhm ag=>?_) λhm ag=>?_
 ·refine al.next (b3 (aA h λz4 sr h=>qf sr (kD (b:= {du:=ByteArray.mk #[101],jo:=6,dQ:=3:dD}) I MC um (.cons GP I (iN (ByteArray.mk #[101])) I (.cons GI I (de 6) I (.cons wk I (de 3) I (.nil))))) ?_))
  refine aA h λz5 xe h=>qf xe (kD (b:= {du:=ByteArray.mk #[97],jo:=4,dQ:=3:dD}) I MC um (.cons GP I (iN (ByteArray.mk #[97])) I (.cons GI I (de 4) I (.cons wk I (de 3) I (.nil))))) ?_;refine ae.si (α:=dD) (r:=[z4,z5]) underlying82 ti um I I (.cons (by simp) (ah I) (.cons (by simp) (ah I) (.nil))) I λkk=>?_;refine aO ?_;refine ae.bt 1 I (aA h λcd hB h=>eL 1 gR (gN hB) λc7=>?_);refine dO jI ?_;refine bA (tZ (b:=({(default:cy)with b6:=3,du:=ByteArray.mk #[97,99,108],dW:=([1,2,3,5,6]:aa Int),jT:=1,ie:=bm (4+cd.1)}:cy)) [] Q6 I M0 vD (.cons xX I (de 3) I (by rfl) (.cons K2 I (iN (ByteArray.mk #[97,99,108])) I (by rfl) (.hole sU I (ah I) jn I I (.cons zM I (ah I) I (by rfl) (.cons KL I (de 1) I (by rfl) (.cons Gw I (ah I) I (by rfl) (.nil)))))))) ?_;refine ae.sc (z:=(default:cy)) [2] Q7 vD I λb4=>ae.own (α:=dD) 155 (ae.wK (i:=1) qG (ah I) (ah I) I ?_);refine aO ?_;refine ae.bt 2 I (aA h λcj ih h=>eL 1 qF (qq ih) λgL=>ca ?_);refine aA h λm2 c6 h=>ix (γ:=(aE Nat×Nat)) [0,2,3,4,5,28,44] (λg2=>[]) (λg2=>[(2,⟨some b4,.cu m2.1 [(2,aQ g2.1 m2.2.length g2.2)]⟩),(3,⟨g2.1,.row 155 m2.2 g2.2⟩)]) (λg2=>?_) (λhm ag=>?_) λhm ag=>?_
  ·refine al.next (b3 (aA h λoV I4 h=>qf I4 (kD (b:= {du:=ByteArray.mk #[102],jo:=8,dQ:=4:dD}) I MC um (.cons GP I (iN (ByteArray.mk #[102])) I (.cons GI I (de 8) I (.cons wk I (de 4) I (.nil))))) ?_))
   refine ae.si (α:=dD) (r:=[oV]) underlying82 ti um I I (.cons (by simp) (ah I) (.nil)) I λnw=>?_;refine aO ?_;refine ae.bt 1 I (aA h λcm mr h=>eL 1 gR (gN mr) λlB=>?_);refine dO jI ?_;refine bA (tZ (b:=({(default:cy)with b6:=4,du:=ByteArray.mk #[115,112,97,110,115],dW:=([1,3,5]:aa Int),jT:=3,Ac:=[({(default:aN)with cI:=7#64}:aN)],ie:=bm (3+cm.1)}:cy)) [] Q6 I M0 vD (.cons xX I (de 4) I (by rfl) (.cons K2 I (iN (ByteArray.mk #[115,112,97,110,115])) I (by rfl) (.hole sU I (ah I) jn I I (.cons zM I (ah I) I (by rfl) (.cons KL I (de 3) I (by rfl) (.cons ad0 I (ah I) I (by rfl) (.cons Gw I (ah I) I (by rfl) (.nil))))))))) ?_;refine ae.sc (z:=(default:cy)) [2] Q7 vD I λdd=>ae.own (α:=dD) 155 (ae.wK (i:=1) qG (ah I) (ah I) I ?_);refine aO ?_;refine ae.bt 2 I (aA h λcA p4 h=>eL 1 qF (qq p4) λJW=>ca ?_);refine aA h λm3 fZ h=>ix (γ:=(aE Nat×Nat)) [0,2,3,4,5,6,28,44,61] (λg3=>[]) (λg3=>[(2,⟨some dd,.cu m3.1 [(2,aQ g3.1 m3.2.length g3.2)]⟩),(3,⟨g3.1,.row 155 m3.2 g3.2⟩)]) (λg3=>?_) (λhm ag=>?_) λhm ag=>?_
   ·refine al.next (b3 (nC 10 qG ?_))
    refine ae.nx (β:=cy) (γ:=dD) (b':=({m1.1 with cn:=m1.2}:cy)) ((aP.id cy).comp sU) 8 9 0 I I I I I I (ae.tg 8 I (nC 8 qG ?_));refine ae.nx (β:=cy) (γ:=dD) (b':=({m2.1 with cn:=m2.2}:cy)) ((aP.id cy).comp sU) 5 6 0 I I I I I I (ae.tg 5 I (nC 5 qG ?_));refine ae.nx (β:=cy) (γ:=dD) (b':=({m3.1 with cn:=m3.2}:cy)) ((aP.id cy).comp sU) 2 3 0 I I I I I I (ae.tg 2 I (nC 2 qG ?_));refine aA h λod Ew h=>ae.abg (α:=cy) (r0:=[z2,({m1.1 with cn:=m1.2}:cy),({m2.1 with cn:=m2.2}:cy),({m3.1 with cn:=m3.2}:cy)]) (r:=od) underlying27 qG vD I I (.cons (by simp) (ah I) (.cons (by simp) (ah I) (.cons (by simp) (ah I) (.cons (by simp) (ah I) (.nil))))) (dt Ew) I λsj=>?_;refine aO λkN No z9 Tf qM abe qN abf h=>?_;refine bA (rp (i:=0) underlying27 (ah I) I I) ?_;refine cD (ca (ay.block ?_));refine aA h λav an h=>fk (γ:=(aE Nat×Nat)) (δ:=(aE Nat×Nat)) an [0,2,3,4,5,6,8,28,44,61,80] (λs1 g4=>[(7,J.eq (aQ g4.1 s1.2.1.length g4.2)),(81,J.of s1.1)]) (λs1 g4=>[(0,⟨g4.1,.row 84 s1.2.1 g4.2⟩),(1,aI bR s1.2.2)]) (λtL=>Exit.exit 0) (λtL g4=>[(7,J.eq (aQ g4.1 tL.2.2.1.length g4.2)),(81,J.of tL.1),(82,J.of tL.2.1)]) (λtL g4=>[(0,⟨g4.1,.row 84 tL.2.2.1 g4.2⟩),(1,aI bR tL.2.2.2)]) (sj,4) (λs1 r h g4=>?_) λg4=>?_
    ·refine go2 (λh=>?_) (λh=>?_)
     ·refine aA h λaJ cT h=>aA h λdS sv h=>aA h λbx c4 h=>aA h λcB gr h=>aA h λz12 ID h=>ei [0,2,3,4,5,6,7,8,9,28,44,61,80,81,82,83] ?_;refine ay.tJ mixed (az 84 [] [] _::az 85 [] [] _::az 86 [] [] _::az 87 [] [] _::az 88 [2,3] [] _::az 89 [4] [] _::az 90 [] [] _::⟨some 91,[6],[1],[1],λ_=>J.of dS.1,λhd _=>aI bR dS.2⟩::az 92 [5,7] [] _::az 93 [8] [] _::az 94 [0,1] [0] _::az 95 [10] [] _::fz [9,10,11] [0] [0] (λhd=>⟨g4.1,.row 84 z12 g4.2⟩)::[]) ⟨hD,hD,hD,hD,fS λaD ar=>se (k:=aJ) underlying157 RT (ah (aD _ _ I)) (ah (aD _ _ I)) (cN cT),gv (kE RT),hD,?_,fS λaD ar=>se (k:=bx) underlying156 su (ah (aD _ _ I)) (ah (aD _ _ I)) (cN c4),gv (kE su),fS λaD ar=>nr (i:=0) (k:=cB) (xs:=(s1.2.1:aa cy)) underlying27 qG (ah (aD _ _ I)) (ah (aD _ _ I)) (ar 0 _ I I) (cN gr),gv (bY akM.fd),?_,trivial⟩ λcO=>?_
      ·intro hd E' L' aD ar;refine ae.bt 1 (ar 1 _ I I) (ae.lI (Lin:=[aI bR s1.2.2]) (Lr:=L'.eraseIdx 1) gR (gN sv) ⟨ah (aD _ _ I),de 3,trivial⟩ I λNp=>ae.nil (al.back 1 (ar 1 _ I I) ?_));exact al.fin (cJ []) I I
      ·intro hd E' L' aD ar;refine ae.AH (i:=0) (k:=cB) ((aP.id cy).comp U9) (v:=(ax (ax [kN,z9,qM,qN] aJ) bx:ByteArray)) (r:=(z12:aa cy)) su (ah (aD _ _ I)) (ah (aD _ _ I)) (ar 0 _ I I) (cN gr).1 I (dt ID) (ae.nil ?_);exact al.fin (cJ []) I I
      refine al.df (L2:=[⟨g4.1,.row 84 z12 g4.2⟩,aI bR dS.2,⟨none,.row 155 ([]:aa dD) 0⟩,aI dd ({m3.1 with cn:=m3.2}:cy),⟨none,.dead⟩,⟨none,.row 155 ([]:aa dD) 0⟩,aI b4 ({m2.1 with cn:=m2.2}:cy),⟨none,.dead⟩,⟨none,.row 155 ([]:aa dD) 0⟩,aI bn ({m1.1 with cn:=m1.2}:cy),⟨none,.dead⟩,aI bk z2]) I (al.kG (m:=z12.length) 7 I (lH (dt ID)) (al.kG (m:=z12.length) 84 I (lH (dt ID)) (eO ?_)));refine aO ?_;cases h;exact hA (g4.1,g4.2) 0
     cases h;exact gq (g4.1,g4.2) 0
    refine aO ?_;exact al.kC (α:=cy) 0 [2,7,97] ⟨rfl,rfl,rfl,trivial⟩ I go
   ·have h:=fu ag fZ;refine ay.fc (dA (bY AI.fd) ?_);refine bA (hZ (i:=2) (q:=0) (β:=cy) (γ:=dD) yC (ah I) I I) ?_;refine aO λn3 SA p5 SB h=>?_;refine aA h λgJ uv h=>jf 3 underlying82 ti um uv λvC dY=>?_;refine dA (bY AI.fd) ?_;refine ae.j3 (i:=2) (γ:=dD) (b':=({({(default:cy)with b6:=4,du:=ByteArray.mk #[115,112,97,110,115],dW:=([1,3,5]:aa Int),jT:=3,Ac:=[({(default:aN)with cI:=7#64}:aN)],ie:=bm (3+cm.1)}:cy)with cn:=[]}:cy)) (os':=[(2,aQ vC gJ.length dY)]) ((aP.id cy).comp sU) yC (ah I) (ah I) jn I I I I (ae.nil ?_);cases h;exact ed 0 (hm (vC,dY))
   have h:=fv ag fZ;refine ay.skip ?_;cases h;exact ed 0 (hm (nw,1))
  ·have h:=fu ag c6;refine ay.fc (dA (bY AI.fd) ?_);refine bA (hZ (i:=2) (q:=0) (β:=cy) (γ:=dD) yC (ah I) I I) ?_;refine aO λuE SC h=>?_;refine aA h λiy sk h=>jf 3 underlying82 ti um sk λIA mm=>?_;refine dA (bY AI.fd) ?_;refine ae.j3 (i:=2) (γ:=dD) (b':=({({(default:cy)with b6:=3,du:=ByteArray.mk #[97,99,108],dW:=([1,2,3,5,6]:aa Int),jT:=1,ie:=bm (4+cd.1)}:cy)with cn:=[]}:cy)) (os':=[(2,aQ IA iy.length mm)]) ((aP.id cy).comp sU) yC (ah I) (ah I) jn I I I I (ae.nil ?_);cases h;exact ed 0 (hm (IA,mm))
  have h:=fv ag c6;refine ay.skip ?_;cases h;exact ed 0 (hm (kk,2))
 ·have h:=fu ag bS;refine ay.fc (dA (bY AI.fd) ?_);refine bA (hZ (i:=2) (q:=0) (β:=cy) (γ:=dD) yC (ah I) I I) ?_;refine aO λBp ao4 h=>?_;refine aA h λh6 A9 h=>jf 3 underlying82 ti um A9 λabh rE=>?_;refine dA (bY AI.fd) ?_;refine ae.j3 (i:=2) (γ:=dD) (b':=({({(default:cy)with b6:=2,du:=ByteArray.mk #[114,111,117,116,101,115],dW:=([1,2,3,4]:aa Int),jT:=2,ie:=bm (3+bg.1)}:cy)with cn:=[]}:cy)) (os':=[(2,aQ abh h6.length rE)]) ((aP.id cy).comp sU) yC (ah I) (ah I) jn I I I I (ae.nil ?_);cases h;exact ed 0 (hm (abh,rE))
 have h:=fv ag bS;refine ay.skip ?_;cases h;exact ed 0 (hm (et,1))
def afe{ab ai bR r}(h:zS ab ai=some r):l7 prog 26 [J.cr bR,J.of ai] bR ab (J.of r.1) r.2:=by
 unfold zS at h;refine bL.of func26 I ntmps26 I λW A=>b3 (bA (dm (look_nil (α:=dN))) (h5 ?_));refine arI ([1,2,3,4,5,6]:aa Int) underlying56 ch so ?_;refine bA (tZ (b:=({(default:dN)with b6:=1,du:=ByteArray.mk #[97,108,108],dW:=([1,2,3,4,5,6]:aa Int),kg:=40,HV:=true}:dN)) [2] DL I SD Eb (.cons GX I (de 1) I (by rfl) (.cons Pl I (iN (ByteArray.mk #[97,108,108])) I (by rfl) (.cons OZ I (ah I) I (by rfl) (.cons Gx I (de 40) I (by rfl) (.cons aff I (iL true) I (by rfl) (.nil))))))) ?_;refine ae.own (α:=fQ) 160 (ae.sc (z:=(default:dN)) [2] DL Eb I λbk=>ae.own (α:=fQ) 160 (ae.wK (i:=1) wZ (ah I) (ah I) I ?_));refine aO ?_;refine ae.bt 3 I (aA h λao bs h=>eL 1 gR (gN bs) λaw=>?_);refine aO ?_;refine ae.bt 0 I (aA h λaF b2 h=>eL 1 gR (gN b2) λcH=>?_);refine dO jI ?_;refine bA (tZ (b:=({(default:dN)with b6:=2,du:=ByteArray.mk #[115,111,109,101],dW:=([1,2,bm (3+ao.1)]:aa Int),kg:=bm (1+aF.1)}:dN)) [2] DL I SD Eb (.cons GX I (de 2) I (by rfl) (.cons Pl I (iN (ByteArray.mk #[115,111,109,101])) I (by rfl) (.cons OZ I (ah I) I (by rfl) (.cons Gx I (ah I) I (by rfl) (.nil)))))) ?_;refine ae.own (α:=fQ) 160 (ae.sc (z:=(default:dN)) [2] DL Eb I λbn=>ae.own (α:=fQ) 160 (ae.wK (i:=1) wZ (ah I) (ah I) I ?_));refine aO ?_;refine ae.bt 3 I (aA h λbg dR h=>eL 1 gR (gN dR) λeI=>?_);refine aO ?_;refine ae.bt 0 I (aA h λbw e5 h=>eL 1 gR (gN e5) λhn=>?_);refine bA (tZ (b:=({(default:dN)with b6:=7,du:=ByteArray.mk #[102,101,119],dW:=[bm (1+bg.1)],kg:=bw.1}:dN)) [2] DL I SD Eb (.cons GX I (de 7) I (by rfl) (.cons Pl I (iN (ByteArray.mk #[102,101,119])) I (by rfl) (.cons OZ I (ah I) I (by rfl) (.cons Gx I (ah I) I (by rfl) (.nil)))))) ?_;refine ae.own (α:=fQ) 160 (ae.sc (z:=(default:dN)) [2] DL Eb I λb4=>ae.own (α:=fQ) 160 (ae.wK (i:=1) wZ (ah I) (ah I) I ?_));refine aO ?_;refine aA h λav an h=>fk (γ:=(aE Nat×Nat)×(aE Nat×Nat)×(aE Nat×Nat)) (δ:=(aE Nat×Nat)×(aE Nat×Nat)×(aE Nat×Nat)) an [0,1,4,5,6,7,30,31] (λs1 g1=>[(32,J.of s1.1)]) (λs1 g1=>[(1,⟨some b4,.cu s1.2.1 [(2,aQ g1.1.1 s1.2.2.1.length g1.1.2)]⟩),(2,⟨g1.1.1,.row 160 s1.2.2.1 g1.1.2⟩),(3,aI bR s1.2.2.2.1),(5,⟨some bn,.cu s1.2.2.2.2.1 [(2,aQ g1.2.1.1 s1.2.2.2.2.2.1.length g1.2.1.2)]⟩),(6,⟨g1.2.1.1,.row 160 s1.2.2.2.2.2.1 g1.2.1.2⟩),(8,⟨some bk,.cu s1.2.2.2.2.2.2.1 [(2,aQ g1.2.2.1 s1.2.2.2.2.2.2.2.length g1.2.2.2)]⟩),(9,⟨g1.2.2.1,.row 160 s1.2.2.2.2.2.2.2 g1.2.2.2⟩)]) (λc7=>Exit.exit 0) (λc7 g1=>[(32,J.of c7.1),(33,J.of c7.2.1)]) (λc7 g1=>[(1,⟨some b4,.cu c7.2.2.1 [(2,aQ g1.1.1 c7.2.2.2.1.length g1.1.2)]⟩),(2,⟨g1.1.1,.row 160 c7.2.2.2.1 g1.1.2⟩),(3,aI bR c7.2.2.2.2.1),(5,⟨some bn,.cu c7.2.2.2.2.2.1 [(2,aQ g1.2.1.1 c7.2.2.2.2.2.2.1.length g1.2.1.2)]⟩),(6,⟨g1.2.1.1,.row 160 c7.2.2.2.2.2.2.1 g1.2.1.2⟩),(8,⟨some bk,.cu c7.2.2.2.2.2.2.2.1 [(2,aQ g1.2.2.1 c7.2.2.2.2.2.2.2.2.length g1.2.2.2)]⟩),(9,⟨g1.2.2.1,.row 160 c7.2.2.2.2.2.2.2.2 g1.2.2.2⟩)]) ((none,0),(none,0),(none,0)) (λs1 r h g1=>?_) λg1=>?_
 ·refine go2 (λaJ cT dd h=>?_) (λh=>?_)
  ·refine aA h λcd hB h=>ae.acu underlying158 la acv I (by kernel_rfl) (ah I) (ah I) hB I λet=>?_;refine aO ?_;refine aA h λcj ih h=>ae.acu underlying158 la acv I (by kernel_rfl) (ah I) (ah I) ih I λkk=>?_;refine aO ?_;refine bA (rp (i:=1) underlying158 (ah I) I I) ?_;refine cD (ca (ay.block ?_));refine aA h λaS an h=>fk (γ:=(aE Nat×Nat)×(aE Nat×Nat)) (δ:=(aE Nat×Nat)×(aE Nat×Nat)) an [0,1,4,5,6,7,9,30,31,32,33,45] (λs2 g2=>[(10,J.eq (aQ g2.2.1 s2.2.2.1.length g2.2.2)),(11,J.eq (aQ g2.1.1 s2.2.1.length g2.1.2)),(46,J.of s2.1)]) (λs2 g2=>[(0,⟨g2.1.1,.row 4 s2.2.1 g2.1.2⟩),(1,⟨g2.2.1,.row 4 s2.2.2.1 g2.2.2⟩),(6,aI bR s2.2.2.2)]) (λgL=>Exit.exit 2) (λgL g2=>[(10,J.eq (aQ g2.2.1 gL.2.2.2.1.length g2.2.2)),(11,J.eq (aQ g2.1.1 gL.2.2.1.length g2.1.2)),(46,J.of gL.1),(47,J.of gL.2.1)]) (λgL g2=>[(0,⟨g2.1.1,.row 4 gL.2.2.1 g2.1.2⟩),(1,⟨g2.2.1,.row 4 gL.2.2.2.1 g2.2.2⟩),(6,aI bR gL.2.2.2.2)]) ((kk,cj.length),(et,cd.length)) (λs2 r h g2=>?_) λg2=>?_
   ·refine go2 (λh=>?_) (λh=>?_)
    ·refine ae.bt 6 I (aA h λcm mr h=>eL 1 gR (gN mr) λlB=>?_);refine dO D0 ?_;refine aA h λbx c4 h=>bA (nr (i:=2) (k:=bx) (xs:=(s2.2.2.1:aa Bool)) underlying158 la (ah I) (ah I) I (cN c4)) ?_;refine ae.AH (i:=2) (k:=bx) (aP.id Bool) (v:=true) (r:=(iw s2.2.2.1 bx true:aa Bool)) la (ah I) (iL true) I (cN c4).1 I I (ae.kG (m:=(iw s2.2.2.1 bx true).length) 10 I (lH I) (ae.kG (m:=(iw s2.2.2.1 bx true).length) 49 I (lH I) (aA h λcB gr h=>bA (nr (i:=1) (k:=cB) (xs:=(s2.2.1:aa Bool)) underlying158 la (ah I) (ah I) I (cN gr)) ?_)));refine ae.AH (i:=1) (k:=cB) (aP.id Bool) (v:=(decide (cm.1>0):Bool)) (r:=(iw s2.2.1 cB (decide (cm.1>0)):aa Bool)) la (ah I) (ah I) I (cN gr).1 I I (ae.kG (m:=(iw s2.2.1 cB (decide (cm.1>0))).length) 11 I (lH I) (ae.kG (m:=(iw s2.2.1 cB (decide (cm.1>0))).length) 51 I (lH I) ?_));refine aO ?_;refine al.bt 6 I (al.bt 6 I (al.bt 6 I (al.bt 6 I (al.bt 6 I (al.bt 6 I ?_)))));cases h;exact hA ((g2.1.1,g2.1.2),(g2.2.1,g2.2.2)) 0
    cases h;exact gq ((g2.1.1,g2.1.2),(g2.2.1,g2.2.2)) 0
   refine aO ?_;refine bA (hZ (i:=11) (q:=0) (β:=dN) (γ:=fQ) Ba (ah I) I I) ?_;refine aO ?_;refine ae.kC (α:=Bool) 1 [63,10] ⟨rfl,rfl,trivial⟩ I (aO λbp ez h=>?_);refine aA h λcA p4 h=>jf 12 underlying55 MD RU p4 λnw dY=>?_;refine dA (bY akN.fd) ?_;refine ae.j3 (i:=11) (γ:=fQ) (b':=({s1.2.2.2.2.2.2.1 with mi:=[]}:dN)) (os':=[(2,aQ nw cA.length dY)]) ((aP.id dN).comp zP) Ba (ah I) (ah I) jn I I I I ?_;refine aO ?_;refine ae.bt 6 I (aA h λdS sv h=>eL 1 gR (gN sv) λJW=>?_);refine dO D0 (ca ?_);refine ay.freeze (α:=Bool) 1 11 I I (aA h λm1 bS h=>ix (γ:=(aE Nat×Nat)) [0,1,4,5,6,7,9,10,11,30,31,32,33,45,46,47,70] (λg3=>[]) (λg3=>[(0,aI bR m1.1),(8,⟨some bn,.cu m1.2.1 [(2,aQ g3.1 m1.2.2.length g3.2)]⟩),(9,⟨g3.1,.row 160 m1.2.2 g3.2⟩)]) (λg3=>?_) (λhm ag=>?_) λhm ag=>?_)
   ·refine al.next (b3 (cD ?_))
    refine ae.bt 0 I (aA h λgJ uv h=>eL 1 qF (qq uv) λtL=>ca ?_);refine aA h λm2 c6 h=>ix (γ:=(aE Nat×Nat)) [0,1,4,5,6,7,9,10,11,30,31,32,33,45,46,47,70,86] (λg4=>[]) (λg4=>[(0,aI bR m2.1),(5,⟨some b4,.cu m2.2.1 [(2,aQ g4.1 m2.2.2.length g4.2)]⟩),(6,⟨g4.1,.row 160 m2.2.2 g4.2⟩)]) (λg4=>?_) (λhm ag=>?_) λhm ag=>?_
    ·refine aO ?_;refine al.bt 6 I (al.bt 6 I (al.bt 6 I (al.bt 6 I (al.bt 6 I (al.bt 6 I ?_)))));cases h;exact hA ((g4.1,g4.2),(g3.1,g3.2),(nw,dY)) 3
    ·have h:=fu ag c6;refine aA h λiy sk h=>aA h λh6 A9 h=>aA h λz2 hi h=>aA h λjM w0 h=>ei [0,1,4,5,6,7,9,10,11,30,31,32,33,45,46,47,70,85,86] ?_;refine ay.cf 13 (az 87 [] [] _::az 88 [0] [5] (J.eq (aQ g1.1.1 s1.2.2.1.length g1.1.2))::az 89 [] [] _::az 90 [2] [3] _::az 91 [] [] _::⟨some 92,[4],[0],[0],λ_=>J.of iy.1,λhd _=>aI bR iy.2⟩::az 93 [] [] _::⟨some 94,[5,6],[0],[0],λ_=>J.of h6.1,λhd _=>aI bR h6.2⟩::az 95 [] [] _::az 96 [3,5,7,8] [] _::az 97 [9] [] _::⟨some 98,[1,10],[6],[6],λhd=>J.eq (aQ (hd 11 0) jM.length ((hd 11 1).getD 0)),λhd _=>⟨(hd 11 0),.row 160 jM ((hd 11 1).getD 0)⟩⟩::az 99 [] [] _::fz [1,11,12] [5] [5] (λhd=>⟨some b4,.cu ({s1.2.1 with mi:=[]}:dN) [(2,aQ (hd 11 0) jM.length ((hd 11 1).getD 0))]⟩)::[]) (dK ?_ (dK ?_ (dK ?_ (dK ?_ (dK ?_ hR))))) (λcO=>?_)
     ·exact ey.q (qg λhd E' L' aD ar=>hZ (i:=5) (q:=0) (β:=dN) (γ:=fQ) Ba (ah (aD _ _ I)) (ar 5 _ I I) I)
     ·intro hd E' L' aD ar bZ;exact ae.bt 0 (ar 0 _ I I) (ae.lI (Lin:=[aI bR gJ.2]) (Lr:=L'.eraseIdx 0) qF (qq sk) ⟨ah (aD _ _ I),trivial⟩ I λNp=>ae.nil (al.back 0 (ar 0 _ I I) (al.fin (cJ []) I I)))
     ·intro hd E' L' aD ar bZ;exact ae.bt 0 (ar 0 _ I I) (ae.lI (Lin:=[aI bR iy.2]) (Lr:=L'.eraseIdx 0) qF (qq A9) ⟨ah (aD _ _ I),trivial⟩ I λarJ=>ae.nil (al.back 0 (ar 0 _ I I) (al.fin (cJ []) I I)))
     ·intro hd E' L' aD ar bZ;refine ae.app (i:=6) underlying55 MD RU (bytes:=40) (by kernel_rfl) (ah (aD _ _ I)) (ar 6 _ I I) (ah (aD _ _ I)) w0 I λsj mm=>?_;exact ae.nil (al.fin (cJ [sj,some mm]) I I)
     ·intro hd E' L' aD ar bZ;refine ae.j3 (i:=5) (γ:=fQ) (b':=({s1.2.1 with mi:=[]}:dN)) (os':=[(2,aQ (hd 11 0) jM.length ((hd 11 1).getD 0))]) ((aP.id dN).comp zP) Ba (ah (aD _ _ I)) (ah (aD _ _ I)) jn (ar 5 _ I I) I I I (ae.nil ?_);exact al.fin (cJ []) I I
     refine al.df (L2:=[aI bR h6.2,⟨none,.dead⟩,⟨none,.dead⟩,aI dd (ax ai aJ:cy),⟨none,.row 160 ([]:aa fQ) 0⟩,⟨some b4,.cu ({s1.2.1 with mi:=[]}:dN) [(2,aQ (cO 11 0) jM.length ((cO 11 1).getD 0))]⟩,⟨(cO 11 0),.row 160 jM ((cO 11 1).getD 0)⟩,⟨none,.row 160 ([]:aa fQ) 0⟩,⟨some bn,.cu m1.2.1 [(2,aQ g3.1 m1.2.2.length g3.2)]⟩,⟨g3.1,.row 160 m1.2.2 g3.2⟩,⟨none,.row 160 ([]:aa fQ) 0⟩,⟨some bk,.cu ({s1.2.2.2.2.2.2.1 with mi:=[]}:dN) [(2,aQ nw cA.length dY)]⟩,⟨nw,.row 160 cA dY⟩]) I (eO ?_);cases h;exact ed 0 (hm ((cO 11 0),((cO 11 1).getD 0)))
    have h:=fv ag c6;refine ay.skip ?_;cases h;exact ed 0 (hm (g1.1.1,g1.1.2))
   ·have h:=fu ag bS;refine aA h λkV Bb h=>aA h λBq ao6 h=>aA h λz3 lZ h=>aA h λyS ao7 h=>ei [0,1,4,5,6,7,9,10,11,30,31,32,33,45,46,47,59,61,62,63,64,65,66,67,68,69,70] ?_;refine ay.cf 13 (az 71 [] [] _::az 72 [0] [8] (J.eq (aQ g1.2.1.1 s1.2.2.2.2.2.1.length g1.2.1.2))::az 73 [] [] _::az 74 [2] [3] _::az 75 [] [] _::⟨some 76,[4],[0],[0],λ_=>J.of kV.1,λhd _=>aI bR kV.2⟩::az 77 [5] [] _::az 78 [] [] _::⟨some 79,[5,7],[0],[0],λ_=>J.of Bq.1,λhd _=>aI bR Bq.2⟩::az 80 [] [] _::az 81 [3,6,8,9] [] _::az 82 [10] [] _::⟨some 83,[1,11],[9],[9],λhd=>J.eq (aQ (hd 12 0) yS.length ((hd 12 1).getD 0)),λhd _=>⟨(hd 12 0),.row 160 yS ((hd 12 1).getD 0)⟩⟩::az 84 [] [] _::fz [1,12,13] [8] [8] (λhd=>⟨some bn,.cu ({s1.2.2.2.2.1 with mi:=[]}:dN) [(2,aQ (hd 12 0) yS.length ((hd 12 1).getD 0))]⟩)::[]) (dK ?_ (dK ?_ (dK ?_ (dK ?_ (dK ?_ hR))))) (λgf=>?_)
    ·exact ey.q (qg λhd E' L' aD ar=>hZ (i:=8) (q:=0) (β:=dN) (γ:=fQ) Ba (ah (aD _ _ I)) (ar 8 _ I I) I)
    ·intro hd E' L' aD ar bZ;exact ae.bt 0 (ar 0 _ I I) (ae.lI (Lin:=[aI bR dS.2]) (Lr:=L'.eraseIdx 0) gR (gN Bb) ⟨ah (aD _ _ I),de 4,trivial⟩ I λarK=>ae.nil (al.back 0 (ar 0 _ I I) (al.fin (cJ []) I I)))
    ·intro hd E' L' aD ar bZ;exact ae.bt 0 (ar 0 _ I I) (ae.lI (Lin:=[aI bR kV.2]) (Lr:=L'.eraseIdx 0) qF (qq ao6) ⟨ah (aD _ _ I),trivial⟩ I λaus=>ae.nil (al.back 0 (ar 0 _ I I) (al.fin (cJ []) I I)))
    ·intro hd E' L' aD ar bZ;refine ae.app (i:=9) underlying55 MD RU (bytes:=40) (by kernel_rfl) (ah (aD _ _ I)) (ar 9 _ I I) (ah (aD _ _ I)) ao7 I λvC rE=>?_;exact ae.nil (al.fin (cJ [vC,some rE]) I I)
    ·intro hd E' L' aD ar bZ;refine ae.j3 (i:=8) (γ:=fQ) (b':=({s1.2.2.2.2.1 with mi:=[]}:dN)) (os':=[(2,aQ (hd 12 0) yS.length ((hd 12 1).getD 0))]) ((aP.id dN).comp zP) Ba (ah (aD _ _ I)) (ah (aD _ _ I)) jn (ar 8 _ I I) I I I (ae.nil ?_);exact al.fin (cJ []) I I
    refine al.df (L2:=[aI bR Bq.2,⟨none,.dead⟩,⟨none,.dead⟩,aI dd (ax ai aJ:cy),⟨none,.row 160 ([]:aa fQ) 0⟩,⟨some b4,.cu s1.2.1 [(2,aQ g1.1.1 s1.2.2.1.length g1.1.2)]⟩,⟨g1.1.1,.row 160 s1.2.2.1 g1.1.2⟩,⟨none,.row 160 ([]:aa fQ) 0⟩,⟨some bn,.cu ({s1.2.2.2.2.1 with mi:=[]}:dN) [(2,aQ (gf 12 0) yS.length ((gf 12 1).getD 0))]⟩,⟨(gf 12 0),.row 160 yS ((gf 12 1).getD 0)⟩,⟨none,.row 160 ([]:aa fQ) 0⟩,⟨some bk,.cu ({s1.2.2.2.2.2.2.1 with mi:=[]}:dN) [(2,aQ nw cA.length dY)]⟩,⟨nw,.row 160 cA dY⟩]) I (eO ?_);cases h;exact ed 0 (hm ((gf 12 0),((gf 12 1).getD 0)))
   have h:=fv ag bS;refine ay.skip ?_;cases h;exact ed 0 (hm (g1.2.1.1,g1.2.1.2))
  cases h;exact gq ((g1.1.1,g1.1.2),(g1.2.1.1,g1.2.1.2),(g1.2.2.1,g1.2.2.2)) 0
 refine al.k5 (al.next (b3 (ae.nx (β:=dN) (γ:=fQ) (b':=({av.2.2.2.2.2.2.2.1 with mi:=av.2.2.2.2.2.2.2.2}:dN)) ((aP.id dN).comp zP) 8 9 0 I I I I I I (ae.tg 8 I (aA h λz4 sr h=>qf sr (hv (i:=8) (aP.id dN) (r:=({av.2.2.2.2.2.2.2.1 with mi:=av.2.2.2.2.2.2.2.2}:dN)) wZ (ah I) I I I) ?_)))));refine ae.nx (β:=dN) (γ:=fQ) (b':=({av.2.2.2.2.2.1 with mi:=av.2.2.2.2.2.2.1}:dN)) ((aP.id dN).comp zP) 5 6 0 I I I I I I (ae.tg 5 I (nC 5 wZ ?_));exact ae.nx (β:=dN) (γ:=fQ) (b':=({av.2.2.1 with mi:=av.2.2.2.1}:dN)) ((aP.id dN).comp zP) 1 2 0 I I I I I I (ae.tg 1 I go)
def VM{ab bR r}(h:xQ ab=some r):l7 prog 8 [J.cr bR] bR ab (J.of r.1) r.2:=by
 unfold xQ at h;refine bL.of func8 I ntmps8 I λW A=>?_;refine aO λbk=>?_;refine ae.bt 1 I (aA h λao bs h=>eL 1 gR (gN bs) λaw=>?_);refine aO ?_;refine ae.bt 0 I (aA h λaF b2 h=>eL 1 gR (gN b2) λcH=>?_);refine dO jI ?_;refine bA (tZ (b:=({(default:aZ)with HA:=bm (2+ao.1),HM:=bm (12+aF.1)}:aZ)) [5,7] Xo I ao8 abi (.cons aea I (ah I) I (by rfl) (.cons ael I (ah I) I (by rfl) (.nil)))) ?_;refine ae.own (α:=hV) 79 (ae.own (α:=fD) 81 (ae.sc (z:=(default:aZ)) [5,7] Xo abi I λbn=>ae.own (α:=hV) 79 (ae.own (α:=fD) 81 (ae.wK (i:=2) rD (ah I) (ah I) I ?_))));refine aO λbp ez z2 hi z3 lZ z4 sr z5 xe oV I4 od Ew kN No h=>?_;refine aA h λz9 Tf h=>ae.yh (i:=2) ((aP.id aZ).comp VA) (v:=kN) (b':=z9) abj (ah I) (ah I) I I (dt Tf) (by rfl) ?_;refine aO λqM abe qN abf z12 ID h=>?_;refine ae.yh (i:=2) ((aP.id aZ).comp Vs) (v:=([qM,qN,z12]:aa mL)) (b':=({z9 with pT:=[qM,qN,z12]}:aZ)) abk (ah I) (ah I) I I I (by rfl) ?_;refine aO ?_;refine ae.bt 5 I (aA h λbg dR h=>eL 1 ao9 (aeP dR) λeI=>?_);refine cD ?_;refine ae.bt 0 I (aA h λbw e5 h=>eL 1 apa (aez e5) λhn=>?_);refine cD ?_;refine ae.bt 0 I (aA h λcd hB h=>eL 1 apb (aeQ hB) λc7=>?_);refine dA (bY akO.fd) ?_;refine aA h λn3 SA h=>ae.yh (i:=3) ((aP.id aZ).comp VB) (v:=bg.1) (b':=n3) abl (ah I) (ah I) I I (dt SA) (by rfl) ?_;refine dA (bY akP.fd) ?_;refine ae.yh (i:=3) ((aP.id aZ).comp Vt) (v:=bw.1) (b':=({n3 with dW:=bw.1}:aZ)) abm (ah I) (ah I) I I I (by rfl) ?_;refine dA (bY Q8.fd) ?_;refine aA h λp5 SB h=>ae.yh (i:=3) ((aP.id aZ).comp zN) (v:=cd.1) (b':=p5) Bc (ah I) (ah I) I I (dt SB) (by rfl) ?_;refine aO ?_;refine acw 3 zN Bc ?_;refine ae.bt 0 I (aA h λcj ih h=>eL 1 apc (afe ih) λgL=>?_);refine dA (bY Q9.fd) ?_;refine ae.yh (i:=3) ((aP.id aZ).comp KR) (v:=cj.1) (b':=({p5 with eK:=cj.1}:aZ)) Ec (ah I) (ah I) I I I (by rfl) ?_;refine h5 (uB M1 Ed {bG:=1,k3:=1:hV} (sn Ge (sn O0 .nil)) ?_);refine uB M1 Ed {bG:=2,k3:=2:hV} (sn Ge (sn O0 .nil)) ?_;refine uB M1 Ed ({(default:hV)with bG:=3}:hV) (sn Ge .nil) ?_;refine uB M1 Ed {bG:=4,k3:=3:hV} (sn Ge (sn O0 .nil)) ?_;refine aA h λuE SC h=>ae.abg (α:=hV) (r0:=[{bG:=1,k3:=1:hV},{bG:=2,k3:=2:hV},({(default:hV)with bG:=3}:hV),{bG:=4,k3:=3:hV}]) (r:=uE) underlying28 SE Ed I I (.cons (by simp) (ah I) (.cons (by simp) (ah I) (.cons (by simp) (ah I) (.cons (by simp) (ah I) (.nil))))) (dt SC) I λet=>?_;refine dA (bY Ra.fd) ?_;refine ae.j3 (i:=4) (γ:=hV) (b':=({({p5 with eK:=cj.1}:aZ)with r5:=[]}:aZ)) (os':=[(5,aQ et uE.length 4),(7,aQ none ([]:aa fD).length 0)]) ((aP.id aZ).comp KM) M3 (ah I) (ah I) jn I I I I ?_;refine aO ?_;refine ae.bt 1 I (aA h λcm mr h=>eL 1 qF (qq mr) λlB=>ca ?_);refine aA h λm1 bS h=>ix (γ:=(aE Nat×Nat)) [0,2,3,51] (λg1=>[]) (λg1=>[(1,⟨g1.1,.row 79 m1 g1.2⟩),(4,⟨some bn,.cu ({({p5 with eK:=cj.1}:aZ)with r5:=[]}:aZ) [(5,aQ g1.1 m1.length g1.2),(7,aQ none ([]:aa fD).length 0)]⟩)]) (λg1=>?_) (λhm ag=>?_) λhm ag=>?_
 ·refine aO ?_;refine ae.bt 0 I (aA h λcA p4 h=>eL 1 qF (qq p4) λJW=>ca ?_);refine aA h λm2 c6 h=>ix (γ:=(aE Nat×Nat)) [0,2,3,51,59] (λg2=>[]) (λg2=>[(4,⟨some bn,.cu m2.1 [(5,aQ g1.1 m1.length g1.2),(7,aQ g2.1 m2.2.length g2.2)]⟩),(5,⟨g2.1,.row 81 m2.2 g2.2⟩)]) (λg2=>?_) (λhm ag=>?_) λhm ag=>?_
  ·refine aO ?_;refine ae.bt 0 I (aA h λdS sv h=>eL 1 qF (qq sv) λtL=>?_);refine aO ?_;refine iX (λhb=>HW (i:=4) ((aP.id aZ).comp zN) (r:=m2.1.bK) Bc (ck I hb) I I I (by rfl)) ?_;refine aO λaJ cT h=>?_;refine aA h λm3 fZ h=>ix (γ:=(aE Nat×Nat)) [0,2,3,51,59,76] (λg3=>[]) (λg3=>[(4,⟨some bn,.cu m3.1 [(5,aQ g1.1 m1.length g1.2),(7,aQ g3.1 m3.2.length g3.2)]⟩),(5,⟨g3.1,.row 81 m3.2 g3.2⟩)]) (λg3=>?_) (λhm ag=>?_) λhm ag=>?_
   ·refine aO ?_;refine ae.bt 0 I (aA h λgJ uv h=>eL 1 qF (qq uv) λNp=>?_);refine aO ?_;refine iX (λhb=>HW (i:=4) ((aP.id aZ).comp zN) (r:=m3.1.bK) Bc (ck I hb) I I I (by rfl)) ?_;refine aO λbx c4 h=>?_;refine aA h λm4 I6 h=>ix (γ:=(aE Nat×Nat)) [0,2,3,51,59,76,93] (λg4=>[]) (λg4=>[(4,⟨some bn,.cu m4.1 [(5,aQ g1.1 m1.length g1.2),(7,aQ g4.1 m4.2.length g4.2)]⟩),(5,⟨g4.1,.row 81 m4.2 g4.2⟩)]) (λg4=>?_) (λhm ag=>?_) λhm ag=>?_
    ·exact al.next (b3 (ae.nx (β:=aZ) (γ:=hV) (b':=({m4.1 with r5:=m1}:aZ)) ((aP.id aZ).comp KM) 4 1 0 I I I I I I (ae.nx (β:=aZ) (γ:=fD) (b':=({({m4.1 with r5:=m1}:aZ)with dj:=m4.2}:aZ)) ((aP.id aZ).comp Gf) 4 5 0 I I I I I I (ae.tg 4 I go))))
    ·have h:=fu ag I6;refine ay.fc (dA (bY DM.fd) ?_);refine bA (hZ (i:=4) (q:=1) (β:=aZ) (γ:=fD) Bd (ah I) I I) ?_;refine aO λz17 ao5 yR MZ h=>?_;refine aA h λiy sk h=>jf 5 underlying30 M4 SF sk λkk dY=>?_;refine dA (bY DM.fd) ?_;refine ae.j3 (i:=4) (γ:=fD) (b':=({m3.1 with dj:=[]}:aZ)) (os':=[(5,aQ g1.1 m1.length g1.2),(7,aQ kk iy.length dY)]) ((aP.id aZ).comp Gf) Bd (ah I) (ah I) jn I I I I (ae.nil ?_);cases h;exact ed 0 (hm (kk,dY))
    have h:=fv ag I6;refine ay.skip ?_;cases h;exact ed 0 (hm (g3.1,g3.2))
   ·have h:=fu ag fZ;refine ay.fc (dA (bY DM.fd) ?_);refine bA (hZ (i:=4) (q:=1) (β:=aZ) (γ:=fD) Bd (ah I) I I) ?_;refine aO λxg IE h=>?_;refine aA h λh6 A9 h=>jf 5 underlying30 M4 SF A9 λnw mm=>?_;refine dA (bY DM.fd) ?_;refine ae.j3 (i:=4) (γ:=fD) (b':=({m2.1 with dj:=[]}:aZ)) (os':=[(5,aQ g1.1 m1.length g1.2),(7,aQ nw h6.length mm)]) ((aP.id aZ).comp Gf) Bd (ah I) (ah I) jn I I I I (ae.nil ?_);cases h;exact ed 0 (hm (nw,mm))
   have h:=fv ag fZ;refine ay.skip ?_;cases h;exact ed 0 (hm (g2.1,g2.2))
  ·have h:=fu ag c6;refine ay.fc (dA (bY DM.fd) ?_);refine bA (hZ (i:=4) (q:=1) (β:=aZ) (γ:=fD) Bd (ah I) I I) ?_;refine aO λz20 aue h=>?_;refine aA h λjM w0 h=>jf 5 underlying30 M4 SF w0 λsj rE=>?_;refine dA (bY DM.fd) ?_;refine ae.j3 (i:=4) (γ:=fD) (b':=({({({p5 with eK:=cj.1}:aZ)with r5:=[]}:aZ)with dj:=[]}:aZ)) (os':=[(5,aQ g1.1 m1.length g1.2),(7,aQ sj jM.length rE)]) ((aP.id aZ).comp Gf) Bd (ah I) (ah I) jn I I I I (ae.nil ?_);cases h;exact ed 0 (hm (sj,rE))
  have h:=fv ag c6;refine ay.skip ?_;cases h;exact ed 0 (hm (none,0))
 ·have h:=fu ag bS;refine ay.fc (dA (bY Ra.fd) ?_);refine bA (hZ (i:=4) (q:=0) (β:=aZ) (γ:=hV) M3 (ah I) I I) ?_;refine aO ?_;refine aA h λkV Bb h=>jf 1 underlying28 SE Ed Bb λvC Iz=>?_;refine dA (bY Ra.fd) ?_;refine ae.j3 (i:=4) (γ:=hV) (b':=({({p5 with eK:=cj.1}:aZ)with r5:=[]}:aZ)) (os':=[(5,aQ vC kV.length Iz),(7,aQ none ([]:aa fD).length 0)]) ((aP.id aZ).comp KM) M3 (ah I) (ah I) jn I I I I (ae.nil ?_);cases h;exact ed 0 (hm (vC,Iz))
 have h:=fv ag bS;refine ay.skip ?_;cases h;exact ed 0 (hm (et,4))
instance abn:lT prog 152 _ _ wq J.of J.of:=.i func152 I ntmps152 I λab r h W A=>by
 unfold wq at h;refine aO ?_;refine aA h λav an h=>fk (γ:=Unit) (δ:=Unit) an [0,5,6] (λs1 g1=>[(2,J.of (0:Int)),(7,J.of s1)]) (λs1 g1=>[]) (λaw=>Sum.elim (λaw=>Exit.exit 0) (λaw=>Exit.ret) aw) (λaw g1=>Sum.elim (λaw=>[(2,J.of (0:Int)),(7,J.of aw.1),(8,J.of aw.2)]) (λaw=>[(2,J.of aw.1),(4,J.of aw.2.1),(7,J.of aw.2.2.1),(8,J.of aw.2.2.2.1),(12,J.of aw.2.2.2.2)]) aw) (λaw g1=>[]) () (λs1 r h g1=>?_) λg1=>?_
 ·exact go
 rcases av with av|av
 ·simp only[Sum.elim_inl]at h;exact go
 simp only[Sum.elim_inr]at h;exact go
instance:lT prog 170 _ _ Kz J.of J.of:=.i func170 I ntmps170 I λab r h W A=>by
 unfold Kz at h;refine b3 (bA (dm (look_nil (α:=aN))) ?_);refine aO ?_;refine bA (ZH underlying50 (ah I)) (ca ?_);refine ay.ZI (ah I) (λau=>?_) ?_
 ·subst au;replace h:=WV h;subst h;have h:some ([]:aa aN)=some []:=rfl;refine b3 (bA (dm (look_nil (α:=aN))) (ca (ay.ret (al.ret ?_))));replace h:=dt h;exact uC
 refine k9 (b3 (ae.si (α:=aN) (r:=([]:aa aN)) underlying50 fw sd I I (.nil) I λet=>cD ?_));refine aA h λao bs h=>jf 0 underlying50 fw sd bs λkk dY=>?_;refine dc (ca (ay.ret ?_));exact al.kC (α:=aN) 0 [2,7] ⟨rfl,rfl,trivial⟩ I go
instance:fg prog 263 _ _ _ Fw J.of J.of J.of:=.i func263 I ntmps263 I λab ai r h W A=>by
 unfold Fw at h;refine aO (λh=>?_);refine aA h λav an h=>fk (γ:=Unit) (δ:=Unit) an [0,1,4,10,12] (λs1 g1=>[(13,J.of s1)]) (λs1 g1=>[]) (λaw=>Sum.elim (λaw=>Exit.exit 0) (λaw=>Exit.ret) aw) (λaw g1=>Sum.elim (λaw=>[(13,J.of aw.1),(14,J.of aw.2)]) (λaw=>[(5,J.of aw.1),(13,J.of aw.2.1),(14,J.of aw.2.2.1),(24,J.of aw.2.2.2)]) aw) (λaw g1=>[]) () (λs1 r h g1=>?_) λg1=>?_
 ·refine aO (λh=>?_);refine aA h λaJ cT h=>aA h λbx c4 h=>ay.fy 9 ?_;exact go
 rcases av with av|av
 ·simp only[Sum.elim_inl]at h;exact go
 simp only[Sum.elim_inr]at h;exact go
def afP{hp ab r}(h:GQ hp ab=some r):hl prog 99 [J.of ab] hp (J.of r) hp:=by
 unfold GQ at h;refine bL.of func99 I ntmps99 I λW A=>?_;refine aO (λbz dq c1 dv h=>?_);refine aA h λcE fl h=>aA h λc2 eV h=>bA (ajI underlying193 (ln (ah I) fl) (jt (n:=0) I (uh eV) I)) ?_;exact go
def afQ{hp ab ai aT r}(h:La hp ab ai aT=some r):hl prog 216 [J.of ab,J.of ai,J.of aT] hp (J.of r.1) r.2:=by
 unfold La at h;refine bL.of func216 I ntmps216 I λW A=>?_;refine aO (λbk h=>?_);refine aA h λbz dq h=>aA h λc1 dv h=>aA h λcE fl h=>aA h λc2 eV h=>aA h λbp ez h=>ei [0,1,2,4,6,9,10] ?_;refine ay.cf 1 (az 12 [] [] _::az 13 [0] [] _::az 14 [1] [] _::az 15 [2] [] _::az 16 [] [0] _::az 17 [3,4] [] (J.bW [J.of (bp.getD default),J.of bp.isSome])::az 11 [5] [] _::az 18 [6] [] _::az 19 [6] [] _::az 7 [7] [] _::az 8 [8] [] _::[]) (dK ?_ hR) (λcO=>?_)
 ·intro hd E' L' aD ar bZ;refine bA (P8 (r:=bp) underlying229 My so (ln (ah (aD _ _ I)) fl) (ah (aD _ _ I)) (jt (n:=1) (bZ.trans I) (vo eV) I) (dt ez)) (ae.nil ?_);exact al.fin (cJ []) I I
 refine al.df (L2:=(aI bk ai::a1 hp)) I (eO ?_);refine aO (λh=>?_);refine aA h λho rH h=>aA h λeE lb h=>ay.fy 6 ?_;refine aA h λmb yT h=>aA h λiH tx h=>aA h λbQ hL h=>ae.Il (k':=Cell.rC (gS iH ai aT)) 1 I (by first|exact .inl I|exact .inr I) underlying229 My (ln (ah I) yT) (ah I) (ah I) (vo tx) I I I (dt hL) ?_;exact go
def ag2{hp ab Q}(h:Ly hp ab Q):lU prog 228 [J.of ab] hp Q:=by
 unfold Ly at h;refine bL.of func228 I ntmps228 I λW A=>b3 (bA (dm o6) (h5 ?_));refine cD ?_;refine dO ZQ ?_;refine dO ZR ?_;refine aj.bF h λbp ez h=>qf ez (kD (b:=({(default:hW)with hy:=min (max 1 ab) 128}:hW)) I ame amf (.cons CM I (ah I) I (.nil))) ?_;refine ae.yA 0 I (Cell.lM bp) (λ_=>rfl) (ah I) I λbX qJ=>?_;replace h:=aj.qv h bX qJ;refine dc (ca (ay.ret ?_));exact al.eC (⟨⟨((some bX.1:Ref),bX.2),h⟩,()⟩: {r // _}×_) (.refl _) I I (dn I)
def Vu{ab ai r}(h:zI ab ai=some r):dV prog 273 [J.of ab,J.ptr ai] (J.of r):=by
 unfold zI at h;refine dV.of func273 I ntmps273 I λW A=>?_;exact go
def UK{ab ai r}(h:zx ab ai=some r):dV prog 272 [J.of ab,J.Bl prog ai] (J.of r):=by
 unfold zx at h;refine dV.of func272 I ntmps272 I λW A=>?_;refine aO ?_;refine aA h λav an h=>fk (γ:=Unit) (δ:=Unit) an [0,1,7] (λs1 g1=>[(4,J.of (0:Int)),(8,J.of s1)]) (λs1 g1=>[]) (λaw=>Sum.elim (λaw=>Exit.exit 0) (λaw=>Exit.ret) aw) (λaw g1=>Sum.elim (λaw=>[(4,J.of (0:Int)),(8,J.of aw.1),(9,J.of aw.2)]) (λaw=>[(4,J.of aw.1),(5,J.of aw.2.1),(8,J.of aw.2.2.1),(9,J.of aw.2.2.2.1),(16,J.of aw.2.2.2.2)]) aw) (λaw g1=>[]) () (λs1 r h g1=>?_) λg1=>?_
 ·refine aO (λaJ cT h=>?_);refine aA h λao bs h=>bA (LL (ah I) (ah I) bs) ?_;exact go
 rcases av with av|av
 ·simp only[Sum.elim_inl]at h;exact go
 simp only[Sum.elim_inr]at h;exact go
def adP{ab ai aT r}(h:E8 ab ai aT=some r):dV prog 267 [J.of ab,J.of ai,J.Bn prog aT] (J.bW [J.of r.1,J.of r.2]):=by
 unfold E8 at h;refine dV.of func267 I ntmps267 I λW A=>?_;refine aO λbk=>?_;refine aA h λav an h=>fk (γ:=Unit) (δ:=Unit) an [0,1,2,4,6,7,8] (λs1 g1=>[(9,J.of s1.1),(10,J.of s1.2)]) (λs1 g1=>[]) (λaw=>Exit.exit 0) (λaw g1=>[(9,J.of aw.1),(10,J.of aw.2.1),(17,J.of aw.2.2)]) (λaw g1=>[]) () (λs1 r h g1=>?_) λg1=>?_
 ·refine aO (λh=>?_);refine aA h λaJ cT h=>aA h λao bs h=>ay.kM mixed 8 (rg 24 8) [[],[],[],[1,2],[3],[],[0,4,5],[6]] [_,_,_,_,_,_,_,_] ⟨fh,fh,fh,Nq cT underlying43 dZ,H1 (kE dZ),sq 0 dZ,fA λar=>LM (ah I) (ah I) (ah I) bs,lV pd,trivial⟩ (ca ?_);refine aA h λm1 bS h=>ix (γ:=Unit) [0,1,2,4,6,7,8,11,17,31] (λg2=>[(9,J.of m1.1),(10,J.of m1.2)]) (λg2=>[]) (λg2=>?_) (λhm ag=>?_) λhm ag=>?_
  ·exact go
  ·have h:=fu ag bS;exact go
  have h:=fv ag bS;exact go
 refine al.k5 (al.next (ay.seq (aA h λbx c4 h=>aA h λaF b2 h=>ei [0,1,2,4,8,9,10,17] ?_)));refine ay.cf 1 (az 35 [] [] _::az 36 [] [] _::az 37 [] [] _::az 38 [1,2] [] _::az 39 [3] [] _::az 40 [4] [] _::az 41 [4] [] _::az 42 [4] [] _::az 43 [4,6,7] [] _::az 44 [4,8] [] _::az 45 [4] [0] _::az 46 [4,5,9,10] [] (J.cond ((decide (av.1<(ab.length:Int)))=true) (J.of aF))::az 47 [4,11] [] _::az 48 [4,12] [] _::az 6 [0] [] _::az 7 [13] [] _::[]) (dK ?_ hR) (λcO=>?_)
 ·exact ey.q (abo I I I I (λhd=>rfl) λhd E' L' aD ar hb=>LM (ck (aD _ _ I) hb) (ck (aD _ _ I) hb) (ck (aD _ _ I) hb) (fi b2 hb))
 refine al.df (L2:=[aI bk ai]) I (eO ?_);exact go
instance:lT prog 140 _ _ G1 J.of J.of:=.i func140 I ntmps140 I λab r h W A=>by
 unfold G1 at h;exact go
def ad1{ab ai r}(h:Fk ab ai=some r):dV prog 282 [J.of ab,J.Bl prog ai] (J.of r):=by
 unfold Fk at h;refine dV.of func282 I ntmps282 I λW A=>?_;refine aO ?_;refine aA h λav an h=>fk (γ:=Unit) (δ:=Unit) an [0,1,7] (λs1 g1=>[(4,J.of (0:Int)),(8,J.of s1)]) (λs1 g1=>[]) (λaw=>Sum.elim (λaw=>Exit.exit 0) (λaw=>Exit.ret) aw) (λaw g1=>Sum.elim (λaw=>[(4,J.of (0:Int)),(8,J.of aw.1),(9,J.of aw.2)]) (λaw=>[(4,J.of aw.1),(5,J.of aw.2.1),(8,J.of aw.2.2.1),(9,J.of aw.2.2.2.1),(16,J.of aw.2.2.2.2)]) aw) (λaw g1=>[]) () (λs1 r h g1=>?_) λg1=>?_
 ·refine aO (λaJ cT h=>?_);refine aA h λao bs h=>bA (LL (ah I) (ah I) bs) ?_;exact go
 rcases av with av|av
 ·simp only[Sum.elim_inl]at h;exact go
 simp only[Sum.elim_inr]at h;exact go
def afz{ab r}(h:Pm ab=some r):dV prog 283 [J.of ab] (J.of r):=by
 unfold Pm at h;refine dV.of func283 I ntmps283 I λW A=>?_;exact go
instance:fg prog 90 _ _ _ z6 J.of J.of J.of:=.i func90 I ntmps90 I λab ai r h W A=>by
 unfold z6 at h;refine aO λbk bn=>?_;refine ae.share (α:=Int) 0 3 I I (bA (Mf (F:=(λa0=>K0 a0 ai)) (τs:=[J.ptr ai]) amg ⟨ah I,trivial⟩ (λ_ _ h=>afa h)) ?_);refine aA h λao bs h=>ss amh (adY bs) ?_;exact go
instance:fg prog 93 _ _ _ C8 J.of J.of J.of:=.i func93 I ntmps93 I λab ai r h W A=>by
 unfold C8 at h;refine aO λbk bn=>?_;refine ae.share (α:=Int) 0 3 I I (bA (Mf (F:=(λa0=>K1 a0 ai)) (τs:=[J.ptr ai]) ami ⟨ah I,trivial⟩ (λ_ _ h=>afb h)) ?_);refine aA h λao bs h=>ss amj (adZ bs) ?_;exact go
def afg{hp ab ai r}(h:Gy hp ab ai=some r):hl prog 210 [J.of ab,J.of ai] hp (J.bW [J.of r.1,J.of r.2]) hp:=by
 unfold Gy at h;refine bL.of func210 I ntmps210 I λW A=>?_;refine aO λbk bn=>?_;refine aA h λao bs h=>aA h λaF b2 h=>ei [0,1,2,3] ?_;refine ay.cf 2 (az 6 [] [] _::az 7 [0] [1] _::az 8 [] [0] _::az 9 [2] [] _::az 10 [1,3] [] (J.bW [J.of aF.1,J.of aF.2])::az 11 [4] [] _::az 12 [4] [] _::az 4 [5] [] _::az 5 [6] [] _::[]) (dK ?_ hR) (λcO=>?_)
 ·intro hd E' L' aD ar bZ;exact ae.eH (dx.fR 2 (bZ.trans I) RR (Pv b2) ⟨ah (aD _ _ I),ah (aD _ _ I),trivial⟩) I I I (ae.nil (al.fin (cJ []) I I))
 refine al.df (L2:=(aI bn ai::aI bk ab::a1 hp)) I (eO ?_);exact go
instance:fg prog 222 _ _ _ zJ J.of J.of (λr=>J.bW [J.of r.1,J.of r.2.1,J.of r.2.2]):=.i func222 I ntmps222 I λab ai r h W A=>by
 unfold zJ at h;refine aO λbk bn b4 dd=>?_;refine aA h λao bs h=>aA h λaF b2 h=>ay.mU 2 (ei [0,1,2,3,4,5,6] ?_);refine ay.rP 6 (az 10 [] [3] _::az 11 [] [2] _::az 12 [1] [] _::az 13 [0,2] [] _::az 9 [3] [] _::az 14 [4] [] _::az 15 [4] [] _::qK 7 [] 4 7 _::qK 8 [] 5 8 _::fz [5,7] [4] [4] (λhd=>aI ((hd 7 0).getD 0) aF.1)::fz [6,8] [5] [5] (λhd=>aI ((hd 8 0).getD 0) aF.2)::[]) (λcO=>?_);refine al.df (L2:=[aI dd (default:aN),aI b4 (default:Vector aN 4),aI bn ai,aI bk ab,aI ((cO 7 0).getD 0) aF.1,aI ((cO 8 0).getD 0) aF.2]) I (eO ?_);refine al.bt 4 I (al.bt 5 I (go2 (λh=>?_) (λh=>?_)))
 ·refine ei [0,1,2,3,4,5,7,8,9,10,11,12,13,14,15,16,17,18,19,20,21] ?_;refine ay.rP 6 (az 22 [] [1] _::az 23 [] [0] _::fz [0] [3] [3] (λhd=>aI b4 aF.1)::fz [1] [2] [2] (λhd=>aI dd aF.2)::az 6 [] [] _::[]) (λgf=>?_);refine al.df (L2:=[aI ((cO 8 0).getD 0) aF.2,aI ((cO 7 0).getD 0) aF.1,aI dd aF.2,aI b4 aF.1,aI bn ai,aI bk ab]) I (eO (al.next (ay.ret (al.ret ?_))));cases h;exact al.abp I (Ez 3 ME) (Ez 2 fw) (IF I)
 refine aA h λaJ cT h=>ei [0,1,2,3,4,5,7,8,9,10,11,12,13,14,15,16,17,18,19,20,21] ?_;refine ay.rP 6 (az 24 [] [1] _::az 25 [] [0] _::az 26 [] [] _::az 27 [2] [4] _::az 28 [] [] _::az 29 [4] [5] _::az 30 [3,5] [] _::az 31 [6] [] _::az 32 [7] [] _::fz [0] [3] [3] (λhd=>aI b4 aF.1)::fz [1] [2] [2] (λhd=>aI dd aF.2)::az 6 [8] [] _::[]) (λxh=>?_);refine al.df (L2:=[aI ((cO 8 0).getD 0) aF.2,aI ((cO 7 0).getD 0) aF.1,aI dd aF.2,aI b4 aF.1,aI bn ai,aI bk ab]) I (eO (al.next (ay.ret ?_)));cases h;exact al.abp I (Ez 3 ME) (Ez 2 fw) (IF I)
instance:lT prog 227 _ _ Ae J.of J.of:=.i func227 I ntmps227 I λab r h W A=>by
 unfold Ae at h;exact go
instance M5:fg prog 243 _ _ _ Aj J.of J.of J.of:=.i func243 I ntmps243 I λab ai r h W A=>by
 unfold Aj at h;refine aO λbk ao bs h=>?_;refine iX (λhb=>Qu ll Yk lu I (ck I hb) I I) ?_;exact go
instance:lT prog 145 _ _ Lp J.of J.of:=.i func145 I ntmps145 I λab r h W A=>by
 unfold Lp at h;refine aO λbk bn=>?_;refine aA h λao bs h=>aA h λaF b2 h=>ay.fy 7 ?_;refine I5 1 we w1 ?_;refine dA (bY H8.fd) ?_;refine aA h λbp ez h=>I2 1 CN Ee (hb:=by exact ez) ?_;exact go
instance:fg prog 258 _ _ _ G2 J.of J.of J.of:=.i func258 I ntmps258 I λab ai r h W A=>by
 unfold G2 at h;exact go
def afA{hp ab ai r}(h:GJ hp ab ai=some r):hl prog 212 [J.of ab,J.of ai] hp (J.bW []) r:=by
 unfold GJ at h;refine bL.of func212 I ntmps212 I λW A=>?_;refine aO λbk bn=>?_;refine aA h λao bs h=>ay.fy 7 ?_;refine aA h λaF b2 h=>ae.en 2 0 I amk (afQ b2) I I ⟨ah I,ah I,ah I,trivial⟩ I λaw=>ae.dy (ae.nil ?_);exact al.lv go
def aeA{ab ai r}(h:O1 ab ai=some r):dV prog 265 [J.ptr ab,J.of ai] (J.of r):=by
 unfold O1 at h;refine dV.of func265 I ntmps265 I λW A=>?_;refine aO λbk=>?_;refine bA (ajJ underlying205 (ah I)) (ca ?_);refine ay.wR (ah I) I (aO ?_);refine ae.share (α:=Int) 0 3 I I (bA (Mf (F:=(λa0=>zI a0 ai)) (τs:=[J.ptr ai]) ZS ⟨ah I,trivial⟩ (λ_ _ h=>Vu h)) ?_);refine aA h λao bs h=>ss ZT (UK bs) ?_;exact go
instance Ef:fg prog 115 _ _ _ rb J.of J.of J.of:=.i func115 I ntmps115 I λab ai r h W A=>by
 unfold rb at h;exact go
def VQ{hp ab ai r}(h:CO hp ab ai=some r):hl prog 64 [J.of ab,J.of ai] hp (J.of r.1) r.2:=by
 unfold CO at h;refine bL.of func64 I ntmps64 I λW A=>b3 (dc (h5 ?_));refine cD ?_;refine cD ?_;refine aA h λao bs h=>ae.eH (dx.fR 0 I ZM (VK bs) ⟨ah I,ah I,trivial⟩) I I I (dc (gW (ay.seq ?_)));refine aA h λbz dq h=>aA h λaJ cT h=>aA h λc1 dv h=>aA h λcE fl h=>aA h λc2 eV h=>aA h λbx c4 h=>aA h λbp ez h=>ay.kM mixed 19 (rg 9 19) [[],[0],[1],[2],[2],[2,3],[2,5],[2,4,6],[2,7],[2],[2,9],[2,10],[2,11],[2],[2,12,13],[2,14],[2,15],[2,8,16],[2,17]] [_,_,_,_,_,_,_,_,_,_,_,_,_,_,_,_,_,_,_] ⟨fh,lV pd,fh,ec λL' ar=>λhb=>cY (ah I),ec λL' ar=>λhb=>cY (ah I),ec λL' ar=>λhb=>jq (j2 (ck I hb) (fi dq hb)),ec λL' ar=>λhb=>bY DC.fd (ck I hb),ec λL' ar=>λhb=>hz (k:=aJ) DY (ck I hb) (ck I hb) (cN (fi cT hb)),ec λL' ar=>λhb=>o8 (((aP.id jS).comp zF).comp (aP.idx (α:=Int) 6 aJ (cN (fi cT hb)).1)) (r:=bE c1.iM aJ) ch (ck I hb) (pj (λi e q=>ar i e q I) (jt (n:=0) I (vp (fi dv hb)) I)) I I,ec λL' ar=>λhb=>cY (ah I),ec λL' ar=>λhb=>jq (j2 (ck I hb) (fi fl hb)),ec λL' ar=>λhb=>bY ajK.fd (ck I hb),ec λL' ar=>λhb=>o8 ((aP.id jS).comp OH) (r:=c2.nW) Ec (ck I hb) (pj (λi e q=>ar i e q I) (jt (n:=0) I (vp (fi eV hb)) I)) I I,ec λL' ar=>λhb=>cY (ah I),ec λL' ar=>λhb=>se (k:=bx) underlying29 wZ (ck I hb) (ck I hb) (cN (fi c4 hb)),ec λL' ar=>λhb=>AX Gx akQ.fd (ck I hb) I I,ec λL' ar=>λhb=>kE ch (ck I hb),ec λL' ar=>λhb=>AY (ck I hb) (ck I hb),tK ez λL' ar=>tp (ah I) (ah I) (λh=>h),trivial⟩ (ca ?_);refine j8 h (λh=>?_) λh=>?_
 ·refine b3 (dc (ca (ay.ret (al.ret ?_))));cases h;exact al.eC () (.refl _) I I (dn I)
 refine k9 (ay.seq (aA h λho rH h=>aA h λcB gr h=>aA h λeE lb h=>aA h λfo jw h=>ay.kM mixed 10 (rg 28 10) [[],[],[0],[2],[1,3],[4],[5],[0],[7],[1,8]] [_,_,_,_,_,_,_,_,_,_] ⟨fh,fh,fA λar=>jq (j2 (ah I) rH),H1 (bY DC.fd),fA λar=>hz (k:=cB) DY (ah I) (ah I) (cN gr),fA λar=>o8 (((aP.id jS).comp zF).comp (aP.idx (α:=Int) 6 cB (cN gr).1)) (r:=bE eE.iM cB) ch (ah I) (pj (λi e q=>ar i e q I) (jt (n:=0) I (vp lb) I)) I I,lV jI,fA λar=>jq (j2 (ah I) rH),H1 (bY DC.fd),fA λar=>hz (k:=fo) DY (ah I) (ah I) (cN jw),trivial⟩ ?_));refine aA h λbQ hL h=>ae.qz (k':=Cell.tm ({eE with iM:=dJ eE.iM fo (bm ((bE eE.iM cB)+1))}:jS)) 0 I (((aP.id jS).comp zF).comp (aP.idx (α:=Int) 6 fo (cN jw).1)) (v:=(bm ((bE eE.iM cB)+1):Int)) ch (ah I) (ah I) (vp lb) I I I I (dt hL) (h5 (dc (ca (ay.ret ?_))));cases h;exact al.eC () (.refl _) I I (dn I)
def aeR{hp ab ai r}(h:KW hp ab ai=some r):hl prog 217 [J.of ab,J.of ai] hp (J.of r.1) r.2:=by
 unfold KW at h;refine bL.of func217 I ntmps217 I λW A=>?_;refine aO λbk=>?_;refine aA h λao bs h=>ae.eH (dx.fR 1 I RR (Pv bs) ⟨ah I,ah I,trivial⟩) I I I (aO (λh=>?_));refine aA h λbz dq h=>aA h λc1 dv h=>ay.fy 5 ?_;exact aA h λcE fl h=>aA h λc2 eV h=>aA h λbQ hL h=>ae.MF (k':=Cell.rC (ju c2 ai)) 1 I underlying229 My (ln (ah I) fl) (ah I) (vo eV) I I I (dt hL) go
def ad2(n:Nat):∀(hp:aL Cell) (ab:Ref) (ai:Ref) (aT:aN) (cR:Int) (ka:aa fC) (vK:Nat) (wE:aE Nat) (wF:Nat) (r:(aa fC)),zC n hp ab ai aT cR ka=some r->bL prog 248 [J.of ab,J.of ai,J.of aT,J.of cR,J.of (⟨246,some [.pointer (some ⟨vK,0,none⟩)]⟩:Raw)] ([⟨some vK,.cu ([]:aa fC) [(0,aQ wE ka.length wF)]⟩,⟨wE,.row 342 ka wF⟩]++a1 hp) (δ:=(aE Nat×Nat)) (λd=>J.bW []) (λd=>[⟨some vK,.cu ([]:aa fC) [(0,aQ d.1 r.length d.2)]⟩,⟨d.1,.row 342 r d.2⟩]++a1 hp):=by
 induction n with
 |zero=>intro hp ab ai aT cR ka vK wE wF r h;simp[zC]at h
 | succ n cg=>
   intro hp ab ai aT cR ka vK wE wF r h
   simp only[zC]at h
   refine bL.of func248 I ntmps248 I λW A=>?_
   refine go2 (λbk h=>?_) (λbk h=>?_)
   ·refine al.bt 2 I (al.bt 2 I ?_)
    cases h
    exact al.ns (wE,wF) (.cons_cons _ (.cons_cons _ (.cons _ (.refl _)))) I I
   refine ae.bt 2 I (ae.bt 2 I (aA h λao bs h=>ae.pG (eD.SG (τs:=[J.of (ai:Ref),J.of (aT:aN),J.of (cR:Int)]) 3 2 I aml (P9 (ah I)) (aej bs) I I ⟨ah I,ah I,ah I,trivial⟩) I I I λaw=>ae.dy (gW ?_)))
   refine aA h λbz dq h=>aA h λc1 dv h=>ay.kM mixed 10 (rg 17 10) [[],[],[1],[2],[3],[4],[],[],[7],[]] [_,_,_,_,_,_,_,_,_,_] ⟨fh,fh,fA λar=>jq (j2 (ah I) dq),H1 (bY L1.fd),fA λar=>hz (k:=0) RV (ah I) (de 0) ⟨by decide,rfl⟩,fA λar=>o8 (((aP.id e9).comp Cr).comp (aP.idx (α:=Ref) 2 0 (⟨by decide,rfl⟩:0<2∧(0:Int)=0).1)) (r:=bE c1.dF 0) kF (ah I) (pj (λi e q=>ar i e q I) (jt (n:=3) I (sb dv) I)) I I,sq 2 fw,fh,lV jI,fh,trivial⟩ ?_
   refine aA h λaF b2 h=>ae.pG (eD.en 3 2 I RW (cg _ _ _ _ _ _ _ _ _ _ b2) I I ⟨ah I,ah I,ah I,ah I,ah I,trivial⟩) I I I λcH=>ae.dy (ca ?_)
   refine aA h λbg dR h=>aA h λcE fl h=>aA h λc2 eV h=>aA h λbw e5 h=>aA h λcd hB h=>ay.kM mixed 20 (rg 28 20) [[],[],[1],[2],[3],[4],[],[],[],[8],[9],[10],[11],[],[12,13],[7,14],[6,15],[],[17],[]] [_,_,_,_,_,_,_,_,_,_,_,_,_,_,_,_,_,_,_,_] ⟨fh,fh,fA λar=>jq (j2 (ah I) dq),H1 (bY L1.fd),fA λar=>hz (k:=1) RV (ah I) (de 1) ⟨by decide,rfl⟩,fA λar=>o8 (((aP.id e9).comp Cr).comp (aP.idx (α:=Ref) 2 1 (⟨by decide,rfl⟩:1<2∧(1:Int)=1).1)) (r:=bE c1.dF 1) kF (ah I) (pj (λi e q=>ar i e q I) (jt (n:=3) I (sb dv) I)) I I,sq 2 fw,fA λar=>ja aa7.cf (aa7.m _ _ dR) ⟨ua 1 I,trivial⟩,fh,fA λar=>jq (j2 (ah I) fl),H1 (bY L3.fd),fA λar=>o8 ((aP.id hW).comp CM) (r:=c2.hy) ch (ah I) (pj (λi e q=>ar i e q I) (jt (n:=3) I (wM eV) I)) I I,lV th,fh,lV th,rI aa8.cf (aa8.m _ _ _ e5),rI aa9.cf (aa9.m _ _ _ hB),fh,lV jI,fh,trivial⟩ ?_
   refine aA h λcj ih h=>ae.pG (eD.en 3 2 I RW (cg _ _ _ _ _ _ _ _ _ _ ih) I I ⟨ah I,ah I,ah I,ah I,ah I,trivial⟩) I I I λeI=>ae.dy (ae.nil ?_)
   refine al.lv (al.bt 1 I (al.bt 1 I ?_))
   cases h
   exact al.ns (eI.1,eI.2) (.cons_cons _ (.cons_cons _ (.cons _ (.refl _)))) I I
def ad7{hp ab ai aT cR ka vK wE wF r}(h:OE hp ab ai aT cR ka=some r):bL prog 248 [J.of ab,J.of ai,J.of aT,J.of cR,J.of (⟨246,some [.pointer (some ⟨vK,0,none⟩)]⟩:Raw)] ([⟨some vK,.cu ([]:aa fC) [(0,aQ wE ka.length wF)]⟩,⟨wE,.row 342 ka wF⟩]++a1 hp) (δ:=(aE Nat×Nat)) (λd=>J.bW []) (λd=>[⟨some vK,.cu ([]:aa fC) [(0,aQ d.1 r.length d.2)]⟩,⟨d.1,.row 342 r d.2⟩]++a1 hp):=ad2 c9 hp ab ai aT cR ka vK wE wF r h
def aef{ab ai bR iO iP r}(h:KE ab ai=some r):bL prog 265 [J.cr bR,J.of ai] [⟨some bR,.cu ({ab with cz:=[]}:eh) [(10,aQ iO ab.cz.length iP)]⟩,⟨iO,.row 54 ab.cz iP⟩] (δ:=Unit) (λd=>J.of r) (λd=>[⟨some bR,.cu ({ab with cz:=[]}:eh) [(10,aQ iO ab.cz.length iP)]⟩,⟨iO,.row 54 ab.cz iP⟩]):=by
 unfold KE at h;refine bL.of func265 I ntmps265 I λW A=>?_;refine aO λbk=>?_;refine bA (H7 underlying205 (ah I)) (ca ?_);refine ay.wR (ah I) I (aO ?_);refine bA (hZ (i:=1) (q:=0) (β:=eh) (γ:=aH) pk (ah I) I I) ?_;refine ae.share (α:=Int) 0 3 I I (bA (Mf (F:=(λa0=>zI a0 ai)) (τs:=[J.ptr ai]) ZS ⟨ah I,trivial⟩ (λ_ _ h=>Vu h)) ?_);refine aA h λao bs h=>bA (bj.abq (α:=aH) 2 10 I I wB (ja ZT (UK bs) ⟨ah I,ah I,trivial⟩)) ?_;refine dc (ca (ay.ret ?_));refine al.bt 2 I (al.bt 2 I ?_);cases h;exact sm ()
end Go.Proofs.YtppgfphgdogpeaaGreat
