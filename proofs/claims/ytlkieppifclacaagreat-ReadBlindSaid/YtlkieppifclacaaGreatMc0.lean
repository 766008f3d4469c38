/-
  Each function meets its functional program. Conditions: none.
-/
import Derived.Test.YtlkieppifclacaaGreatMd
set_option linter.defProp false
set_option linter.unusedVariables false
set_option linter.unusedSimpArgs false
set_option maxRecDepth 100000
set_option maxHeartbeats 2000000
namespace Go.Proofs.YtlkieppifclacaaGreat
open Go Gv Go.Proofs.Tryz
attribute [local irreducible] ad ay aq bj aU ei e9 ff J.of J.ptr J.eq J.cond J.b7
def LO{ab ai r}(h:uE ab ai=some r):bV prog 15 [J.of ab,J.of ai] [] (δ:=Nat) (λd=>J.dv d) (λd=>[aZ d r]):=by
 unfold uE at h;refine bV.of func15 I ntmps15 I λW A=>bU (bg (dq (MB (.pointer none))) ?_);refine aT ?_;refine aB h λal bx h=>bg (Mj underlying22 ace (ag I) .none (.some (ag I)) bx) ?_;refine aT λa6=>?_;refine aq.bW 0 I ?_;cases h;exact qk a6
def aft{ab cK r}(h:Lu ab=some r):vx prog 29 [J.dv cK] cK ab (J.of r) ab:=by
 unfold Lu at h;refine bV.of func29 I ntmps29 I λW A=>?_;refine aT ?_;refine ay.fi 10 ?_;exact go
def ae7{ab ai r}(h:Lj ab ai=some r):cE prog 138 [J.of ab,J.ptr ai] (J.of r):=by
 unfold Lj at h;refine cE.of func138 I ntmps138 I λW A=>?_;exact go
def adX{ab ai r}(h:FH ab ai=some r):cE prog 137 [J.of ab,J.tB prog ai] (J.of r):=by
 unfold FH at h;refine cE.of func137 I ntmps137 I λW A=>?_;refine aT ?_;refine aB h λar ao h=>eY (γ:=Unit) (δ:=Unit) ao [0,1,7] (λs1 g1=>[(4,J.of (0:Int)),(8,J.of s1)]) (λs1 g1=>[]) (λaw=>Sum.elim (λaw=>Exit.exit 0) (λaw=>Exit.ret) aw) (λaw g1=>Sum.elim (λaw=>[(4,J.of (0:Int)),(8,J.of aw.1),(9,J.of aw.2)]) (λaw=>[(4,J.of aw.1),(5,J.of aw.2.1),(8,J.of aw.2.2.1),(9,J.of aw.2.2.2.1),(16,J.of aw.2.2.2.2)]) aw) (λaw g1=>[]) () (λs1 r h g1=>?_) λg1=>?_
 ·refine aT (λaR dg h=>?_);refine aB h λal bx h=>bg (Aa (ag I) (ag I) bx) ?_;exact go
 rcases ar with ar|ar
 ·simp only[Sum.elim_inl]at h;exact go
 simp only[Sum.elim_inr]at h;exact go
instance:ji prog 206 _ _ Dy J.of (λr=>J.b7 [J.of r.1,J.of r.2]):=.i func206 I ntmps206 I λab r h W A=>by
 unfold Dy at h;refine aT λa6=>?_;refine aB h λar ao h=>eY (γ:=Unit) (δ:=Unit) ao [0,1,2,3,9,10] (λs1 g1=>[(4,J.of s1.1),(5,J.of s1.2.1),(11,J.of s1.2.2)]) (λs1 g1=>[]) (λaw=>Exit.exit 0) (λaw g1=>[(4,J.of aw.1),(5,J.of aw.2.1),(11,J.of aw.2.2.1),(12,J.of aw.2.2.2)]) (λaw g1=>[]) () (λs1 r h g1=>?_) λg1=>?_
 ·refine aT (λaR dg br h=>?_);refine aB h λm1 cc h=>iJ (γ:=Unit) [0,1,2,3,6,7,9,10,11,12,17,18] (λg2=>[(4,J.of m1.1),(5,J.of m1.2)]) (λg2=>[]) (λg2=>?_) (λhm ak=>?_) λhm ak=>?_
  ·exact go
  ·have h:=fY ak cc;exact go
  have h:=fZ ak cc;refine aT ?_;refine aB h λm2 dG h=>iJ (γ:=Unit) [0,1,2,3,6,7,9,10,11,12,17,18,20] (λg3=>[(4,J.of m2.1),(5,J.of m2.2)]) (λg3=>[]) (λg3=>?_) (λhm ak=>?_) λhm ak=>?_
  ·exact go
  ·have h:=fY ak dG;exact go
  have h:=fZ ak dG;exact go
 exact go
def agP{hp Q}(h:LP hp Q):lM prog 207 [] hp Q:=by
 unfold LP at h;refine bV.of func207 I ntmps207 I λW A=>bU (bg (dq oI) (fr ?_));refine ad.HV (α:=Vector aV 4) (β:=Int) 0 I (Cell.qS ([]:aa ((Vector aV 4)×Int))) (λ_=>rfl) I λbZ ql=>?_;replace h:=ah.p1 h bZ ql;refine qm amg amh {uY:=(⟨some bZ.1⟩:eX):sh} (my VU .nil) ?_;refine ad.yg 0 I (Cell.Er ({uY:=(⟨some bZ.1⟩:eX):sh})) (λ_=>rfl) (ag I) I λa2 tC=>?_;replace h:=ah.p1 h a2 tC;refine cS (b0 (ay.ret ?_));exact aq.eU (⟨⟨((some a2.1:Ref),a2.2),h⟩,()⟩: {r // _}×_) (.refl _) I I (dB I)
def ae8{ab ai r}(h:Lk ab ai=some r):cE prog 153 [J.of ab,J.ptr ai] (J.of r):=by
 unfold Lk at h;refine cE.of func153 I ntmps153 I λW A=>?_;exact go
def adY{ab ai r}(h:FI ab ai=some r):cE prog 152 [J.of ab,J.tB prog ai] (J.of r):=by
 unfold FI at h;refine cE.of func152 I ntmps152 I λW A=>?_;refine aT ?_;refine aB h λar ao h=>eY (γ:=Unit) (δ:=Unit) ao [0,1,7] (λs1 g1=>[(4,J.of (0:Int)),(8,J.of s1)]) (λs1 g1=>[]) (λaw=>Sum.elim (λaw=>Exit.exit 0) (λaw=>Exit.ret) aw) (λaw g1=>Sum.elim (λaw=>[(4,J.of (0:Int)),(8,J.of aw.1),(9,J.of aw.2)]) (λaw=>[(4,J.of aw.1),(5,J.of aw.2.1),(8,J.of aw.2.2.1),(9,J.of aw.2.2.2.1),(16,J.of aw.2.2.2.2)]) aw) (λaw g1=>[]) () (λs1 r h g1=>?_) λg1=>?_
 ·refine aT (λaR dg h=>?_);refine aB h λal bx h=>bg (Aa (ag I) (ag I) bx) ?_;exact go
 rcases ar with ar|ar
 ·simp only[Sum.elim_inl]at h;exact go
 simp only[Sum.elim_inr]at h;exact go
def afS{ab r}(h:PX ab=some r):bV prog 208 [J.of ab] [] (δ:=Nat×(aA Nat×Nat)) (λd=>J.dv d.1) (λd=>[⟨some d.1,.bX ({r with dw:=[]}:eF) [(10,aH d.2.1 r.dw.length d.2.2)]⟩,⟨d.2.1,.row 70 r.dw d.2.2⟩]):=by
 unfold PX at h;refine bV.of func208 I ntmps208 I λW A=>bU (lD λa6=>?_);refine bg (dq oI) (fr ?_);refine lf 0 ju ?_;refine bg (tb (b:=({(default:eF)with mQ:=ab}:eF)) [10] aiF I ami amj (.cons Vr I (ag I) I (by rfl) (.nil))) ?_;refine ad.own (α:=aS) 70 (ad.aa9 (ag I) I λbr=>cS (b0 (ay.ret ?_)));refine aq.Jd (γ:=aS) (b':=({({(default:eF)with mQ:=ab}:eF)with dw:=[]}:eF)) ((aP.id eF).comp C3) 0 0 I I I (aq.bW 1 I (aq.bW 1 I ?_));cases h;exact qk (br,(none,0))
def ahh{hp ab Q}(h:LX hp ab Q):lM prog 73 [J.of ab] hp Q:=by
 unfold LX at h;refine bV.of func73 I ntmps73 I λW A=>bU (lD λa6=>?_);refine bg (dq oI) ?_;refine aT ?_;refine ad.HV (α:=cN) (β:=kx) 1 I (Cell.sy ([]:aa (cN×kx))) (λ_=>rfl) I λbZ ql=>?_;replace h:=ah.p1 h bZ ql;refine qm amk aml {mQ:=ab,ig:=(⟨some bZ.1⟩:eX):qJ} (my VD (my VE .nil)) ?_;refine ad.yg 1 I (Cell.BI ({mQ:=ab,ig:=(⟨some bZ.1⟩:eX):qJ})) (λ_=>rfl) (ag I) I λa2 tC=>?_;replace h:=ah.p1 h a2 tC;refine cS (b0 (ay.ret ?_));exact aq.eU (⟨⟨((some a2.1:Ref),a2.2),h⟩,()⟩: {r // _}×_) (eK 1) I I (dB I)
def agQ{hp ab Q}(h:LQ hp ab Q):lM prog 74 [J.of ab] hp Q:=by
 unfold LQ at h;refine bV.of func74 I ntmps74 I λW A=>bU (lD λa6=>?_);refine bg (dq oI) ?_;refine aT ?_;refine ah.bI h λal bx h=>bg (Mj underlying29 tq (ag I) .none (.some (ag I)) bx) ?_;refine qm amm amn ({(default:jo)with p2:=al}:jo) (my Pd .nil) ?_;refine ad.yg 1 I (Cell.sA ({(default:jo)with p2:=al}:jo)) (λ_=>rfl) (ag I) I λbZ ql=>?_;replace h:=ah.p1 h bZ ql;refine cS (b0 (ay.ret ?_));exact aq.eU (⟨⟨((some bZ.1:Ref),bZ.2),h⟩,()⟩: {r // _}×_) (eK 1) I I (dB I)
def aeR{ab r}(h:Gn ab=some r):cE prog 29 [J.ptr ab] (J.of r):=by
 unfold Gn at h;refine cE.of func29 I ntmps29 I λW A=>?_;refine aT ?_;refine ay.fi 10 ?_;exact go
instance acf:eI prog 49 _ _ _ DG J.of J.of J.of:=.i func49 I ntmps49 I λab ai r h W A=>by
 unfold DG at h;exact go
instance:eI prog 145 _ _ _ Hd J.of J.of J.of:=.i func145 I ntmps145 I λab ai r h W A=>by
 unfold Hd at h;refine aT λa6=>?_;refine aB h λar ao h=>eY (γ:=Unit) (δ:=Unit) ao [0,1,2,8,9] (λs1 g1=>[(4,J.of (0:Int)),(10,J.of s1)]) (λs1 g1=>[]) (λaw=>Sum.elim (λaw=>Exit.exit 0) (λaw=>Exit.ret) aw) (λaw g1=>Sum.elim (λaw=>[(4,J.of (0:Int)),(10,J.of aw.1),(11,J.of aw.2)]) (λaw=>[(4,J.of aw.1),(10,J.of aw.2.1),(11,J.of aw.2.2.1),(17,J.of aw.2.2.2)]) aw) (λaw g1=>[]) () (λs1 r h g1=>?_) λg1=>?_
 ·exact go
 rcases ar with ar|ar
 ·simp only[Sum.elim_inl]at h;exact go
 simp only[Sum.elim_inr]at h;exact go
instance:ji prog 117 _ _ Hx J.of J.of:=.i func117 I ntmps117 I λab r h W A=>by
 unfold Hx at h;refine bU (lD λa6=>?_);refine lE ZM λbr=>fr ?_;refine ad.oL (z:=(default:Vector (aa Int) 6)) [0,1,2,3,4,5] afT ZM I λcm=>ad.own (α:=Int) 3 (ad.own (α:=Int) 3 (ad.own (α:=Int) 3 (ad.own (α:=Int) 3 (ad.own (α:=Int) 3 (ad.own (α:=Int) 3 (aT ?_))))));refine aB h λar ao h=>eY (γ:=(aA Nat×Nat)) (δ:=(aA Nat×Nat)) ao [0,1,2,3,17,18] (λs1 g1=>[(19,J.of s1.1)]) (λs1 g1=>[(5,⟨g1.1,.row 3 s1.2.1 g1.2⟩),(6,⟨some cm,.bX s1.2.2 [(0,aH g1.1 s1.2.1.length g1.2),(1,aH none ([]:aa Int).length 0),(2,aH none ([]:aa Int).length 0),(3,aH none ([]:aa Int).length 0),(4,aH none ([]:aa Int).length 0),(5,aH none ([]:aa Int).length 0)]⟩)]) (λaw=>Exit.exit 0) (λaw g1=>[(19,J.of aw.1),(20,J.of aw.2.1)]) (λaw g1=>[(5,⟨g1.1,.row 3 aw.2.2.1 g1.2⟩),(6,⟨some cm,.bX aw.2.2.2 [(0,aH g1.1 aw.2.2.1.length g1.2),(1,aH none ([]:aa Int).length 0),(2,aH none ([]:aa Int).length 0),(3,aH none ([]:aa Int).length 0),(4,aH none ([]:aa Int).length 0),(5,aH none ([]:aa Int).length 0)]⟩)]) (none,0) (λs1 r h g1=>?_) λg1=>?_
 ·refine go2 (λaR dg dV h=>?_) (λh=>?_)
  ·refine bg (kD (k:=0) ss (ag I) (dd 0) ⟨by decide,rfl⟩) ?_;refine bg (dn (i:=7) (q:=0) (β:=Vector (aa Int) 6) (γ:=Int) la (ag I) I I) ?_;refine aT ?_;refine aB h λal bx h=>gY 6 underlying59 cd rQ bx λeV dN=>?_;refine bg (kD (k:=0) ss (ag I) (dd 0) ⟨by decide,rfl⟩) ?_;refine ad.ik (i:=7) (γ:=Int) (b':=(eh s1.2.2 0 []:Vector (aa Int) 6)) (os':=[(0,aH eV al.length dN),(1,aH none ([]:aa Int).length 0),(2,aH none ([]:aa Int).length 0),(3,aH none ([]:aa Int).length 0),(4,aH none ([]:aa Int).length 0),(5,aH none ([]:aa Int).length 0)]) ((aP.id (Vector (aa Int) 6)).comp (aP.idx (α:=aa Int) 6 0 (by decide))) la (ag I) (ag I) ho I I I I ?_;refine aT ?_;cases h;exact ia (eV,dN) 1
  cases h;exact gN (g1.1,g1.2) 0
 refine aT ?_;refine aB h λaK ao h=>eY (γ:=(aA Nat×Nat)) (δ:=(aA Nat×Nat)) ao [0,1,2,3,17,18,19,20,32,33] (λs2 g2=>[(34,J.of s2.1)]) (λs2 g2=>[(4,⟨g2.1,.row 3 s2.2.1 g2.2⟩),(6,⟨some cm,.bX s2.2.2 [(0,aH g1.1 ar.2.2.1.length g1.2),(1,aH g2.1 s2.2.1.length g2.2),(2,aH none ([]:aa Int).length 0),(3,aH none ([]:aa Int).length 0),(4,aH none ([]:aa Int).length 0),(5,aH none ([]:aa Int).length 0)]⟩)]) (λb9=>Exit.exit 2) (λb9 g2=>[(34,J.of b9.1),(35,J.of b9.2.1)]) (λb9 g2=>[(4,⟨g2.1,.row 3 b9.2.2.1 g2.2⟩),(6,⟨some cm,.bX b9.2.2.2 [(0,aH g1.1 ar.2.2.1.length g1.2),(1,aH g2.1 b9.2.2.1.length g2.2),(2,aH none ([]:aa Int).length 0),(3,aH none ([]:aa Int).length 0),(4,aH none ([]:aa Int).length 0),(5,aH none ([]:aa Int).length 0)]⟩)]) (none,0) (λs2 r h g2=>?_) λg2=>?_
 ·refine go2 (λbD dh mG h=>?_) (λh=>?_)
  ·refine bg (kD (k:=1) ss (ag I) (dd 1) ⟨by decide,rfl⟩) ?_;refine bg (dn (i:=7) (q:=1) (β:=Vector (aa Int) 6) (γ:=Int) la (ag I) I I) ?_;refine aT ?_;refine aB h λaF cg h=>gY 5 underlying59 cd rQ cg λh9 hZ=>?_;refine bg (kD (k:=1) ss (ag I) (dd 1) ⟨by decide,rfl⟩) ?_;refine ad.ik (i:=7) (γ:=Int) (b':=(eh s2.2.2 1 []:Vector (aa Int) 6)) (os':=[(0,aH g1.1 ar.2.2.1.length g1.2),(1,aH h9 aF.length hZ),(2,aH none ([]:aa Int).length 0),(3,aH none ([]:aa Int).length 0),(4,aH none ([]:aa Int).length 0),(5,aH none ([]:aa Int).length 0)]) ((aP.id (Vector (aa Int) 6)).comp (aP.idx (α:=aa Int) 6 1 (by decide))) la (ag I) (ag I) ho I I I I ?_;refine aT ?_;cases h;exact ia (h9,hZ) 1
  cases h;exact gN (g2.1,g2.2) 0
 refine aT ?_;refine aB h λcr ao h=>eY (γ:=(aA Nat×Nat)) (δ:=(aA Nat×Nat)) ao [0,1,2,3,17,18,19,20,32,33,34,35,47,48] (λeA g3=>[(49,J.of eA.1)]) (λeA g3=>[(3,⟨g3.1,.row 3 eA.2.1 g3.2⟩),(6,⟨some cm,.bX eA.2.2 [(0,aH g1.1 ar.2.2.1.length g1.2),(1,aH g2.1 aK.2.2.1.length g2.2),(2,aH g3.1 eA.2.1.length g3.2),(3,aH none ([]:aa Int).length 0),(4,aH none ([]:aa Int).length 0),(5,aH none ([]:aa Int).length 0)]⟩)]) (λdM=>Exit.exit 4) (λdM g3=>[(49,J.of dM.1),(50,J.of dM.2.1)]) (λdM g3=>[(3,⟨g3.1,.row 3 dM.2.2.1 g3.2⟩),(6,⟨some cm,.bX dM.2.2.2 [(0,aH g1.1 ar.2.2.1.length g1.2),(1,aH g2.1 aK.2.2.1.length g2.2),(2,aH g3.1 dM.2.2.1.length g3.2),(3,aH none ([]:aa Int).length 0),(4,aH none ([]:aa Int).length 0),(5,aH none ([]:aa Int).length 0)]⟩)]) (none,0) (λeA r h g3=>?_) λg3=>?_
 ·refine go2 (λcf hM hS h=>?_) (λh=>?_)
  ·refine bg (kD (k:=2) ss (ag I) (dd 2) ⟨by decide,rfl⟩) ?_;refine bg (dn (i:=7) (q:=2) (β:=Vector (aa Int) 6) (γ:=Int) la (ag I) I I) ?_;refine aT ?_;refine aB h λbm eD h=>gY 4 underlying59 cd rQ eD λoS u6=>?_;refine bg (kD (k:=2) ss (ag I) (dd 2) ⟨by decide,rfl⟩) ?_;refine ad.ik (i:=7) (γ:=Int) (b':=(eh eA.2.2 2 []:Vector (aa Int) 6)) (os':=[(0,aH g1.1 ar.2.2.1.length g1.2),(1,aH g2.1 aK.2.2.1.length g2.2),(2,aH oS bm.length u6),(3,aH none ([]:aa Int).length 0),(4,aH none ([]:aa Int).length 0),(5,aH none ([]:aa Int).length 0)]) ((aP.id (Vector (aa Int) 6)).comp (aP.idx (α:=aa Int) 6 2 (by decide))) la (ag I) (ag I) ho I I I I ?_;refine aT ?_;cases h;exact ia (oS,u6) 1
  cases h;exact gN (g3.1,g3.2) 0
 refine aT ?_;refine aB h λe4 ao h=>eY (γ:=(aA Nat×Nat)) (δ:=(aA Nat×Nat)) ao [0,1,2,3,17,18,19,20,32,33,34,35,47,48,49,50,62,63] (λo3 g4=>[(64,J.of o3.1)]) (λo3 g4=>[(2,⟨g4.1,.row 3 o3.2.1 g4.2⟩),(6,⟨some cm,.bX o3.2.2 [(0,aH g1.1 ar.2.2.1.length g1.2),(1,aH g2.1 aK.2.2.1.length g2.2),(2,aH g3.1 cr.2.2.1.length g3.2),(3,aH g4.1 o3.2.1.length g4.2),(4,aH none ([]:aa Int).length 0),(5,aH none ([]:aa Int).length 0)]⟩)]) (λh4=>Exit.exit 6) (λh4 g4=>[(64,J.of h4.1),(65,J.of h4.2.1)]) (λh4 g4=>[(2,⟨g4.1,.row 3 h4.2.2.1 g4.2⟩),(6,⟨some cm,.bX h4.2.2.2 [(0,aH g1.1 ar.2.2.1.length g1.2),(1,aH g2.1 aK.2.2.1.length g2.2),(2,aH g3.1 cr.2.2.1.length g3.2),(3,aH g4.1 h4.2.2.1.length g4.2),(4,aH none ([]:aa Int).length 0),(5,aH none ([]:aa Int).length 0)]⟩)]) (none,0) (λo3 r h g4=>?_) λg4=>?_
 ·refine go2 (λc0 iq Fe h=>?_) (λh=>?_)
  ·refine bg (kD (k:=3) ss (ag I) (dd 3) ⟨by decide,rfl⟩) ?_;refine bg (dn (i:=7) (q:=3) (β:=Vector (aa Int) 6) (γ:=Int) la (ag I) I I) ?_;refine aT ?_;refine aB h λbG ft h=>gY 3 underlying59 cd rQ ft λkE IC=>?_;refine bg (kD (k:=3) ss (ag I) (dd 3) ⟨by decide,rfl⟩) ?_;refine ad.ik (i:=7) (γ:=Int) (b':=(eh o3.2.2 3 []:Vector (aa Int) 6)) (os':=[(0,aH g1.1 ar.2.2.1.length g1.2),(1,aH g2.1 aK.2.2.1.length g2.2),(2,aH g3.1 cr.2.2.1.length g3.2),(3,aH kE bG.length IC),(4,aH none ([]:aa Int).length 0),(5,aH none ([]:aa Int).length 0)]) ((aP.id (Vector (aa Int) 6)).comp (aP.idx (α:=aa Int) 6 3 (by decide))) la (ag I) (ag I) ho I I I I ?_;refine aT ?_;cases h;exact ia (kE,IC) 1
  cases h;exact gN (g4.1,g4.2) 0
 refine aT ?_;refine aB h λhT ao h=>eY (γ:=(aA Nat×Nat)) (δ:=(aA Nat×Nat)) ao [0,1,2,3,17,18,19,20,32,33,34,35,47,48,49,50,62,63,64,65,77,78] (λjz g5=>[(79,J.of jz.1)]) (λjz g5=>[(1,⟨g5.1,.row 3 jz.2.1 g5.2⟩),(6,⟨some cm,.bX jz.2.2 [(0,aH g1.1 ar.2.2.1.length g1.2),(1,aH g2.1 aK.2.2.1.length g2.2),(2,aH g3.1 cr.2.2.1.length g3.2),(3,aH g4.1 e4.2.2.1.length g4.2),(4,aH g5.1 jz.2.1.length g5.2),(5,aH none ([]:aa Int).length 0)]⟩)]) (λfm=>Exit.exit 8) (λfm g5=>[(79,J.of fm.1),(80,J.of fm.2.1)]) (λfm g5=>[(1,⟨g5.1,.row 3 fm.2.2.1 g5.2⟩),(6,⟨some cm,.bX fm.2.2.2 [(0,aH g1.1 ar.2.2.1.length g1.2),(1,aH g2.1 aK.2.2.1.length g2.2),(2,aH g3.1 cr.2.2.1.length g3.2),(3,aH g4.1 e4.2.2.1.length g4.2),(4,aH g5.1 fm.2.2.1.length g5.2),(5,aH none ([]:aa Int).length 0)]⟩)]) (none,0) (λjz r h g5=>?_) λg5=>?_
 ·refine go2 (λfR ve atI h=>?_) (λh=>?_)
  ·refine bg (kD (k:=4) ss (ag I) (dd 4) ⟨by decide,rfl⟩) ?_;refine bg (dn (i:=7) (q:=4) (β:=Vector (aa Int) 6) (γ:=Int) la (ag I) I I) ?_;refine aT ?_;refine aB h λbR gO h=>gY 2 underlying59 cd rQ gO λu7 aba=>?_;refine bg (kD (k:=4) ss (ag I) (dd 4) ⟨by decide,rfl⟩) ?_;refine ad.ik (i:=7) (γ:=Int) (b':=(eh jz.2.2 4 []:Vector (aa Int) 6)) (os':=[(0,aH g1.1 ar.2.2.1.length g1.2),(1,aH g2.1 aK.2.2.1.length g2.2),(2,aH g3.1 cr.2.2.1.length g3.2),(3,aH g4.1 e4.2.2.1.length g4.2),(4,aH u7 bR.length aba),(5,aH none ([]:aa Int).length 0)]) ((aP.id (Vector (aa Int) 6)).comp (aP.idx (α:=aa Int) 6 4 (by decide))) la (ag I) (ag I) ho I I I I ?_;refine aT ?_;cases h;exact ia (u7,aba) 1
  cases h;exact gN (g5.1,g5.2) 0
 refine aT ?_;refine aB h λlq ao h=>eY (γ:=(aA Nat×Nat)) (δ:=(aA Nat×Nat)) ao [0,1,2,3,17,18,19,20,32,33,34,35,47,48,49,50,62,63,64,65,77,78,79,80,92,93] (λkm g6=>[(94,J.of km.1)]) (λkm g6=>[(0,⟨g6.1,.row 3 km.2.1 g6.2⟩),(6,⟨some cm,.bX km.2.2 [(0,aH g1.1 ar.2.2.1.length g1.2),(1,aH g2.1 aK.2.2.1.length g2.2),(2,aH g3.1 cr.2.2.1.length g3.2),(3,aH g4.1 e4.2.2.1.length g4.2),(4,aH g5.1 hT.2.2.1.length g5.2),(5,aH g6.1 km.2.1.length g6.2)]⟩)]) (λjj=>Exit.exit 10) (λjj g6=>[(94,J.of jj.1),(95,J.of jj.2.1)]) (λjj g6=>[(0,⟨g6.1,.row 3 jj.2.2.1 g6.2⟩),(6,⟨some cm,.bX jj.2.2.2 [(0,aH g1.1 ar.2.2.1.length g1.2),(1,aH g2.1 aK.2.2.1.length g2.2),(2,aH g3.1 cr.2.2.1.length g3.2),(3,aH g4.1 e4.2.2.1.length g4.2),(4,aH g5.1 hT.2.2.1.length g5.2),(5,aH g6.1 jj.2.2.1.length g6.2)]⟩)]) (none,0) (λkm r h g6=>?_) λg6=>?_
 ·refine go2 (λka yy avn h=>?_) (λh=>?_)
  ·refine bg (kD (k:=5) ss (ag I) (dd 5) ⟨by decide,rfl⟩) ?_;refine bg (dn (i:=7) (q:=5) (β:=Vector (aa Int) 6) (γ:=Int) la (ag I) I I) ?_;refine aT ?_;refine aB h λb8 ib h=>gY 1 underlying59 cd rQ ib λID abb=>?_;refine bg (kD (k:=5) ss (ag I) (dd 5) ⟨by decide,rfl⟩) ?_;refine ad.ik (i:=7) (γ:=Int) (b':=(eh km.2.2 5 []:Vector (aa Int) 6)) (os':=[(0,aH g1.1 ar.2.2.1.length g1.2),(1,aH g2.1 aK.2.2.1.length g2.2),(2,aH g3.1 cr.2.2.1.length g3.2),(3,aH g4.1 e4.2.2.1.length g4.2),(4,aH g5.1 hT.2.2.1.length g5.2),(5,aH ID b8.length abb)]) ((aP.id (Vector (aa Int) 6)).comp (aP.idx (α:=aa Int) 6 5 (by decide))) la (ag I) (ag I) ho I I I I ?_;refine aT ?_;cases h;exact ia (ID,abb) 1
  cases h;exact gN (g6.1,g6.2) 0
 refine aq.lz (aq.next (bU (ad.kF (β:=Vector (aa Int) 6) (γ:=Int) (b':=(eh lq.2.2.2 0 ar.2.2.1:Vector (aa Int) 6)) ((aP.id (Vector (aa Int) 6)).comp (aP.idx (α:=aa Int) 6 0 (by decide))) 6 5 0 I I I I I I ?_)));refine ad.kF (β:=Vector (aa Int) 6) (γ:=Int) (b':=(eh (eh lq.2.2.2 0 ar.2.2.1) 1 aK.2.2.1:Vector (aa Int) 6)) ((aP.id (Vector (aa Int) 6)).comp (aP.idx (α:=aa Int) 6 1 (by decide))) 6 4 0 I I I I I I ?_;refine ad.kF (β:=Vector (aa Int) 6) (γ:=Int) (b':=(eh (eh (eh lq.2.2.2 0 ar.2.2.1) 1 aK.2.2.1) 2 cr.2.2.1:Vector (aa Int) 6)) ((aP.id (Vector (aa Int) 6)).comp (aP.idx (α:=aa Int) 6 2 (by decide))) 6 3 0 I I I I I I ?_;refine ad.kF (β:=Vector (aa Int) 6) (γ:=Int) (b':=(eh (eh (eh (eh lq.2.2.2 0 ar.2.2.1) 1 aK.2.2.1) 2 cr.2.2.1) 3 e4.2.2.1:Vector (aa Int) 6)) ((aP.id (Vector (aa Int) 6)).comp (aP.idx (α:=aa Int) 6 3 (by decide))) 6 2 0 I I I I I I ?_;refine ad.kF (β:=Vector (aa Int) 6) (γ:=Int) (b':=(eh (eh (eh (eh (eh lq.2.2.2 0 ar.2.2.1) 1 aK.2.2.1) 2 cr.2.2.1) 3 e4.2.2.1) 4 hT.2.2.1:Vector (aa Int) 6)) ((aP.id (Vector (aa Int) 6)).comp (aP.idx (α:=aa Int) 6 4 (by decide))) 6 1 0 I I I I I I ?_;refine ad.kF (β:=Vector (aa Int) 6) (γ:=Int) (b':=(eh (eh (eh (eh (eh (eh lq.2.2.2 0 ar.2.2.1) 1 aK.2.2.1) 2 cr.2.2.1) 3 e4.2.2.1) 4 hT.2.2.1) 5 lq.2.2.1:Vector (aa Int) 6)) ((aP.id (Vector (aa Int) 6)).comp (aP.idx (α:=aa Int) 6 5 (by decide))) 6 0 0 I I I I I I ?_;exact ad.n3 6 I go
instance:eI prog 116 _ _ _ Hk J.of J.of J.of:=.i func116 I ntmps116 I λab ai r h W A=>by
 unfold Hk at h;refine aT ?_;refine aB h λar ao h=>eY (γ:=Unit) (δ:=Unit) ao [0,1,7,8] (λs1 g1=>[(4,J.of (0:Int)),(9,J.of s1)]) (λs1 g1=>[]) (λaw=>Sum.elim (λaw=>Exit.exit 0) (λaw=>Exit.ret) aw) (λaw g1=>Sum.elim (λaw=>[(4,J.of (0:Int)),(9,J.of aw.1),(10,J.of aw.2)]) (λaw=>[(4,J.of aw.1),(5,J.of aw.2.1),(6,J.of aw.2.2.1),(9,J.of aw.2.2.2.1),(10,J.of aw.2.2.2.2.1),(16,J.of aw.2.2.2.2.2)]) aw) (λaw g1=>[]) () (λs1 r h g1=>?_) λg1=>?_
 ·exact go
 rcases ar with ar|ar
 ·simp only[Sum.elim_inl]at h;exact go
 simp only[Sum.elim_inr]at h;exact go
def Vs{ab cK iZ ja r}(h:KS ab=some r):bV prog 32 [J.dv cK] [⟨some cK,.bX ({ab with fH:=[]}:fc) [(3,aH iZ ab.fH.length ja)]⟩,⟨iZ,.row 220 ab.fH ja⟩] (δ:=Unit) (λd=>J.of r) (λd=>[⟨some cK,.bX ({ab with fH:=[]}:fc) [(3,aH iZ ab.fH.length ja)]⟩,⟨iZ,.row 220 ab.fH ja⟩]):=by
 unfold KS at h;refine bV.of func32 I ntmps32 I λW A=>?_;refine aT ?_;refine bg (MC underlying36 (ag I)) (b0 ?_);refine ay.wq (ag I) I (aT ?_);refine bg (dn (i:=0) (q:=0) (β:=fc) (γ:=fw) wu (ag I) I I) ?_;refine bg (pt (i:=1) underlying148 (ag I) I I) ?_;refine cS (b0 (ay.ret ?_));refine aq.bW 1 I (aq.bW 1 I ?_);cases h;exact qk ()
def afu{ab ai r}(h:Lv ab ai=some r):cE prog 136 [J.of ab,J.ptr ai] (J.of r):=by
 unfold Lv at h;refine cE.of func136 I ntmps136 I λW A=>?_;exact go
def ad0{ab ai r}(h:FL ab ai=some r):cE prog 135 [J.of ab,J.tB prog ai] (J.of r):=by
 unfold FL at h;refine cE.of func135 I ntmps135 I λW A=>?_;refine aT ?_;refine aB h λar ao h=>eY (γ:=Unit) (δ:=Unit) ao [0,1,7] (λs1 g1=>[(4,J.of (0:Int)),(8,J.of s1)]) (λs1 g1=>[]) (λaw=>Sum.elim (λaw=>Exit.exit 0) (λaw=>Exit.ret) aw) (λaw g1=>Sum.elim (λaw=>[(4,J.of (0:Int)),(8,J.of aw.1),(9,J.of aw.2)]) (λaw=>[(4,J.of aw.1),(5,J.of aw.2.1),(8,J.of aw.2.2.1),(9,J.of aw.2.2.2.1),(16,J.of aw.2.2.2.2)]) aw) (λaw g1=>[]) () (λs1 r h g1=>?_) λg1=>?_
 ·refine aT (λaR dg h=>?_);refine aB h λal bx h=>bg (Aa (ag I) (ag I) bx) ?_;exact go
 rcases ar with ar|ar
 ·simp only[Sum.elim_inl]at h;exact go
 simp only[Sum.elim_inr]at h;exact go
def ae9{ab ai r}(h:Ll ab ai=some r):cE prog 225 [J.of ab,J.ptr ai] (J.of r):=by
 unfold Ll at h;refine cE.of func225 I ntmps225 I λW A=>?_;exact go
def adZ{ab ai r}(h:FJ ab ai=some r):cE prog 224 [J.of ab,J.tB prog ai] (J.of r):=by
 unfold FJ at h;refine cE.of func224 I ntmps224 I λW A=>?_;refine aT ?_;refine aB h λar ao h=>eY (γ:=Unit) (δ:=Unit) ao [0,1,7] (λs1 g1=>[(4,J.of (0:Int)),(8,J.of s1)]) (λs1 g1=>[]) (λaw=>Sum.elim (λaw=>Exit.exit 0) (λaw=>Exit.ret) aw) (λaw g1=>Sum.elim (λaw=>[(4,J.of (0:Int)),(8,J.of aw.1),(9,J.of aw.2)]) (λaw=>[(4,J.of aw.1),(5,J.of aw.2.1),(8,J.of aw.2.2.1),(9,J.of aw.2.2.2.1),(16,J.of aw.2.2.2.2)]) aw) (λaw g1=>[]) () (λs1 r h g1=>?_) λg1=>?_
 ·refine aT (λaR dg h=>?_);refine aB h λal bx h=>bg (Aa (ag I) (ag I) bx) ?_;exact go
 rcases ar with ar|ar
 ·simp only[Sum.elim_inl]at h;exact go
 simp only[Sum.elim_inr]at h;exact go
instance:eI prog 165 _ _ _ xy J.of J.of J.of:=.i func165 I ntmps165 I λab ai r h W A=>by
 unfold xy at h;exact go
def afv{ab ai r}(h:ux ab ai=some r):cE prog 241 [J.ptr ab,J.ptr ai] (J.of r):=by
 unfold ux at h;refine cE.of func241 I ntmps241 I λW A=>?_;refine aT ?_;refine aB h λal bx h=>bg (Yr (ag I) bx) ?_;exact go
instance:eI prog 300 _ _ _ LL J.of J.of J.of:=.i func300 I ntmps300 I λab ai r h W A=>by
 unfold LL at h;refine aT λa6 br bz en cm h=>?_;refine aB h λm1 cc h=>iJ (γ:=Unit) [0,1,2,4,5,9,10] (λg1=>[]) (λg1=>[(0,aZ cm m1)]) (λg1=>?_) (λhm ak=>?_) λhm ak=>?_
 ·exact go
 ·have h:=fY ak cc;exact go
 have h:=fZ ak cc;refine aT ?_;refine aB h λm2 dG h=>iJ (γ:=Unit) [0,1,2,4,5,9,10,15] (λg2=>[]) (λg2=>[(0,aZ cm m2)]) (λg2=>?_) (λhm ak=>?_) λhm ak=>?_
 ·exact go
 ·have h:=fY ak dG;exact go
 have h:=fZ ak dG;refine aT ?_;refine aB h λm3 gB h=>iJ (γ:=Unit) [0,1,2,4,5,9,10,15,20] (λg3=>[]) (λg3=>[(0,aZ cm m3)]) (λg3=>?_) (λhm ak=>?_) λhm ak=>?_
 ·exact go
 ·have h:=fY ak gB;exact go
 have h:=fZ ak gB;exact go
instance:ji prog 339 _ _ Di J.of J.of:=.i func339 I ntmps339 I λab r h W A=>by
 unfold Di at h;refine aT ?_;refine aB h λm1 cc h=>iJ (γ:=Unit) [4] (λg1=>[(0,J.of m1.1),(2,J.of m1.2)]) (λg1=>[]) (λg1=>?_) (λhm ak=>?_) λhm ak=>?_
 ·refine aT ?_;refine aB h λm2 dG h=>iJ (γ:=Unit) [4,8] (λg2=>[(0,J.of m2.1),(2,J.of m2.2)]) (λg2=>[]) (λg2=>?_) (λhm ak=>?_) λhm ak=>?_
  ·refine aT ?_;refine aB h λm3 gB h=>iJ (γ:=Unit) [4,8,14] (λg3=>[(0,J.of m3.1),(2,J.of m3.2)]) (λg3=>[]) (λg3=>?_) (λhm ak=>?_) λhm ak=>?_
   ·refine aT ?_;refine bQ (ajC underlying126 underlying5) ?_;refine aB h λal bx h=>bg (ajD underlying9 (fX (ByteArray.mk (List.toArray (List.append (List.append [0,1,2,2,3,3,3,3,4,4,4,4,4,4,4,4,5,5,5,5,5,5,5,5,5,5,5,5,5,5,5,5,6,6,6,6,6,6,6,6,6,6,6,6,6,6,6,6,6,6,6,6,6,6,6,6,6,6,6,6,6,6,6,6] [7,7,7,7,7,7,7,7,7,7,7,7,7,7,7,7,7,7,7,7,7,7,7,7,7,7,7,7,7,7,7,7,7,7,7,7,7,7,7,7,7,7,7,7,7,7,7,7,7,7,7,7,7,7,7,7,7,7,7,7,7,7,7,7]) (List.append [8,8,8,8,8,8,8,8,8,8,8,8,8,8,8,8,8,8,8,8,8,8,8,8,8,8,8,8,8,8,8,8,8,8,8,8,8,8,8,8,8,8,8,8,8,8,8,8,8,8,8,8,8,8,8,8,8,8,8,8,8,8,8,8] [8,8,8,8,8,8,8,8,8,8,8,8,8,8,8,8,8,8,8,8,8,8,8,8,8,8,8,8,8,8,8,8,8,8,8,8,8,8,8,8,8,8,8,8,8,8,8,8,8,8,8,8,8,8,8,8,8,8,8,8,8,8,8,8]))))) (ag I) bx) ?_;exact go
   ·have h:=fY ak gB;exact go
   have h:=fZ ak gB;exact go
  ·have h:=fY ak dG;exact go
  have h:=fZ ak dG;exact go
 ·have h:=fY ak cc;exact go
 have h:=fZ ak cc;exact go
instance:ji prog 354 _ _ Dz J.of J.of:=.i func354 I ntmps354 I λab r h W A=>by
 unfold Dz at h;exact go
instance:eI prog 233 _ _ _ DC J.of J.of J.of:=.i func233 I ntmps233 I λab ai r h W A=>by
 unfold DC at h;exact go
instance:eI prog 355 _ _ _ Hy J.of J.of J.of:=.i func355 I ntmps355 I λab ai r h W A=>by
 unfold Hy at h;exact go
instance:eI prog 301 _ _ _ zT J.of J.of J.of:=.i func301 I ntmps301 I λab ai r h W A=>by
 unfold zT at h;exact go
def Wm{ab ai r}(h:ry ab ai=some r):cE prog 220 [J.of ab,J.of ai] (J.of r):=by
 unfold ry at h;refine cE.of func220 I ntmps220 I λW A=>?_;refine aT (λa6 br h=>?_);refine iV (λhb=>x7 (cW I hb) (ag I) (λh=>⟨hb,h⟩)) ?_;exact go
instance:eI prog 220 _ _ _ ry J.of J.of J.of:=
 ⟨⟨_,func220,rfl,by kernel_rfl⟩,λ_ _ _ h=>Wm h⟩
def Vg{ab ai r}(h:CP ab ai=some r):cE prog 356 [J.of ab,J.tB prog ai] (J.of r):=by
 unfold CP at h;refine cE.of func356 I ntmps356 I λW A=>?_;refine aT ?_;refine aB h λar ao h=>eY (γ:=Unit) (δ:=Unit) ao [0,1,7] (λs1 g1=>[(4,J.of (0:Int)),(8,J.of s1)]) (λs1 g1=>[]) (λaw=>Sum.elim (λaw=>Exit.exit 0) (λaw=>Exit.ret) aw) (λaw g1=>Sum.elim (λaw=>[(4,J.of (0:Int)),(8,J.of aw.1),(9,J.of aw.2)]) (λaw=>[(4,J.of aw.1),(5,J.of aw.2.1),(8,J.of aw.2.2.1),(9,J.of aw.2.2.2.1),(16,J.of aw.2.2.2.2)]) aw) (λaw g1=>[]) () (λs1 r h g1=>?_) λg1=>?_
 ·refine aT (λaR dg h=>?_);refine aB h λal bx h=>bg (Aa (ag I) (ag I) bx) ?_;exact go
 rcases ar with ar|ar
 ·simp only[Sum.elim_inl]at h;exact go
 simp only[Sum.elim_inr]at h;exact go
def afw{ab r}(h:PM ab=some r):cE prog 305 [J.of ab] (J.of r):=by
 unfold PM at h;refine cE.of func305 I ntmps305 I λW A=>?_;exact go
instance:ji prog 166 _ _ zN J.of J.of:=.i func166 I ntmps166 I λab r h W A=>by
 unfold zN at h;refine aT ?_;refine aB h λar ao h=>eY (γ:=Unit) (δ:=Unit) ao [0,6,7] (λs1 g1=>[(2,J.of (0:Int)),(8,J.of s1)]) (λs1 g1=>[]) (λaw=>Sum.elim (λaw=>Exit.exit 0) (λaw=>Exit.ret) aw) (λaw g1=>Sum.elim (λaw=>[(2,J.of (0:Int)),(8,J.of aw.1),(9,J.of aw.2)]) (λaw=>[(2,J.of aw.1),(4,J.of aw.2.1),(5,J.of aw.2.2.1),(8,J.of aw.2.2.2.1),(9,J.of aw.2.2.2.2.1),(15,J.of aw.2.2.2.2.2)]) aw) (λaw g1=>[]) () (λs1 r h g1=>?_) λg1=>?_
 ·refine aT (λaR dg h=>?_);refine aB h λal bx h=>bg (Yr (ag I) bx) ?_;exact go
 rcases ar with ar|ar
 ·simp only[Sum.elim_inl]at h;exact go
 simp only[Sum.elim_inr]at h;exact go
instance:eI prog 247 _ _ _ Da J.of J.of J.of:=.i func247 I ntmps247 I λab ai r h W A=>by
 unfold Da at h;refine aT ?_;refine aB h λar ao h=>eY (γ:=Unit) (δ:=Unit) ao [0,1,7] (λs1 g1=>[(4,J.of (0:Int)),(8,J.of s1)]) (λs1 g1=>[]) (λaw=>Sum.elim (λaw=>Exit.exit 0) (λaw=>Exit.ret) aw) (λaw g1=>Sum.elim (λaw=>[(4,J.of (0:Int)),(8,J.of aw.1),(9,J.of aw.2)]) (λaw=>[(4,J.of aw.1),(5,J.of aw.2.1),(8,J.of aw.2.2.1),(9,J.of aw.2.2.2.1),(16,J.of aw.2.2.2.2)]) aw) (λaw g1=>[]) () (λs1 r h g1=>?_) λg1=>?_
 ·exact go
 rcases ar with ar|ar
 ·simp only[Sum.elim_inl]at h;exact go
 simp only[Sum.elim_inr]at h;exact go
def aeS{ab ai r}(h:Lb ab ai=some r):cE prog 307 [J.of ab,J.ptr ai] (J.of r):=by
 unfold Lb at h;refine cE.of func307 I ntmps307 I λW A=>?_;exact go
def adT{ab ai r}(h:FF ab ai=some r):cE prog 306 [J.of ab,J.tB prog ai] (J.of r):=by
 unfold FF at h;refine cE.of func306 I ntmps306 I λW A=>?_;refine aT ?_;refine aB h λar ao h=>eY (γ:=Unit) (δ:=Unit) ao [0,1,7] (λs1 g1=>[(4,J.of (0:Int)),(8,J.of s1)]) (λs1 g1=>[]) (λaw=>Sum.elim (λaw=>Exit.exit 0) (λaw=>Exit.ret) aw) (λaw g1=>Sum.elim (λaw=>[(4,J.of (0:Int)),(8,J.of aw.1),(9,J.of aw.2)]) (λaw=>[(4,J.of aw.1),(5,J.of aw.2.1),(8,J.of aw.2.2.1),(9,J.of aw.2.2.2.1),(16,J.of aw.2.2.2.2)]) aw) (λaw g1=>[]) () (λs1 r h g1=>?_) λg1=>?_
 ·refine aT (λaR dg h=>?_);refine aB h λal bx h=>bg (Aa (ag I) (ag I) bx) ?_;exact go
 rcases ar with ar|ar
 ·simp only[Sum.elim_inl]at h;exact go
 simp only[Sum.elim_inr]at h;exact go
instance:ji prog 312 _ _ GN J.of J.of:=.i func312 I ntmps312 I λab r h W A=>by
 unfold GN at h;refine bU (bg (dq (look_nil (α:=ByteArray))) ?_);refine aT (λh=>?_);refine bg (dq (look_nil (α:=ByteArray))) ?_;exact go
def WR{ab r}(h:uF ab=some r):cE prog 149 [J.of ab] (J.of r):=by
 unfold uF at h;refine cE.of func149 I ntmps149 I λW A=>?_;exact go
instance apT:ji prog 149 _ _ uF J.of J.of:=
 ⟨⟨_,func149,rfl,by kernel_rfl⟩,λ_ _ h=>WR h⟩
instance abc:ji prog 254 _ _ Db J.of J.of:=.i func254 I ntmps254 I λab r h W A=>by
 unfold Db at h;refine bU (lD λa6=>?_);refine bg (dq (look_nil (α:=iX))) (fr ?_);refine ad.own (α:=iX) 412 (bg (dq lx) ?_);refine aT ?_;refine aB h λar ao h=>eY (γ:=(aA Nat×Nat)) (δ:=(aA Nat×Nat)) ao [0,1,2,7,8] (λs1 g1=>[(3,J.eq (aH g1.1 s1.2.length g1.2)),(9,J.of s1.1)]) (λs1 g1=>[(0,⟨g1.1,.row 412 s1.2 g1.2⟩)]) (λaw=>Exit.exit 0) (λaw g1=>[(3,J.eq (aH g1.1 aw.2.2.length g1.2)),(9,J.of aw.1),(10,J.of aw.2.1)]) (λaw g1=>[(0,⟨g1.1,.row 412 aw.2.2 g1.2⟩)]) (none,0) (λs1 r h g1=>?_) λg1=>?_
 ·refine go2 (λaR dg br bz en h=>?_) (λh=>?_)
  ·refine aB h λal bx h=>gY 1 underlying349 H7 RW bx λeV dN=>?_;refine aT ?_;cases h;exact ia (eV,dN) 1
  cases h;exact gN (g1.1,g1.2) 0
 refine aT ?_;exact aq.k8 (α:=iX) 0 [2,3,20] ⟨rfl,rfl,rfl,trivial⟩ I go
def GB{hp ab ai r}(h:s7 hp ab ai=some r):jA prog 193 [J.of ab,J.of ai] hp (J.of r) hp:=by
 unfold s7 at h;refine bV.of func193 I ntmps193 I λW A=>bU (bg (dq oI) ?_);refine go2 (λh=>?_) (λbO dH c1 dF h=>?_)
 ·refine bg (dq oI) ?_;exact go
 refine aB h λcL fg h=>aB h λc2 eP h=>aB h λbz en h=>bg (wc (r:=bz) underlying223 BY ZN (k6 (ag I) fg) (ag I) (jv (n:=0) I (wi eP) I) (di en)) ?_;exact go
instance:ji prog 497 _ _ xC J.of J.of:=.i func497 I ntmps497 I λab r h W A=>by
 unfold xC at h;refine aT λa6 br cm=>?_;refine aB h λal bx h=>bg (Mj underlying45 jt (ag I) .none (.some (ag I)) bx) ?_;refine aT ?_;refine aB h λar ao h=>eY (γ:=Unit) (δ:=Unit) ao [0,1,2,3,12,13] (λs1 g1=>[(14,J.of s1.1)]) (λs1 g1=>[(0,aZ cm s1.2)]) (λaw=>Exit.exit 0) (λaw g1=>[(14,J.of aw.1),(15,J.of aw.2.1)]) (λaw g1=>[(0,aZ cm aw.2.2)]) () (λs1 r h g1=>?_) λg1=>?_
 ·exact go
 exact go
def Wf{hp ab ai r}(h:Dj hp ab ai=some r):jA prog 496 [J.of ab,J.of ai] hp (J.b7 [J.of r.1,J.of r.2]) hp:=by
 unfold Dj at h;refine bV.of func496 I ntmps496 I λW A=>?_;refine aT (λa6 h=>?_);refine aB h λbO dH h=>aB h λc1 dF h=>aB h λcL fg h=>aB h λc2 eP h=>aB h λbz en h=>fI [0,1,3,4,5,8,9] ?_;refine ay.cj 1 (aN 11 [] [] _::aN 12 [0] [] _::aN 13 [1] [] _::aN 14 [2] [] _::aN 15 [] [0] _::aN 16 [3,4] [] (J.b7 [J.of (bz.getD default),J.of bz.isSome])::aN 10 [5] [] _::aN 17 [6] [] _::aN 18 [6] [] _::aN 6 [7] [] _::aN 7 [8] [] _::[]) (eR ?_ kn) (λdT=>?_)
 ·intro hd E' L' aJ ax cJ;refine bg (QH (r:=bz) underlying370 MS rQ (k6 (ag (aJ _ _ I)) fg) (ag (aJ _ _ I)) (jv (n:=1) (cJ.trans I) (uO eP) I) (di en)) (ad.nil ?_);exact aq.fin (ez []) I I
 refine aq.ey (L2:=(aZ a6 ai::aX hp)) I (hN ?_);exact go
def hD{ab ai cK r}(h:gk ab ai=some r):vx prog 30 [J.dv cK,J.of ai] cK ab (J.of r.1) r.2:=by
 unfold gk at h;refine bV.of func30 I ntmps30 I λW A=>?_;refine aT ?_;refine aB h λal bx h=>ad.ir (fB.call [0] abd (aft bx) ⟨ag I,trivial⟩ I ⟨rfl,trivial⟩ I) I I I (aT (λh=>?_));refine aB h λaR dg h=>aB h λaF cg h=>ay.fi 14 ?_;exact go
def P4{ab ai r}(h:sg ab ai=some r):cE prog 87 [J.of ab,J.of ai] (J.of r):=by
 unfold sg at h;refine cE.of func87 I ntmps87 I λW A=>?_;refine aT λa6 br=>?_;refine ad.share (α:=Int) 0 3 I I (bg (Al (F:=(λa0=>Lj a0 ai)) (τs:=[J.ptr ai]) amo ⟨ag I,trivial⟩ (λ_ _ h=>ae7 h)) ?_);refine aB h λal bx h=>nG amp (adX bx) ?_;exact go
instance:eI prog 87 _ _ _ sg J.of J.of J.of:=
 ⟨⟨_,func87,rfl,by kernel_rfl⟩,λ_ _ _ h=>P4 h⟩
instance:eI prog 100 _ _ _ zJ J.of J.of J.of:=.i func100 I ntmps100 I λab ai r h W A=>by
 unfold zJ at h;refine aT λa6 br=>?_;refine ad.share (α:=Int) 0 3 I I (bg (Al (F:=(λa0=>Lk a0 ai)) (τs:=[J.ptr ai]) amq ⟨ag I,trivial⟩ (λ_ _ h=>ae8 h)) ?_);refine aB h λal bx h=>nG amr (adY bx) ?_;exact go
instance:eI prog 66 _ _ _ He J.of J.of J.of:=.i func66 I ntmps66 I λab ai r h W A=>by
 unfold He at h;refine aT λa6 al bx h=>?_;refine bg (ajE (k:=5) underlying227 la (ag I) (dd 5) ⟨by decide,rfl⟩) ?_;exact go
instance acg:eI prog 86 _ _ _ uC J.of J.of J.of:=.i func86 I ntmps86 I λab ai r h W A=>by
 unfold uC at h;refine aT λa6 br=>?_;refine ad.share (α:=Int) 0 3 I I (bg (Al (F:=(λa0=>Lv a0 ai)) (τs:=[J.ptr ai]) ams ⟨ag I,trivial⟩ (λ_ _ h=>afu h)) ?_);refine aB h λal bx h=>nG amt (ad0 bx) ?_;exact go
instance Nt:eI prog 167 _ _ _ vU J.of J.of J.of:=.i func167 I ntmps167 I λab ai r h W A=>by
 unfold vU at h;refine aT λa6 br=>?_;refine bg (dq (MB .nilFunc)) (fr ?_);refine ad.share (α:=ko prog Bool) 1 2 I I (ad.share (α:=Int) 0 3 I I (bg (uZ (F:=ux ab ai) (τs:=[J.ptr ab,J.ptr ai]) amu ⟨ag I,ag I,trivial⟩ (λ_ h=>afv h)) ?_));exact go
instance abe:eI prog 243 _ _ _ Hf J.of J.of J.of:=.i func243 I ntmps243 I λab ai r h W A=>by
 unfold Hf at h;refine aT (λa6 h=>?_);refine aB h λal bx h=>ay.fi 5 ?_;exact go
instance:ji prog 308 _ _ Hz J.of J.of:=.i func308 I ntmps308 I λab r h W A=>by
 unfold Hz at h;exact go
instance:ji prog 303 _ _ xD J.of J.of:=.i func303 I ntmps303 I λab r h W A=>by
 unfold xD at h;exact go
def adU{ab ai r}(h:KH ab ai=some r):cE prog 304 [J.of ab,J.tB prog ai] (J.of r):=by
 unfold KH at h;refine cE.of func304 I ntmps304 I λW A=>?_;refine aT ?_;refine aB h λal bx h=>nG ZO (Vg bx) ?_;exact go
instance:eI prog 172 _ _ _ vJ J.of J.of J.of:=.i func172 I ntmps172 I λab ai r h W A=>by
 unfold vJ at h;exact go
instance abf:eI prog 248 _ _ _ Dn J.of J.of J.of:=.i func248 I ntmps248 I λab ai r h W A=>by
 unfold Dn at h;refine aT λa6 br=>?_;refine ad.share (α:=Int) 0 3 I I (bg (Al (F:=(λa0=>Lb a0 ai)) (τs:=[J.ptr ai]) amv ⟨ag I,trivial⟩ (λ_ _ h=>aeS h)) ?_);refine aB h λal bx h=>nG amw (adT bx) ?_;exact go
instance abg:ji prog 251 _ _ Dk J.of J.of:=.i func251 I ntmps251 I λab r h W A=>by
 unfold Dk at h;refine bU (lD λa6=>?_);refine bg (dq (look_nil (α:=iX))) (fr ?_);refine ad.own (α:=iX) 412 (bg (dq lx) ?_);refine aT ?_;refine aB h λar ao h=>eY (γ:=(aA Nat×Nat)) (δ:=(aA Nat×Nat)) ao [0,1,2,9,10] (λs1 g1=>[(3,J.eq (aH g1.1 s1.2.length g1.2)),(11,J.of s1.1)]) (λs1 g1=>[(0,⟨g1.1,.row 412 s1.2 g1.2⟩)]) (λaw=>Exit.exit 0) (λaw g1=>[(3,J.eq (aH g1.1 aw.2.2.length g1.2)),(11,J.of aw.1),(12,J.of aw.2.1)]) (λaw g1=>[(0,⟨g1.1,.row 412 aw.2.2 g1.2⟩)]) (none,0) (λs1 r h g1=>?_) λg1=>?_
 ·refine go2 (λaR dg br al bx h=>?_) (λh=>?_)
  ·refine aB h λaK ao h=>eY (γ:=(aA Nat×Nat)) (δ:=(aA Nat×Nat)) ao [0,1,2,5,9,10,11,12,17,18] (λs2 g2=>[(3,J.eq (aH g2.1 s2.2.length g2.2)),(19,J.of s2.1)]) (λs2 g2=>[(1,⟨g2.1,.row 412 s2.2 g2.2⟩)]) (λb9=>Exit.exit 2) (λb9 g2=>[(3,J.eq (aH g2.1 b9.2.2.length g2.2)),(19,J.of b9.1),(20,J.of b9.2.1)]) (λb9 g2=>[(1,⟨g2.1,.row 412 b9.2.2 g2.2⟩)]) (g1.1,g1.2) (λs2 r h g2=>?_) λg2=>?_
   ·refine go2 (λbD dh bz en h=>?_) (λh=>?_)
    ·refine aB h λaF cg h=>gY 1 underlying349 H7 RW cg λeV dN=>?_;refine aT ?_;cases h;exact ia (eV,dN) 0
    cases h;exact gN (g2.1,g2.2) 0
   refine aT ?_;cases h;exact ia (g2.1,g2.2) 1
  cases h;exact gN (g1.1,g1.2) 0
 refine aT λz2 jw h=>?_;refine aB h λbm eD h=>gY 0 underlying349 H7 RW eD λh9 hZ=>?_;refine cS (b0 (ay.ret ?_));exact aq.k8 (α:=iX) 0 [2,35] ⟨rfl,rfl,trivial⟩ I go
instance Nu:eI prog 250 _ _ _ G4 J.of J.of (λr=>J.b7 [J.of r.1,J.of r.2]):=.i func250 I ntmps250 I λab ai r h W A=>by
 unfold G4 at h;refine bU (bg (dq (look_nil (α:=pZ))) ?_);refine aT ?_;refine bg (MT underlying9 (ag I) (fX (ByteArray.mk #[]))) ?_;refine aT (λh=>?_);cases h
instance:ji prog 319 _ _ Dr J.of J.of:=.i func319 I ntmps319 I λab r h W A=>by
 unfold Dr at h;exact go
instance ach:eI prog 94 _ _ _ zU J.of J.of J.of:=.i func94 I ntmps94 I λab ai r h W A=>by
 unfold zU at h;exact go
instance abh:eI prog 146 _ _ _ LM J.of J.of J.of:=.i func146 I ntmps146 I λab ai r h W A=>by
 unfold LM at h;exact go
instance aci:eI prog 93 _ _ _ Dp J.of J.of J.of:=.i func93 I ntmps93 I λab ai r h W A=>by
 unfold Dp at h;refine aT λa6 br=>?_;refine aB h λar ao h=>eY (γ:=Unit) (δ:=Unit) ao [0,1,2,4,8,9] (λs1 g1=>[(10,J.of s1)]) (λs1 g1=>[]) (λaw=>Sum.elim (λaw=>Exit.exit 0) (λaw=>Exit.ret) aw) (λaw g1=>Sum.elim (λaw=>[(10,J.of aw.1),(11,J.of aw.2)]) (λaw=>[(10,J.of aw.1),(11,J.of aw.2.1),(17,J.of aw.2.2.1)]) aw) (λaw g1=>Sum.elim (λaw=>[]) (λaw=>[(0,aZ br aw.2.2.2)]) aw) () (λs1 r h g1=>?_) λg1=>?_
 ·exact go
 rcases ar with ar|ar
 ·simp only[Sum.elim_inl]at h;exact go
 simp only[Sum.elim_inr]at h;exact go
def afa{ab ai aG cK r}(h:GC ab ai aG=some r):vx prog 92 [J.dv cK,J.of ai,J.of aG] cK ab (J.of r.1) r.2:=by
 unfold GC at h;refine bV.of func92 I ntmps92 I λW A=>?_;refine aT λa6 br cm al bx h=>?_;refine ad.bW 3 I (aB h λaF cg h=>e2 1 hL (hD cg) λaw=>?_);refine aT ?_;refine ad.bW 0 I (aB h λbm eD h=>e2 1 hL (hD eD) λb9=>?_);refine aT λbz en h=>?_;refine ad.bW 0 I (aB h λbG ft h=>e2 1 hL (hD ft) λdM=>?_);refine acj (λz2 jw bR gO dV h=>?_) (λz2 jw bR gO dV h=>?_) (λz2 jw bR gO dV h=>?_)
 ·refine ad.bW 1 I (aB h λb8 ib h=>e2 1 hL (hD ib) λh4=>?_);refine aT (λh=>?_);refine ad.bW 0 I (aB h λde lF h=>e2 1 hL (hD lF) λfm=>?_);refine aT ?_;refine ad.bW 0 I (aB h λeu qW h=>e2 1 hL (hD qW) λjj=>?_);refine aT λaR dg h=>?_;refine aB h λfy rR h=>aB h λz3 kM h=>aB h λz4 qX h=>ay.mg mixed 10 (rg 51 10) [[],[],[1],[],[],[3,4],[5],[2,6],[7],[0,8]] [_,_,_,_,_,_,_,_,_,_] ⟨hc,H1 (bC ajF.fd),lG 1 rv wv,hc,hc,tD abh.cj (abh.m _ _ _ rR),gn λax=>QZ rv Ys wv I (ag I) I I,ot Yt,OB kM λL' ax=>l0 (b:=({(default:aV)with c5:=bR.c5&&&fy.c5}:aV)) I D9 u0 (.cons rv I (ag I) I (.nil)),OB qX λL' ax=>l0 (b:=({(default:bN)with gl:=true,fA:=av [al,8,16,1,bu (1+de.1)] aR,cw:=z3}:bN)) I amx u1 (.cons F7 I (h7 true) I (.cons K7 I (ag I) I (.cons Lc I (ag I) I (.nil)))),trivial⟩ ?_;exact go
 ·refine ad.bW 1 I (aB h λgZ tr h=>e2 1 hL (hD tr) λKd=>?_);refine aT ?_;refine ad.bW 0 I (aB h λjf wD h=>e2 1 hL (hD wD) λsT=>?_);exact go
 refine aB h λjg BJ h=>aB h λjB EH h=>fI [0,1,2,4,5,6,7,8,12,13,14,15,16,17,18,19,20,21,22,23,24,25,26,27,28,29,30,31,32,33,36,37,61,62,85,86] ?_;refine ay.cj 5 (aN 87 [] [] _::aN 88 [0] [0] _::aN 89 [] [] _::⟨some 90,[2],[1],[1],λ_=>J.of jg.1,λhd _=>aZ cK jg.2⟩::aN 91 [3] [] _::aN 92 [1,4] [] _::aN 93 [] [] _::aN 94 [6] [] _::aN 95 [7] [] _::aN 96 [8] [] _::aN 97 [5,9] [] _::aN 11 [10] [] _::[]) (eR ?_ kn) (λdT=>?_)
 ·intro hd E' L' aJ ax cJ;exact ad.bW 1 (ax 1 _ I I) (ad.nz (Lin:=[aZ cK bG.2]) (Lr:=L'.eraseIdx 1) hL (hD BJ) ⟨ag (aJ _ _ I),dd 256,trivial⟩ I λtZ=>ad.nil (aq.back 1 (ax 1 _ I I) (aq.fin (ez []) I I)))
 refine aq.ey (L2:=[aZ dV bR,aZ cK jg.2,aZ cm (default:bN),aZ br aG,aZ a6 ai]) I (hN (aq.next (bU ?_)));refine bB ?_;refine ad.bW 1 I (aB h λjK IE h=>e2 1 hL (hD IE) λNX=>?_);refine aT ?_;refine iV (λhb=>x7 (cW I hb) (ag I) (λh=>⟨hb,h⟩)) ?_;exact go
instance ack:o4 prog 95 _ _ _ _ Hl J.of J.of J.of (λr=>J.b7 [J.of r.1,J.of r.2]):=.i func95 I ntmps95 I λab ai aG r h W A=>by
 unfold Hl at h;refine aT (λa6 br al bx aR dg h=>?_);refine aB h λar ao h=>eY (γ:=Unit) (δ:=Unit) ao [0,1,2,3,6,8,15,22,23] (λs1 g1=>[(7,J.of false),(24,J.of s1)]) (λs1 g1=>[]) (λaw=>Sum.elim (λaw=>Exit.exit 0) (λaw=>Exit.ret) aw) (λaw g1=>Sum.elim (λaw=>[(7,J.of false),(24,J.of aw.1),(25,J.of aw.2)]) (λaw=>[(7,J.of aw.1),(24,J.of aw.2.1),(25,J.of aw.2.2.1),(31,J.of aw.2.2.2.1)]) aw) (λaw g1=>Sum.elim (λaw=>[]) (λaw=>[(0,aZ br aw.2.2.2.2)]) aw) () (λs1 r h g1=>?_) λg1=>?_
 ·exact go
 rcases ar with ar|ar
 ·simp only[Sum.elim_inl]at h;exact go
 simp only[Sum.elim_inr]at h;exact go
def afx{ab ai r}(h:zz ab ai=some r):cE prog 162 [J.ptr ab,J.ptr ai] (J.of r):=by
 unfold zz at h;refine cE.of func162 I ntmps162 I λW A=>?_;exact go
instance:o4 prog 139 _ _ _ _ uB J.of J.of J.of (λr=>J.b7 [J.of r.1,J.of r.2]):=.i func139 I ntmps139 I λab ai aG r h W A=>by
 unfold uB at h;refine aT (λa6 br cm al bx aR dg h=>?_);refine ad.share (α:=Int) 1 5 I I (bg (Al (F:=(λa0=>Ll a0 aG)) (τs:=[J.ptr aG]) amy ⟨ag I,trivial⟩ (λ_ _ h=>ae9 h)) ?_);refine aB h λaF cg h=>nG amz (adZ cg) ?_;exact go
def afy{ab ai r}(h:zA ab ai=some r):cE prog 168 [J.ptr ab,J.ptr ai] (J.of r):=by
 unfold zA at h;refine cE.of func168 I ntmps168 I λW A=>?_;exact go
instance abi:eI prog 242 _ _ _ zO J.of J.of (λr=>J.b7 [J.of r.1,J.of r.2]):=.i func242 I ntmps242 I λab ai r h W A=>by
 unfold zO at h;exact go
def agh{ab ai r}(h:Hg ab ai=some r):cE prog 245 [J.of ab,J.of ai] (J.of r):=by
 unfold Hg at h;refine cE.of func245 I ntmps245 I λW A=>?_;exact go
instance:eI prog 249 _ _ _ xE J.of J.of J.of:=.i func249 I ntmps249 I λab ai r h W A=>by
 unfold xE at h;exact go
instance:eI prog 302 _ _ _ Ds J.of J.of J.of:=.i func302 I ntmps302 I λab ai r h W A=>by
 unfold Ds at h;exact go
instance abj:ji prog 246 _ _ LH J.of J.of:=.i func246 I ntmps246 I λab r h W A=>by
 unfold LH at h;refine aT λa6=>?_;refine aB h λal bx h=>bg (iE amA (adU bx) ⟨ag I,XI amB (λ_ _=>afw),trivial⟩) ?_;exact go
def afz{ab ai r}(h:Dc ab ai=some r):cE prog 171 [J.ptr ab,J.ptr ai] (J.of r):=by
 unfold Dc at h;refine cE.of func171 I ntmps171 I λW A=>?_;refine aT ?_;refine aB h λal bx h=>aB h λaR dg h=>aB h λaF cg h=>ay.fi 12 ?_;exact go
instance:o4 prog 174 _ _ _ _ xF J.of J.of J.of J.of:=.i func174 I ntmps174 I λab ai aG r h W A=>by
 unfold xF at h;exact go
instance:eI prog 318 _ _ _ Hm J.of J.of J.of:=.i func318 I ntmps318 I λab ai r h W A=>by
 unfold Hm at h;exact go
instance:o4 prog 317 _ _ _ _ Hr J.of J.of J.of J.of:=.i func317 I ntmps317 I λab ai aG r h W A=>by
 unfold Hr at h;refine aT λa6 br=>?_;refine aB h λbz en h=>kb en (MT underlying9 (ag I) (fX (ByteArray.mk #[112,114,101,102,105,120,95,108,101,110,103,116,104]))) ?_;refine aT (λh=>?_);refine bg (MT underlying9 (ag I) (fX (ByteArray.mk #[109,97,115,107]))) ?_;refine aT (λh=>?_);refine bg (MT underlying9 (ag I) (fX (ByteArray.mk #[104,105,103,104]))) ?_;exact go
def V1{ab ai aG cK r}(h:xv ab ai aG=some r):vx prog 40 [J.dv cK,J.of ai,J.of aG] cK ab (J.of r.1) r.2:=by
 unfold xv at h;refine bV.of func40 I ntmps40 I λW A=>bU (lD λa6=>?_);refine lE ts λbr=>fW ?_;refine aB h λal bx h=>aB h λaR dg h=>ay.qT 1 (fI [0,1,2,4,6] ?_);refine ay.y2 mixed (aN 13 [] [] _::aN 14 [0] [1] _::aN 15 [] [] _::aN 16 [] [] _::aN 17 [3] [1] _::aN 18 [4] [] _::aN 19 [2,5] [] _::aN 20 [1,6] [] _::aN 21 [7] [] _::⟨some 7,[],[3],[3],λhd=>J.dv ((hd 9 0).getD 0),λhd _=>aZ ((hd 9 0).getD 0) (default:bw)⟩::iu [8,9] [3] [3] (λhd=>aZ ((hd 9 0).getD 0) (av ai.bh aR:bw))::[]) ⟨j0 (bC hr.fd),vf 1 qF gv,mH,j0 (bC hr.fd),vf 1 qF gv,j0 (su underlying27),gF λaJ ax=>iE acf.cj (acf.m _ _ _ bx) ⟨ag (aJ _ _ I),ag (aJ _ _ I),trivial⟩,gF λaJ ax=>pz (k:=aR) underlying27 jJ (ag (aJ _ _ I)) (ag (aJ _ _ I)) (c4 dg),j0 (iD jJ),?_,?_,trivial⟩ λdT=>?_
 ·intro hd E' L' aJ ax;refine lE rK λcm=>ad.nil ?_;exact aq.place 3 (ax 3 _ I I) (aq.fin (ez [some cm]) I I)
 ·intro hd E' L' aJ ax;refine ad.store (i:=3) (aP.id bw) (v:=(av ai.bh aR:bw)) (b':=(av ai.bh aR:bw)) jJ (ag (aJ _ _ I)) (ag (aJ _ _ I)) (ax 3 _ I I) I I (ad.nil ?_);exact aq.fin (ez []) I I
 refine aq.ey (L2:=[aZ br (default:aO),aZ a6 ai,aZ cK ab,aZ ((dT 9 0).getD 0) (av ai.bh aR:bw)]) I (hN ?_);refine aq.bW 3 I (aq.next (bU (bQ (bC akZ.fd) ?_)));refine gC 0 xx cd ?_;refine bg (tb (b:=({(default:aO)with ct:=(av ai.bh aR).b1}:aO)) [1,4] XJ I apU ts (.cons xt I (ag I) I (by rfl) (.nil))) ?_;refine ad.own (α:=bN) 130 (ad.own (α:=aV) 128 (ad.oL (z:=(default:aO)) [1,4] XJ ts I λdV=>ad.own (α:=bN) 130 (ad.own (α:=aV) 128 (ad.rE (i:=2) il (ag I) (ag I) I (fW (bU (bQ (bC th.fd) ?_)))))));refine gC 5 pg sB ?_;refine bQ (su underlying62) ?_;refine bB (b0 (ay.block ?_));refine aB h λar ao h=>eY (γ:=(aA Nat×Nat)) (δ:=(aA Nat×Nat)) ao [0,1,2,4,6,7,8,26,27] (λs1 g1=>[(28,J.of s1.1)]) (λs1 g1=>[(2,⟨some dV,.bX s1.2.1 [(1,aH g1.1 s1.2.2.1.length g1.2),(4,aH none ([]:aa aV).length 0)]⟩),(4,⟨g1.1,.row 130 s1.2.2.1 g1.2⟩),(8,aZ cK s1.2.2.2)]) (λaw=>Exit.exit 0) (λaw g1=>[(28,J.of aw.1),(29,J.of aw.2.1)]) (λaw g1=>[(2,⟨some dV,.bX aw.2.2.1 [(1,aH g1.1 aw.2.2.2.1.length g1.2),(4,aH none ([]:aa aV).length 0)]⟩),(4,⟨g1.1,.row 130 aw.2.2.2.1 g1.2⟩),(8,aZ cK aw.2.2.2.2)]) (none,0) (λs1 r h g1=>?_) λg1=>?_
 ·refine bU (dA l2 (fW ?_));refine ki h (λh=>?_) λh=>?_
  ·refine jx (ay.seq (ay.block (bU (aB h λbD dh h=>qY dh underlying62 p9 ?_))));refine bQ (iD p9) ?_;refine lE tj λmG=>?_;refine rS 0 p9 (fW ?_);refine aB h λaF cg h=>aB h λbm eD h=>fI [0,1,2,4,6,7,8,10,26,27,28,29,30,31] ?_;refine ay.y2 mixed (aN 32 [] [] _::aN 33 [0] [3] _::aN 34 [] [] _::aN 35 [] [8] _::aN 36 [] [0] _::⟨some 37,[2,3,4],[9],[9],λ_=>J.of aF.1,λhd _=>aZ cK aF.2⟩::aN 38 [5] [] _::⟨some 39,[1,6],[5],[5],λhd=>J.eq (aH (hd 7 0) bm.length ((hd 7 1).getD 0)),λhd _=>⟨(hd 7 0),.row 130 bm ((hd 7 1).getD 0)⟩⟩::aN 40 [] [] _::iu [1,7,8] [3] [3] (λhd=>⟨some dV,.bX ({s1.2.1 with bs:=[]}:aO) [(1,aH (hd 7 0) bm.length ((hd 7 1).getD 0)),(4,aH none ([]:aa aV).length 0)]⟩)::[]) ⟨j0 (bC hF.fd),gF λaJ ax=>dn (i:=3) (q:=0) (β:=aO) (γ:=bN) gA (ag (aJ _ _ I)) (ax 3 _ I I) I,mH,EI 8 ju,EI 0 p9,?_,gF λaJ ax=>Bc (r:=[aF.1]) underlying45 jt u1 I I (.cons (by simp) (ag (aJ _ _ I)) (.nil)),?_,j0 (bC hF.fd),?_,trivial⟩ λic=>?_
   ·intro hd E' L' aJ ax;refine ad.bW 9 (ax 9 _ I I) (ad.nz (Lin:=[aZ cK s1.2.2.2]) (Lr:=L'.eraseIdx 9) apV (afa cg) ⟨ag (aJ _ _ I),ag (aJ _ _ I),ag (aJ _ _ I),trivial⟩ I λb9=>ad.nil (aq.back 9 (ax 9 _ I I) ?_));exact aq.fin (ez []) I I
   ·intro hd E' L' aJ ax;refine ad.app (i:=5) underlying45 jt u1 (bytes:=64) (by kernel_rfl) (ag (aJ _ _ I)) (ax 5 _ I I) (ag (aJ _ _ I)) eD I λeV dN=>?_;exact ad.nil (aq.fin (ez [eV,some dN]) I I)
   ·intro hd E' L' aJ ax;refine ad.ik (i:=3) (γ:=bN) (b':=({s1.2.1 with bs:=[]}:aO)) (os':=[(1,aH (hd 7 0) bm.length ((hd 7 1).getD 0)),(4,aH none ([]:aa aV).length 0)]) ((aP.id aO).comp j2) gA (ag (aJ _ _ I)) (ag (aJ _ _ I)) ho (ax 3 _ I I) I I I (ad.nil ?_);exact aq.fin (ez []) I I
   refine aq.ey (L2:=[aZ mG (av ((av ai.bh aR).bY) bD:dz),⟨none,.row 128 ([]:aa aV) 0⟩,⟨none,.row 130 ([]:aa bN) 0⟩,⟨some dV,.bX ({s1.2.1 with bs:=[]}:aO) [(1,aH (ic 7 0) bm.length ((ic 7 1).getD 0)),(4,aH none ([]:aa aV).length 0)]⟩,⟨none,.row 128 ([]:aa aV) 0⟩,⟨(ic 7 0),.row 130 bm ((ic 7 1).getD 0)⟩,aZ ((dT 9 0).getD 0) (av ai.bh aR:bw),aZ br (default:aO),aZ a6 ai,aZ cK aF.2]) I (hN (aq.next (bU ?_)));refine bQ (bC Mk.fd) ?_;refine gC 0 vR cd ?_;refine dA nA ?_;refine bB ?_;refine l8 (bC Mk.fd) ?_;refine iV (λhb=>gz (i:=0) ((aP.id dz).comp vR) (r:=(av ((av ai.bh aR).bY) bD).c7) cd (cW I hb) I I I) ?_;refine BZ nA ?_;refine aB h λbz en h=>kb en (BK (ag I) (ag I) (λh=>h)) (b0 ?_);refine aB h λm1 cc h=>iJ (γ:=Unit) [0,1,2,4,6,7,8,10,26,27,28,29,48] (λg2=>[]) (λg2=>[(3,⟨some dV,.bX m1.1 [(1,aH (ic 7 0) bm.length ((ic 7 1).getD 0)),(4,aH none ([]:aa aV).length 0)]⟩),(9,aZ cK m1.2)]) (λg2=>?_) (λhm ak=>?_) λhm ak=>?_
   ·refine aq.mW (aq.next (ay.eQ (dA jU ?_)));refine bB (ad.nil ?_);cases h;exact ia ((ic 7 0),((ic 7 1).getD 0)) 1
   ·have h:=fY ak cc;refine ay.eQ (bB ?_);refine ad.bW 9 I (aB h λbG ft h=>e2 1 hL (hD ft) λdM=>?_);refine dA jU ?_;refine bQ (bC Am.fd) ?_;refine aB h λz2 jw h=>ad.p5 (i:=4) ((aP.id aO).comp xo) (v:=(bu (1+bG.1):Int)) (b':=z2) cd (ag I) (ag I) I I (di jw) (by rfl) ?_;refine ad.nil (aq.bW 9 I (aq.bW 9 I (aq.bW 9 I (aq.bW 9 I (aq.bW 9 I (aq.bW 9 I (aq.bW 9 I (aq.bW 9 I (aq.bW 9 I ?_)))))))));cases h;exact ef 0 (hm ())
   have h:=fZ ak cc;refine ay.skip ?_;cases h;exact ef 0 (hm ())
  refine ay.exit (aq.exit ?_);cases h;exact gN (g1.1,g1.2) 0
 refine aq.lz (aq.next (ay.seq (aB h λbR gO h=>aB h λcf hM h=>aB h λz3 kM h=>fI [0,1,2,4,6,7,8,26,27,28,29] ?_)));refine ay.y2 mixed (aN 54 [] [] _::aN 55 [0] [5] _::aN 56 [] [] _::aN 57 [] [] _::aN 58 [3] [5] _::aN 59 [4] [] _::⟨some 60,[2,5],[8],[8],λ_=>J.of bR.1,λhd _=>aZ cK bR.2⟩::aN 61 [1,6] [] _::aN 62 [7] [] _::aN 63 [] [] _::iu [8,9] [2] [2] (λhd=>⟨some dV,.bX z3 [(1,aH g1.1 ar.2.2.2.1.length g1.2),(4,aH none ([]:aa aV).length 0)]⟩)::[]) ⟨j0 (bC Y7.fd),vf 5 zs la,mH,j0 (bC Y7.fd),vf 5 zs la,j0 (su underlying59),?_,gF λaJ ax=>pz (k:=cf) underlying59 cd (ag (aJ _ _ I)) (ag (aJ _ _ I)) (c4 hM),j0 (iD cd),j0 (bC oM.fd),?_,trivial⟩ λB0=>?_
 ·intro hd E' L' aJ ax;exact ad.bW 8 (ax 8 _ I I) (ad.nz (Lin:=[aZ cK ar.2.2.2.2]) (Lr:=L'.eraseIdx 8) hL (hD gO) ⟨ag (aJ _ _ I),ag (aJ _ _ I),trivial⟩ I λh4=>ad.nil (aq.back 8 (ax 8 _ I I) (aq.fin (ez []) I I)))
 ·intro hd E' L' aJ ax;refine ad.p5 (i:=2) ((aP.id aO).comp nV) (v:=(av ((av ai.bh aR).bK) cf:Int)) (b':=z3) cd (ag (aJ _ _ I)) (ag (aJ _ _ I)) (ax 2 _ I I) I (di kM) (by rfl) ?_;exact ad.nil (aq.fin (ez []) I I)
 refine aq.ey (L2:=[⟨none,.row 128 ([]:aa aV) 0⟩,⟨none,.row 130 ([]:aa bN) 0⟩,⟨some dV,.bX z3 [(1,aH g1.1 ar.2.2.2.1.length g1.2),(4,aH none ([]:aa aV).length 0)]⟩,⟨none,.row 128 ([]:aa aV) 0⟩,⟨g1.1,.row 130 ar.2.2.2.1 g1.2⟩,aZ ((dT 9 0).getD 0) (av ai.bh aR:bw),aZ br (default:aO),aZ a6 ai,aZ cK bR.2]) I (hN (aq.next (ay.seq (bU ?_))));refine lf 7 ju ?_;refine bQ (bC oM.fd) ?_;refine Tk 2 nV cd ?_;refine aB h λb8 ib h=>nG aci.cj (aci.m _ _ _ ib) ?_;refine bg (QZ VL ak0 abk I (ag I) I I) ?_;refine bQ (su underlying85) ?_;refine bB (b0 (ay.block ?_));refine aB h λaK ao h=>eY (γ:=(aA Nat×Nat)) (δ:=(aA Nat×Nat)) ao [0,1,2,4,6,7,8,26,27,28,29,68,69] (λs2 g3=>[(70,J.of s2.1)]) (λs2 g3=>[(2,⟨some dV,.bX s2.2.1 [(1,aH g1.1 ar.2.2.2.1.length g1.2),(4,aH g3.1 s2.2.2.1.length g3.2)]⟩),(3,⟨g3.1,.row 128 s2.2.2.1 g3.2⟩),(8,aZ cK s2.2.2.2)]) (λfm=>Exit.exit 2) (λfm g3=>[(70,J.of fm.1),(71,J.of fm.2.1)]) (λfm g3=>[(2,⟨some dV,.bX fm.2.2.1 [(1,aH g1.1 ar.2.2.2.1.length g1.2),(4,aH g3.1 fm.2.2.2.1.length g3.2)]⟩),(3,⟨g3.1,.row 128 fm.2.2.2.1 g3.2⟩),(8,aZ cK fm.2.2.2.2)]) (none,0) (λs2 r h g3=>?_) λg3=>?_
 ·refine bU (dA l2 (fW ?_));refine ki h (λh=>?_) λh=>?_
  ·refine jx (ay.seq (ay.block (bU (aB h λc0 iq h=>qY iq underlying85 MU ?_))));refine bQ (iD MU) ?_;refine lE amC λhS=>?_;refine rS 0 MU (b0 ?_);refine aB h λde lF h=>aB h λz4 qX h=>aB h λeu qW h=>aB h λfy rR h=>fI [0,1,2,4,6,7,8,12,26,27,28,29,68,69,70,71,72,73] ?_;refine ay.y2 mixed (aN 74 [] [] _::aN 75 [0] [3] _::aN 76 [] [] _::⟨some 77,[2],[9],[9],λ_=>J.of de.1,λhd _=>aZ cK de.2⟩::aN 78 [3] [] _::aN 79 [4] [] _::aN 80 [] [] _::aN 81 [6] [0] _::aN 82 [5,7] [] _::aN 83 [8] [] _::⟨some 84,[1,9],[4],[4],λhd=>J.eq (aH (hd 10 0) fy.length ((hd 10 1).getD 0)),λhd _=>⟨(hd 10 0),.row 128 fy ((hd 10 1).getD 0)⟩⟩::aN 85 [] [] _::iu [1,10,11] [3] [3] (λhd=>⟨some dV,.bX ({s2.2.1 with c3:=[]}:aO) [(1,aH g1.1 ar.2.2.2.1.length g1.2),(4,aH (hd 10 0) fy.length ((hd 10 1).getD 0))]⟩)::[]) ⟨j0 (bC p6.fd),gF λaJ ax=>dn (i:=3) (q:=1) (β:=aO) (γ:=aV) oT (ag (aJ _ _ I)) (ax 3 _ I I) I,mH,?_,j0 (Y8 underlying3 underlying126),gF λaJ ax=>(l0 (b:=({(default:aV)with c5:=BitVec.ofInt 64 de.1}:aV)) I D9 u0 (.cons rv I (ag (aJ _ _ I)) I (.nil))).ra (di qX),j0 (bC ajG.fd),vf 0 V2 cd,gF λaJ ax=>iE ach.cj (ach.m _ _ _ qW) ⟨ag (aJ _ _ I),ag (aJ _ _ I),trivial⟩,gF λaJ ax=>Bc (r:=[eu]) underlying46 h8 u0 I I (.cons (by simp) (ag (aJ _ _ I)) (.nil)),?_,j0 (bC p6.fd),?_,trivial⟩ λEJ=>?_
   ·intro hd E' L' aJ ax;refine ad.bW 9 (ax 9 _ I I) (ad.nz (Lin:=[aZ cK s2.2.2.2]) (Lr:=L'.eraseIdx 9) hL (hD lF) ⟨ag (aJ _ _ I),dd 256,trivial⟩ I λjj=>ad.nil (aq.back 9 (ax 9 _ I I) ?_));exact aq.fin (ez []) I I
   ·intro hd E' L' aJ ax;refine ad.app (i:=4) underlying46 h8 u0 (bytes:=16) (by kernel_rfl) (ag (aJ _ _ I)) (ax 4 _ I I) (ag (aJ _ _ I)) rR I λh9 hZ=>?_;exact ad.nil (aq.fin (ez [h9,some hZ]) I I)
   ·intro hd E' L' aJ ax;refine ad.ik (i:=3) (γ:=aV) (b':=({s2.2.1 with c3:=[]}:aO)) (os':=[(1,aH g1.1 ar.2.2.2.1.length g1.2),(4,aH (hd 10 0) fy.length ((hd 10 1).getD 0))]) ((aP.id aO).comp nt) oT (ag (aJ _ _ I)) (ag (aJ _ _ I)) ho (ax 3 _ I I) I I I (ad.nil ?_);exact aq.fin (ez []) I I
   refine aq.ey (L2:=[aZ hS (av b8.iC c0:mO),⟨none,.row 128 ([]:aa aV) 0⟩,⟨none,.row 130 ([]:aa bN) 0⟩,⟨some dV,.bX ({s2.2.1 with c3:=[]}:aO) [(1,aH g1.1 ar.2.2.2.1.length g1.2),(4,aH (EJ 10 0) fy.length ((EJ 10 1).getD 0))]⟩,⟨(EJ 10 0),.row 128 fy ((EJ 10 1).getD 0)⟩,⟨g1.1,.row 130 ar.2.2.2.1 g1.2⟩,aZ ((dT 9 0).getD 0) (av ai.bh aR:bw),aZ br (default:aO),aZ a6 ai,aZ cK de.2]) I (hN ?_);refine aq.mW (aq.next (ay.eQ (dA jU ?_)));refine bB (ad.nil ?_);cases h;exact ia ((EJ 10 0),((EJ 10 1).getD 0)) 1
  refine ay.exit (aq.exit ?_);cases h;exact gN (g3.1,g3.2) 0
 refine aq.lz (aq.next (bU (ad.kF (β:=aO) (γ:=bN) (b':=({aK.2.2.1 with bs:=ar.2.2.2.1}:aO)) ((aP.id aO).comp j2) 2 4 0 I I I I I I (ad.kF (β:=aO) (γ:=aV) (b':=({({aK.2.2.1 with bs:=ar.2.2.2.1}:aO)with c3:=aK.2.2.2.1}:aO)) ((aP.id aO).comp nt) 2 3 0 I I I I I I (ad.n3 2 I (aB h λz5 yz h=>kb yz (gz (i:=2) (aP.id aO) (r:=({({aK.2.2.1 with bs:=ar.2.2.2.1}:aO)with c3:=aK.2.2.2.1}:aO)) il (ag I) I I I) ?_))))));refine rS 6 il (b0 (ay.ret ?_));refine aq.bW 8 I ?_;cases h;exact aq.eU () (.cons_cons _ (rq _)) I I (nB (i:=7) il I I)
def agi{ab ai aG b5 r}(h:Hh ab ai aG b5=some r):cE prog 41 [J.of ab,J.of ai,J.of aG,J.of b5] (J.of r):=by
 unfold Hh at h;refine cE.of func41 I ntmps41 I λW A=>bU (lD λa6=>?_);refine lD λbr=>?_;refine lD λcm=>?_;refine lE ts λdV=>fr ?_;refine lf 3 ju ?_;refine bB ?_;refine bQ (bC DZ.fd) ?_;refine gC 2 xt cd ?_;refine aB h λal bx h=>nG ack.cj (ack.m _ _ _ _ bx) ?_;refine bB ?_;refine qZ ?_;refine qZ ?_;refine lE MV λmG=>?_;refine rS 0 H8 ?_;refine cS (fW (bU ?_));refine bB ?_;refine bQ pA ?_;refine bB ?_;refine l8 (bC ajH.fd) ?_;refine iV (λhb=>gz (i:=0) ((aP.id dE).comp V3) (r:=al.1.sn) lH (cW I hb) I I I) ?_;refine l8 pA ?_;refine NY (b0 ?_);refine ki h (λh=>?_) λh=>?_
 ·refine bU (lf 2 il ?_);refine rS 1 il (b0 (ay.ret (aq.ret ?_)));cases h;exact aq.Nv I (EK 1 il)
 refine jx (bU (lf 2 il ?_));refine ad.oL (z:=(default:aO)) [1] Rr ts I λhS=>ad.own (α:=bN) 130 (ad.rE (i:=1) (os':=[]) il (ag I) (XK (ag I)) I (ad.n3 1 I (fr (bQ (bC Am.fd) ?_))));refine gC 5 xo cd ?_;refine bQ (bC Am.fd) ?_;refine EL 1 xo cd (fr ?_);refine ad.qd (α:=bN) (r:=([]:aa bN)) underlying45 jt u1 I I (.nil) I λeV=>bQ (bC hF.fd) ?_;refine gC 5 j2 gA ?_;refine aB h λaF cg h=>gY 0 underlying45 jt u1 cg λh9 dN=>?_;refine bQ (bC hF.fd) ?_;refine ad.Tl 2 I (ad.ik (i:=2) (γ:=bN) (b':=({({b5 with ep:=aG.ep}:aO)with bs:=[]}:aO)) (os':=[(1,aH h9 aF.length dN)]) ((aP.id aO).comp j2) gA (ag I) (ag I) ho I I I I (fW (bU (bQ (bC hF.fd) ?_))));refine bg (dn (i:=2) (q:=0) (β:=aO) (γ:=bN) gA (ag I) I I) ?_;refine bg (pt (i:=0) underlying45 (ag I) I I) ?_;refine bB (b0 (ay.block ?_));refine aB h λar ao h=>eY (γ:=(aA Nat×Nat)) (δ:=(aA Nat×Nat)) ao [0,1,2,3,4,6,7,8,9,10,11,31,44] (λs1 g1=>[(45,J.of s1.1)]) (λs1 g1=>[(0,⟨g1.1,.row 130 s1.2 g1.2⟩),(2,⟨some hS,.bX ({({b5 with ep:=aG.ep}:aO)with bs:=[]}:aO) [(1,aH g1.1 s1.2.length g1.2)]⟩)]) (λaw=>Exit.exit 0) (λaw g1=>[(45,J.of aw.1),(46,J.of aw.2.1)]) (λaw g1=>[(0,⟨g1.1,.row 130 aw.2.2 g1.2⟩),(2,⟨some hS,.bX ({({b5 with ep:=aG.ep}:aO)with bs:=[]}:aO) [(1,aH g1.1 aw.2.2.length g1.2)]⟩)]) (h9,dN) (λs1 r h g1=>?_) λg1=>?_
 ·refine bU (dA l2 (fW ?_));refine ki h (λh=>?_) λh=>?_
  ·refine jx (ay.seq (ay.block (bU (bB ?_))));refine cS (fr ?_);refine bQ (bC ajI.fd) ?_;refine gC 3 V4 ZP ?_;refine bB ?_;refine aB h λaR dg h=>qY dg underlying186 lH ?_;refine bQ (iD lH) (b0 ?_);refine aB h λm1 cc h=>iJ (γ:=(aA Nat×Nat)) [0,1,2,3,4,6,7,8,9,10,11,12,31,44,45,46,52] (λg2=>[]) (λg2=>[(0,⟨g2.1,.row 130 m1 g2.2⟩),(2,⟨some hS,.bX ({({b5 with ep:=aG.ep}:aO)with bs:=[]}:aO) [(1,aH g2.1 m1.length g2.2)]⟩)]) (λg2=>?_) (λhm ak=>?_) λhm ak=>?_
   ·refine aq.mW (aq.next (ay.eQ (dA jU ?_)));refine bB (ad.nil ?_);cases h;exact ia (g2.1,g2.2) 0
   ·have h:=fY ak cc;refine aB h λbD dh h=>aB h λcf hM h=>ay.MW mixed 10 (cu 10 0) I I (bn.cD (γ:=Unit) [0,1,2,3,4,6,7,8,9,10,11,12,31,44,45,46,47,48,49,50,51,52] 3 5 0 (cu 10 1023) (λAn=>[]) (λAn=>[⟨g1.1,.row 130 (dr s1.2 cf (av aG.bs bD):aa bN) g1.2⟩,⟨none,.row 130 ([]:aa bN) 0⟩,⟨some hS,.bX ({({b5 with ep:=aG.ep}:aO)with bs:=[]}:aO) [(1,aH g1.1 (dr s1.2 cf (av aG.bs bD)).length g1.2)]⟩]) (λAn=>[]) (λAn=>?_) (λMX=>?_))
    ·refine bn.last (by kernel_rfl) ?_;cases h;exact ef 0 (hm (g1.1,g1.2))
    refine bn.cD (γ:=Unit) [0,1,2,3,4,6,7,8,9,10,11,12,31,44,45,46,47,48,49,50,51,52] 0 8 1 (cu 10 511) (λAo=>[(60,J.of (av aG.bs bD)),(61,J.eq (.pointer (some ⟨g1.1.getD 0,cf*8,none⟩)))]) (λAo=>[]) (λAo=>[]) (λAo=>?_) (λMY=>?_)
    ·refine bn.s1 9 ?_
     ·refine ad.oN (i:=0) (k:=cf) (aP.id bN) (v:=(av aG.bs bD:bN)) (r:=(dr s1.2 cf (av aG.bs bD):aa bN)) jt (ag I) (ag I) I (c4 hM).1 I I (ad.uP (m:=(dr s1.2 cf (av aG.bs bD)).length) 2 0 I I (hW I) ?_);exact ad.bo (MX ())
    refine bn.cD (γ:=Unit) [0,1,2,3,4,6,7,8,9,10,11,12,31,44,45,46,47,48,49,50,51,52] 0 8 2 (cu 10 255) (λAp=>[(54,J.eq (aH g1.1 s1.2.length g1.2)),(55,J.of s1.1),(60,J.of (av aG.bs bD))]) (λAp=>[]) (λAp=>[]) (λAp=>?_) (λBd=>?_)
    ·refine bn.s1 8 ?_
     ·refine bg (jV (i:=0) (k:=cf) (xs:=(s1.2:aa bN)) underlying45 jt (ag I) (ag I) I (c4 hM)) ?_;exact ad.bo (MY ())
    refine bn.cD (γ:=Unit) [0,1,2,3,4,6,7,8,9,10,11,12,31,44,45,46,47,48,49,50,51,52] 0 8 3 (cu 10 253) (λAq=>[(53,J.eq (.pointer (some ⟨hS,0+1,none⟩))),(55,J.of s1.1),(60,J.of (av aG.bs bD))]) (λAq=>[]) (λAq=>[]) (λAq=>?_) (λEa=>?_)
    ·refine bn.s1 1 ?_
     ·refine bg (dn (i:=2) (q:=0) (β:=aO) (γ:=bN) gA (ag I) I I) ?_;exact ad.bo (Bd ())
    refine bn.cD (γ:=Unit) [0,1,2,3,4,6,7,8,9,10,11,12,31,44,45,46,47,48,49,50,51,52] 0 8 3 (cu 10 251) (λAr=>[(54,J.eq (aH g1.1 s1.2.length g1.2)),(60,J.of (av aG.bs bD))]) (λAr=>[]) (λAr=>[]) (λAr=>?_) (λEb=>?_)
    ·refine bn.s1 2 ?_
     ·refine bB ?_;exact ad.bo (Bd ())
    refine bn.cD (γ:=Unit) [0,1,2,3,4,6,7,8,9,10,11,12,31,44,45,46,47,48,49,50,51,52] 0 8 3 (cu 10 127) (λAs=>[(54,J.eq (aH g1.1 s1.2.length g1.2)),(55,J.of s1.1),(59,J.ptr (av aG.bs bD))]) (λAs=>[]) (λAs=>[]) (λAs=>?_) (λH9=>?_)
    ·refine bn.s1 7 ?_
     ·refine bQ (iD jt) ?_;exact ad.bo (Bd ())
    refine bn.cD (γ:=Unit) [0,1,2,3,4,6,7,8,9,10,11,12,31,44,45,46,47,48,49,50,51,52] 0 8 4 (cu 10 252) (λAu=>[(55,J.of s1.1),(60,J.of (av aG.bs bD))]) (λAu=>[]) (λAu=>[]) (λAu=>?_) (λIa=>?_)
    ·refine bn.s1 0 ?_
     ·refine bQ (bC hF.fd) ?_;exact ad.bo (Ea ())
    refine bn.cD (γ:=Unit) [0,1,2,3,4,6,7,8,9,10,11,12,31,44,45,46,47,48,49,50,51,52] 0 8 4 (cu 10 249) (λAv=>[(53,J.eq (.pointer (some ⟨hS,0+1,none⟩))),(60,J.of (av aG.bs bD))]) (λAv=>[]) (λAv=>[]) (λAv=>?_) (λIb=>?_)
    ·refine bn.s2 1 2 ?_ ?_
     ·refine bg (dn (i:=2) (q:=0) (β:=aO) (γ:=bN) gA (ag I) I I) ?_;exact ad.bo (Eb ())
     refine bB ?_;exact ad.bo (Ea ())
    refine bn.cD (γ:=Unit) [0,1,2,3,4,6,7,8,9,10,11,12,31,44,45,46,47,48,49,50,51,52] 0 8 4 (cu 10 125) (λAw=>[(53,J.eq (.pointer (some ⟨hS,0+1,none⟩))),(55,J.of s1.1),(59,J.ptr (av aG.bs bD))]) (λAw=>[]) (λAw=>[]) (λAw=>?_) (λBe=>?_)
    ·refine bn.s2 1 7 ?_ ?_
     ·refine bg (dn (i:=2) (q:=0) (β:=aO) (γ:=bN) gA (ag I) I I) ?_;exact ad.bo (H9 ())
     refine bQ (iD jt) ?_;exact ad.bo (Ea ())
    refine bn.cD (γ:=Unit) [0,1,2,3,4,6,7,8,9,10,11,12,31,44,45,46,47,48,49,50,51,52] 0 8 4 (cu 10 123) (λAx=>[(54,J.eq (aH g1.1 s1.2.length g1.2)),(59,J.ptr (av aG.bs bD))]) (λAx=>[]) (λAx=>[]) (λAx=>?_) (λIc=>?_)
    ·refine bn.s2 2 7 ?_ ?_
     ·refine bB ?_;exact ad.bo (H9 ())
     refine bQ (iD jt) ?_;exact ad.bo (Eb ())
    refine bn.cD (γ:=Unit) [0,1,2,3,4,6,7,8,9,10,11,12,31,44,45,46,47,48,49,50,51,52] 0 8 4 (cu 10 63) (λAy=>[(54,J.eq (aH g1.1 s1.2.length g1.2)),(55,J.of s1.1),(57,J.of aG.bs),(58,J.of s1.1)]) (λAy=>[]) (λAy=>[]) (λAy=>?_) (λwx=>?_)
    ·refine bn.s1 6 ?_
     ·refine qY dh underlying45 jt ?_;exact ad.bo (H9 ())
    refine bn.cD (γ:=Unit) [0,1,2,3,4,6,7,8,9,10,11,12,31,44,45,46,47,48,49,50,51,52] 0 8 5 (cu 10 248) (λAz=>[(60,J.of (av aG.bs bD))]) (λAz=>[]) (λAz=>[]) (λAz=>?_) (λEc=>?_)
    ·refine bn.s2 0 2 ?_ ?_
     ·refine bQ (bC hF.fd) ?_;exact ad.bo (Ib ())
     refine bB ?_;exact ad.bo (Ia ())
    refine bn.cD (γ:=Unit) [0,1,2,3,4,6,7,8,9,10,11,12,31,44,45,46,47,48,49,50,51,52] 0 8 5 (cu 10 124) (λAA=>[(55,J.of s1.1),(59,J.ptr (av aG.bs bD))]) (λAA=>[]) (λAA=>[]) (λAA=>?_) (λEd=>?_)
    ·refine bn.s2 0 7 ?_ ?_
     ·refine bQ (bC hF.fd) ?_;exact ad.bo (Be ())
     refine bQ (iD jt) ?_;exact ad.bo (Ia ())
    refine bn.cD (γ:=Unit) [0,1,2,3,4,6,7,8,9,10,11,12,31,44,45,46,47,48,49,50,51,52] 0 8 5 (cu 10 121) (λAB=>[(53,J.eq (.pointer (some ⟨hS,0+1,none⟩))),(59,J.ptr (av aG.bs bD))]) (λAB=>[]) (λAB=>[]) (λAB=>?_) (λMZ=>?_)
    ·refine bn.gD [1,2,7] ⟨⟨_,rfl,?_⟩,⟨_,rfl,?_⟩,⟨_,rfl,?_⟩,trivial⟩
     ·refine bg (dn (i:=2) (q:=0) (β:=aO) (γ:=bN) gA (ag I) I I) ?_;exact ad.bo (Ic ())
     ·refine bB ?_;exact ad.bo (Be ())
     refine bQ (iD jt) ?_;exact ad.bo (Ib ())
    refine bn.cD (γ:=Unit) [0,1,2,3,4,6,7,8,9,10,11,12,31,44,45,46,47,48,49,50,51,52] 0 8 5 (cu 10 61) (λAD=>[(53,J.eq (.pointer (some ⟨hS,0+1,none⟩))),(55,J.of s1.1),(57,J.of aG.bs),(58,J.of s1.1)]) (λAD=>[]) (λAD=>[]) (λAD=>?_) (λBf=>?_)
    ·refine bn.s2 1 6 ?_ ?_
     ·refine bg (dn (i:=2) (q:=0) (β:=aO) (γ:=bN) gA (ag I) I I) ?_;exact ad.bo (wx ())
     refine qY dh underlying45 jt ?_;exact ad.bo (Be ())
    refine bn.cD (γ:=Unit) [0,1,2,3,4,6,7,8,9,10,11,12,31,44,45,46,47,48,49,50,51,52] 0 8 5 (cu 10 59) (λAE=>[(54,J.eq (aH g1.1 s1.2.length g1.2)),(57,J.of aG.bs),(58,J.of s1.1)]) (λAE=>[]) (λAE=>[]) (λAE=>?_) (λEe=>?_)
    ·refine bn.s2 2 6 ?_ ?_
     ·refine bB ?_;exact ad.bo (wx ())
     refine qY dh underlying45 jt ?_;exact ad.bo (Ic ())
    refine bn.cD (γ:=Unit) [0,1,2,3,4,6,7,8,9,10,11,12,31,44,45,46,47,48,49,50,51,52] 0 8 5 (cu 10 47) (λAF=>[(54,J.eq (aH g1.1 s1.2.length g1.2)),(55,J.of s1.1),(56,J.eq (.pointer (some ⟨br,0+1,none⟩))),(58,J.of s1.1)]) (λAF=>[]) (λAF=>[]) (λAF=>?_) (λwy=>?_)
    ·refine bn.s1 4 ?_
     ·refine gC 6 j2 gA ?_;exact ad.bo (wx ())
    refine bn.cD (γ:=Unit) [0,1,2,3,4,6,7,8,9,10,11,12,31,44,45,46,47,48,49,50,51,52] 0 8 5 (cu 10 31) (λAG=>[(54,J.eq (aH g1.1 s1.2.length g1.2)),(55,J.of s1.1),(57,J.of aG.bs)]) (λAG=>[]) (λAG=>[]) (λAG=>?_) (λBg=>?_)
    ·refine bn.s1 5 ?_
     ·refine bB ?_;exact ad.bo (wx ())
    refine bn.cD (γ:=Unit) [0,1,2,3,4,6,7,8,9,10,11,12,31,44,45,46,47,48,49,50,51,52] 0 8 6 (cu 10 120) (λAH=>[(59,J.ptr (av aG.bs bD))]) (λAH=>[]) (λAH=>[]) (λAH=>?_) (λIe=>?_)
    ·refine bn.gD [0,2,7] ⟨⟨_,rfl,?_⟩,⟨_,rfl,?_⟩,⟨_,rfl,?_⟩,trivial⟩
     ·refine bQ (bC hF.fd) ?_;exact ad.bo (MZ ())
     ·refine bB ?_;exact ad.bo (Ed ())
     refine bQ (iD jt) ?_;exact ad.bo (Ec ())
    refine bn.cD (γ:=Unit) [0,1,2,3,4,6,7,8,9,10,11,12,31,44,45,46,47,48,49,50,51,52] 0 8 6 (cu 10 60) (λAI=>[(55,J.of s1.1),(57,J.of aG.bs),(58,J.of s1.1)]) (λAI=>[]) (λAI=>[]) (λAI=>?_) (λBh=>?_)
    ·refine bn.s2 0 6 ?_ ?_
     ·refine bQ (bC hF.fd) ?_;exact ad.bo (Bf ())
     refine qY dh underlying45 jt ?_;exact ad.bo (Ed ())
    refine bn.cD (γ:=Unit) [0,1,2,3,4,6,7,8,9,10,11,12,31,44,45,46,47,48,49,50,51,52] 0 8 6 (cu 10 57) (λAJ=>[(53,J.eq (.pointer (some ⟨hS,0+1,none⟩))),(57,J.of aG.bs),(58,J.of s1.1)]) (λAJ=>[]) (λAJ=>[]) (λAJ=>?_) (λx8=>?_)
    ·refine bn.gD [1,2,6] ⟨⟨_,rfl,?_⟩,⟨_,rfl,?_⟩,⟨_,rfl,?_⟩,trivial⟩
     ·refine bg (dn (i:=2) (q:=0) (β:=aO) (γ:=bN) gA (ag I) I I) ?_;exact ad.bo (Ee ())
     ·refine bB ?_;exact ad.bo (Bf ())
     refine qY dh underlying45 jt ?_;exact ad.bo (MZ ())
    refine bn.cD (γ:=Unit) [0,1,2,3,4,6,7,8,9,10,11,12,31,44,45,46,47,48,49,50,51,52] 0 8 6 (cu 10 45) (λAK=>[(53,J.eq (.pointer (some ⟨hS,0+1,none⟩))),(55,J.of s1.1),(56,J.eq (.pointer (some ⟨br,0+1,none⟩))),(58,J.of s1.1)]) (λAK=>[]) (λAK=>[]) (λAK=>?_) (λx9=>?_)
    ·refine bn.s2 1 4 ?_ ?_
     ·refine bg (dn (i:=2) (q:=0) (β:=aO) (γ:=bN) gA (ag I) I I) ?_;exact ad.bo (wy ())
     refine gC 6 j2 gA ?_;exact ad.bo (Bf ())
    refine bn.cD (γ:=Unit) [0,1,2,3,4,6,7,8,9,10,11,12,31,44,45,46,47,48,49,50,51,52] 0 8 6 (cu 10 29) (λAL=>[(53,J.eq (.pointer (some ⟨hS,0+1,none⟩))),(55,J.of s1.1),(57,J.of aG.bs)]) (λAL=>[]) (λAL=>[]) (λAL=>?_) (λBi=>?_)
    ·refine bn.s2 1 5 ?_ ?_
     ·refine bg (dn (i:=2) (q:=0) (β:=aO) (γ:=bN) gA (ag I) I I) ?_;exact ad.bo (Bg ())
     refine bB ?_;exact ad.bo (Bf ())
    refine bn.cD (γ:=Unit) [0,1,2,3,4,6,7,8,9,10,11,12,31,44,45,46,47,48,49,50,51,52] 0 8 6 (cu 10 43) (λAM=>[(54,J.eq (aH g1.1 s1.2.length g1.2)),(56,J.eq (.pointer (some ⟨br,0+1,none⟩))),(58,J.of s1.1)]) (λAM=>[]) (λAM=>[]) (λAM=>?_) (λEf=>?_)
    ·refine bn.s2 2 4 ?_ ?_
     ·refine bB ?_;exact ad.bo (wy ())
     refine gC 6 j2 gA ?_;exact ad.bo (Ee ())
    refine bn.cD (γ:=Unit) [0,1,2,3,4,6,7,8,9,10,11,12,31,44,45,46,47,48,49,50,51,52] 0 8 6 (cu 10 27) (λAN=>[(54,J.eq (aH g1.1 s1.2.length g1.2)),(57,J.of aG.bs)]) (λAN=>[]) (λAN=>[]) (λAN=>?_) (λM0=>?_)
    ·refine bn.s2 2 5 ?_ ?_
     ·refine bB ?_;exact ad.bo (Bg ())
     refine bB ?_;exact ad.bo (Ee ())
    refine bn.cD (γ:=Unit) [0,1,2,3,4,6,7,8,9,10,11,12,31,44,45,46,47,48,49,50,51,52] 0 8 6 (cu 10 39) (λAO=>[(54,J.eq (aH g1.1 s1.2.length g1.2)),(55,J.of s1.1),(58,J.of s1.1)]) (λAO=>[]) (λAO=>[]) (λAO=>?_) (λBj=>?_)
    ·refine bn.s1 3 ?_
     ·refine bQ (bC hF.fd) ?_;exact ad.bo (wy ())
    refine bn.cD (γ:=Unit) [0,1,2,3,4,6,7,8,9,10,11,12,31,44,45,46,47,48,49,50,51,52] 0 8 6 (cu 10 15) (λAP=>[(54,J.eq (aH g1.1 s1.2.length g1.2)),(55,J.of s1.1),(56,J.eq (.pointer (some ⟨br,0+1,none⟩)))]) (λAP=>[]) (λAP=>[]) (λAP=>?_) (λBk=>?_)
    ·refine bn.s2 4 5 ?_ ?_
     ·refine gC 6 j2 gA ?_;exact ad.bo (Bg ())
     refine bB ?_;exact ad.bo (wy ())
    refine bn.cD (γ:=Unit) [0,1,2,3,4,6,7,8,9,10,11,12,31,44,45,46,47,48,49,50,51,52] 0 8 7 (cu 10 56) (λAQ=>[(57,J.of aG.bs),(58,J.of s1.1)]) (λAQ=>[]) (λAQ=>[]) (λAQ=>?_) (λIg=>?_)
    ·refine bn.gD [0,2,6] ⟨⟨_,rfl,?_⟩,⟨_,rfl,?_⟩,⟨_,rfl,?_⟩,trivial⟩
     ·refine bQ (bC hF.fd) ?_;exact ad.bo (x8 ())
     ·refine bB ?_;exact ad.bo (Bh ())
     refine qY dh underlying45 jt ?_;exact ad.bo (Ie ())
    refine bn.cD (γ:=Unit) [0,1,2,3,4,6,7,8,9,10,11,12,31,44,45,46,47,48,49,50,51,52] 0 8 7 (cu 10 44) (λAR=>[(55,J.of s1.1),(56,J.eq (.pointer (some ⟨br,0+1,none⟩))),(58,J.of s1.1)]) (λAR=>[]) (λAR=>[]) (λAR=>?_) (λBl=>?_)
    ·refine bn.s2 0 4 ?_ ?_
     ·refine bQ (bC hF.fd) ?_;exact ad.bo (x9 ())
     refine gC 6 j2 gA ?_;exact ad.bo (Bh ())
    refine bn.cD (γ:=Unit) [0,1,2,3,4,6,7,8,9,10,11,12,31,44,45,46,47,48,49,50,51,52] 0 8 7 (cu 10 28) (λAS=>[(55,J.of s1.1),(57,J.of aG.bs)]) (λAS=>[]) (λAS=>[]) (λAS=>?_) (λIh=>?_)
    ·refine bn.s2 0 5 ?_ ?_
     ·refine bQ (bC hF.fd) ?_;exact ad.bo (Bi ())
     refine bB ?_;exact ad.bo (Bh ())
    refine bn.cD (γ:=Unit) [0,1,2,3,4,6,7,8,9,10,11,12,31,44,45,46,47,48,49,50,51,52] 0 8 7 (cu 10 41) (λAT=>[(53,J.eq (.pointer (some ⟨hS,0+1,none⟩))),(56,J.eq (.pointer (some ⟨br,0+1,none⟩))),(58,J.of s1.1)]) (λAT=>[]) (λAT=>[]) (λAT=>?_) (λBm=>?_)
    ·refine bn.gD [1,2,4] ⟨⟨_,rfl,?_⟩,⟨_,rfl,?_⟩,⟨_,rfl,?_⟩,trivial⟩
     ·refine bg (dn (i:=2) (q:=0) (β:=aO) (γ:=bN) gA (ag I) I I) ?_;exact ad.bo (Ef ())
     ·refine bB ?_;exact ad.bo (x9 ())
     refine gC 6 j2 gA ?_;exact ad.bo (x8 ())
    refine bn.cD (γ:=Unit) [0,1,2,3,4,6,7,8,9,10,11,12,31,44,45,46,47,48,49,50,51,52] 0 8 7 (cu 10 25) (λAU=>[(53,J.eq (.pointer (some ⟨hS,0+1,none⟩))),(57,J.of aG.bs)]) (λAU=>[]) (λAU=>[]) (λAU=>?_) (λIi=>?_)
    ·refine bn.gD [1,2,5] ⟨⟨_,rfl,?_⟩,⟨_,rfl,?_⟩,⟨_,rfl,?_⟩,trivial⟩
     ·refine bg (dn (i:=2) (q:=0) (β:=aO) (γ:=bN) gA (ag I) I I) ?_;exact ad.bo (M0 ())
     ·refine bB ?_;exact ad.bo (Bi ())
     refine bB ?_;exact ad.bo (x8 ())
    refine bn.cD (γ:=Unit) [0,1,2,3,4,6,7,8,9,10,11,12,31,44,45,46,47,48,49,50,51,52] 0 8 7 (cu 10 37) (λAV=>[(53,J.eq (.pointer (some ⟨hS,0+1,none⟩))),(55,J.of s1.1),(58,J.of s1.1)]) (λAV=>[]) (λAV=>[]) (λAV=>?_) (λBn=>?_)
    ·refine bn.s2 1 3 ?_ ?_
     ·refine bg (dn (i:=2) (q:=0) (β:=aO) (γ:=bN) gA (ag I) I I) ?_;exact ad.bo (Bj ())
     refine bQ (bC hF.fd) ?_;exact ad.bo (x9 ())
    refine bn.cD (γ:=Unit) [0,1,2,3,4,6,7,8,9,10,11,12,31,44,45,46,47,48,49,50,51,52] 0 8 7 (cu 10 13) (λAW=>[(53,J.eq (.pointer (some ⟨hS,0+1,none⟩))),(55,J.of s1.1),(56,J.eq (.pointer (some ⟨br,0+1,none⟩)))]) (λAW=>[]) (λAW=>[]) (λAW=>?_) (λBo=>?_)
    ·refine bn.gD [1,4,5] ⟨⟨_,rfl,?_⟩,⟨_,rfl,?_⟩,⟨_,rfl,?_⟩,trivial⟩
     ·refine bg (dn (i:=2) (q:=0) (β:=aO) (γ:=bN) gA (ag I) I I) ?_;exact ad.bo (Bk ())
     ·refine gC 6 j2 gA ?_;exact ad.bo (Bi ())
     refine bB ?_;exact ad.bo (x9 ())
    refine bn.cD (γ:=Unit) [0,1,2,3,4,6,7,8,9,10,11,12,31,44,45,46,47,48,49,50,51,52] 0 8 7 (cu 10 35) (λAX=>[(54,J.eq (aH g1.1 s1.2.length g1.2)),(58,J.of s1.1)]) (λAX=>[]) (λAX=>[]) (λAX=>?_) (λIj=>?_)
    ·refine bn.s2 2 3 ?_ ?_
     ·refine bB ?_;exact ad.bo (Bj ())
     refine bQ (bC hF.fd) ?_;exact ad.bo (Ef ())
    refine bn.cD (γ:=Unit) [0,1,2,3,4,6,7,8,9,10,11,12,31,44,45,46,47,48,49,50,51,52] 0 8 7 (cu 10 11) (λAY=>[(54,J.eq (aH g1.1 s1.2.length g1.2)),(56,J.eq (.pointer (some ⟨br,0+1,none⟩)))]) (λAY=>[]) (λAY=>[]) (λAY=>?_) (λIk=>?_)
    ·refine bn.gD [2,4,5] ⟨⟨_,rfl,?_⟩,⟨_,rfl,?_⟩,⟨_,rfl,?_⟩,trivial⟩
     ·refine bB ?_;exact ad.bo (Bk ())
     ·refine gC 6 j2 gA ?_;exact ad.bo (M0 ())
     refine bB ?_;exact ad.bo (Ef ())
    refine bn.cD (γ:=Unit) [0,1,2,3,4,6,7,8,9,10,11,12,31,44,45,46,47,48,49,50,51,52] 0 8 7 (cu 10 7) (λAZ=>[(54,J.eq (aH g1.1 s1.2.length g1.2)),(55,J.of s1.1)]) (λAZ=>[]) (λAZ=>[]) (λAZ=>?_) (λIl=>?_)
    ·refine bn.s2 3 5 ?_ ?_
     ·refine bQ (bC hF.fd) ?_;exact ad.bo (Bk ())
     refine bB ?_;exact ad.bo (Bj ())
    refine bn.cD (γ:=Unit) [0,1,2,3,4,6,7,8,9,10,11,12,31,44,45,46,47,48,49,50,51,52] 0 8 8 (cu 10 40) (λA0=>[(56,J.eq (.pointer (some ⟨br,0+1,none⟩))),(58,J.of s1.1)]) (λA0=>[]) (λA0=>[]) (λA0=>?_) (λIm=>?_)
    ·refine bn.gD [0,2,4] ⟨⟨_,rfl,?_⟩,⟨_,rfl,?_⟩,⟨_,rfl,?_⟩,trivial⟩
     ·refine bQ (bC hF.fd) ?_;exact ad.bo (Bm ())
     ·refine bB ?_;exact ad.bo (Bl ())
     refine gC 6 j2 gA ?_;exact ad.bo (Ig ())
    refine bn.cD (γ:=Unit) [0,1,2,3,4,6,7,8,9,10,11,12,31,44,45,46,47,48,49,50,51,52] 0 8 8 (cu 10 24) (λA1=>[(57,J.of aG.bs)]) (λA1=>[]) (λA1=>[]) (λA1=>?_) (λRX=>?_)
    ·refine bn.gD [0,2,5] ⟨⟨_,rfl,?_⟩,⟨_,rfl,?_⟩,⟨_,rfl,?_⟩,trivial⟩
     ·refine bQ (bC hF.fd) ?_;exact ad.bo (Ii ())
     ·refine bB ?_;exact ad.bo (Ih ())
     refine bB ?_;exact ad.bo (Ig ())
    refine bn.cD (γ:=Unit) [0,1,2,3,4,6,7,8,9,10,11,12,31,44,45,46,47,48,49,50,51,52] 0 8 8 (cu 10 36) (λA2=>[(55,J.of s1.1),(58,J.of s1.1)]) (λA2=>[]) (λA2=>[]) (λA2=>?_) (λIo=>?_)
    ·refine bn.s2 0 3 ?_ ?_
     ·refine bQ (bC hF.fd) ?_;exact ad.bo (Bn ())
     refine bQ (bC hF.fd) ?_;exact ad.bo (Bl ())
    refine bn.cD (γ:=Unit) [0,1,2,3,4,6,7,8,9,10,11,12,31,44,45,46,47,48,49,50,51,52] 0 8 8 (cu 10 12) (λBp=>[(55,J.of s1.1),(56,J.eq (.pointer (some ⟨br,0+1,none⟩)))]) (λBp=>[]) (λBp=>[]) (λBp=>?_) (λIF=>?_)
    ·refine bn.gD [0,4,5] ⟨⟨_,rfl,?_⟩,⟨_,rfl,?_⟩,⟨_,rfl,?_⟩,trivial⟩
     ·refine bQ (bC hF.fd) ?_;exact ad.bo (Bo ())
     ·refine gC 6 j2 gA ?_;exact ad.bo (Ih ())
     refine bB ?_;exact ad.bo (Bl ())
    refine bn.cD (γ:=Unit) [0,1,2,3,4,6,7,8,9,10,11,12,31,44,45,46,47,48,49,50,51,52] 0 8 8 (cu 10 33) (λBq=>[(53,J.eq (.pointer (some ⟨hS,0+1,none⟩))),(58,J.of s1.1)]) (λBq=>[]) (λBq=>[]) (λBq=>?_) (λIG=>?_)
    ·refine bn.gD [1,2,3] ⟨⟨_,rfl,?_⟩,⟨_,rfl,?_⟩,⟨_,rfl,?_⟩,trivial⟩
     ·refine bg (dn (i:=2) (q:=0) (β:=aO) (γ:=bN) gA (ag I) I I) ?_;exact ad.bo (Ij ())
     ·refine bB ?_;exact ad.bo (Bn ())
     refine bQ (bC hF.fd) ?_;exact ad.bo (Bm ())
    refine bn.cD (γ:=Unit) [0,1,2,3,4,6,7,8,9,10,11,12,31,44,45,46,47,48,49,50,51,52] 0 8 8 (cu 10 9) (λBr=>[(53,J.eq (.pointer (some ⟨hS,0+1,none⟩))),(56,J.eq (.pointer (some ⟨br,0+1,none⟩)))]) (λBr=>[]) (λBr=>[]) (λBr=>?_) (λIH=>?_)
    ·refine bn.gD [1,2,4,5] ⟨⟨_,rfl,?_⟩,⟨_,rfl,?_⟩,⟨_,rfl,?_⟩,⟨_,rfl,?_⟩,trivial⟩
     ·refine bg (dn (i:=2) (q:=0) (β:=aO) (γ:=bN) gA (ag I) I I) ?_;exact ad.bo (Ik ())
     ·refine bB ?_;exact ad.bo (Bo ())
     ·refine gC 6 j2 gA ?_;exact ad.bo (Ii ())
     refine bB ?_;exact ad.bo (Bm ())
    refine bn.cD (γ:=Unit) [0,1,2,3,4,6,7,8,9,10,11,12,31,44,45,46,47,48,49,50,51,52] 0 8 8 (cu 10 5) (λBs=>[(53,J.eq (.pointer (some ⟨hS,0+1,none⟩))),(55,J.of s1.1)]) (λBs=>[]) (λBs=>[]) (λBs=>?_) (λII=>?_)
    ·refine bn.gD [1,3,5] ⟨⟨_,rfl,?_⟩,⟨_,rfl,?_⟩,⟨_,rfl,?_⟩,trivial⟩
     ·refine bg (dn (i:=2) (q:=0) (β:=aO) (γ:=bN) gA (ag I) I I) ?_;exact ad.bo (Il ())
     ·refine bQ (bC hF.fd) ?_;exact ad.bo (Bo ())
     refine bB ?_;exact ad.bo (Bn ())
    refine bn.cD (γ:=Unit) [0,1,2,3,4,6,7,8,9,10,11,12,31,44,45,46,47,48,49,50,51,52] 0 8 8 (cu 10 3) (λBt=>[(54,J.eq (aH g1.1 s1.2.length g1.2))]) (λBt=>[]) (λBt=>[]) (λBt=>?_) (λSI=>?_)
    ·refine bn.gD [2,3,5] ⟨⟨_,rfl,?_⟩,⟨_,rfl,?_⟩,⟨_,rfl,?_⟩,trivial⟩
     ·refine bB ?_;exact ad.bo (Il ())
     ·refine bQ (bC hF.fd) ?_;exact ad.bo (Ik ())
     refine bB ?_;exact ad.bo (Ij ())
    refine bn.cD (γ:=Unit) [0,1,2,3,4,6,7,8,9,10,11,12,31,44,45,46,47,48,49,50,51,52] 0 8 9 (cu 10 32) (λBu=>[(58,J.of s1.1)]) (λBu=>[]) (λBu=>[]) (λBu=>?_) (λSJ=>?_)
    ·refine bn.gD [0,2,3] ⟨⟨_,rfl,?_⟩,⟨_,rfl,?_⟩,⟨_,rfl,?_⟩,trivial⟩
     ·refine bQ (bC hF.fd) ?_;exact ad.bo (IG ())
     ·refine bB ?_;exact ad.bo (Io ())
     refine bQ (bC hF.fd) ?_;exact ad.bo (Im ())
    refine bn.cD (γ:=Unit) [0,1,2,3,4,6,7,8,9,10,11,12,31,44,45,46,47,48,49,50,51,52] 0 8 9 (cu 10 8) (λBv=>[(56,J.eq (.pointer (some ⟨br,0+1,none⟩)))]) (λBv=>[]) (λBv=>[]) (λBv=>?_) (λSK=>?_)
    ·refine bn.gD [0,2,4,5] ⟨⟨_,rfl,?_⟩,⟨_,rfl,?_⟩,⟨_,rfl,?_⟩,⟨_,rfl,?_⟩,trivial⟩
     ·refine bQ (bC hF.fd) ?_;exact ad.bo (IH ())
     ·refine bB ?_;exact ad.bo (IF ())
     ·refine gC 6 j2 gA ?_;exact ad.bo (RX ())
     refine bB ?_;exact ad.bo (Im ())
    refine bn.cD (γ:=Unit) [0,1,2,3,4,6,7,8,9,10,11,12,31,44,45,46,47,48,49,50,51,52] 0 8 9 (cu 10 4) (λBw=>[(55,J.of s1.1)]) (λBw=>[]) (λBw=>[]) (λBw=>?_) (λSL=>?_)
    ·refine bn.gD [0,3,5] ⟨⟨_,rfl,?_⟩,⟨_,rfl,?_⟩,⟨_,rfl,?_⟩,trivial⟩
     ·refine bQ (bC hF.fd) ?_;exact ad.bo (II ())
     ·refine bQ (bC hF.fd) ?_;exact ad.bo (IF ())
     refine bB ?_;exact ad.bo (Io ())
    refine bn.cD (γ:=Unit) [0,1,2,3,4,6,7,8,9,10,11,12,31,44,45,46,47,48,49,50,51,52] 0 8 9 (cu 10 1) (λBx=>[(53,J.eq (.pointer (some ⟨hS,0+1,none⟩)))]) (λBx=>[]) (λBx=>[]) (λBx=>?_) (λSM=>?_)
    ·refine bn.gD [1,2,3,5] ⟨⟨_,rfl,?_⟩,⟨_,rfl,?_⟩,⟨_,rfl,?_⟩,⟨_,rfl,?_⟩,trivial⟩
     ·refine bg (dn (i:=2) (q:=0) (β:=aO) (γ:=bN) gA (ag I) I I) ?_;exact ad.bo (SI ())
     ·refine bB ?_;exact ad.bo (II ())
     ·refine bQ (bC hF.fd) ?_;exact ad.bo (IH ())
     refine bB ?_;exact ad.bo (IG ())
    refine bn.gD [0,2,3,5] ⟨⟨_,rfl,?_⟩,⟨_,rfl,?_⟩,⟨_,rfl,?_⟩,⟨_,rfl,?_⟩,trivial⟩
    ·refine bQ (bC hF.fd) ?_;exact ad.bo (SM ())
    ·refine bB ?_;exact ad.bo (SL ())
    ·refine bQ (bC hF.fd) ?_;exact ad.bo (SK ())
    refine bB ?_;exact ad.bo (SJ ())
   have h:=fZ ak cc;refine ay.skip ?_;cases h;exact ef 0 (hm (g1.1,g1.2))
  refine ay.exit (aq.exit ?_);cases h;exact gN (g1.1,g1.2) 0
 refine aq.lz (aq.next (ay.seq (bU (bQ (bC Y9.fd) ?_))));refine gC 7 Pv IJ ?_;refine bQ (su underlying29) ?_;refine bB (b0 (ay.block ?_));refine aB h λaK ao h=>eY (γ:=Unit) (δ:=Unit) ao [0,1,2,3,4,6,7,8,9,10,11,31,44,45,46,64,65] (λs2 g3=>[(66,J.of s2.1)]) (λs2 g3=>[(2,⟨some hS,.bX s2.2 [(1,aH g1.1 ar.2.2.length g1.2)]⟩)]) (λb9=>Exit.exit 2) (λb9 g3=>[(66,J.of b9.1),(67,J.of b9.2.1)]) (λb9 g3=>[(2,⟨some hS,.bX b9.2.2 [(1,aH g1.1 ar.2.2.length g1.2)]⟩)]) () (λs2 r h g3=>?_) λg3=>?_
 ·refine bU (dA l2 (fW ?_));refine ki h (λh=>?_) λh=>?_
  ·refine jx (ay.seq (ay.block (bU (aB h λc0 iq h=>qY iq underlying29 tq ?_))));refine bQ (iD tq) ?_;refine lE BL λFe=>?_;refine rS 0 tq (fr ?_);refine bQ (bC ak1.fd) ?_;refine gC 0 Gf la ?_;refine bQ (su underlying59) ?_;refine bB (b0 (ay.block ?_));refine aB h λcr ao h=>eY (γ:=Unit) (δ:=Unit) ao [0,1,2,3,4,6,7,8,9,10,11,14,31,44,45,46,64,65,66,67,71,72] (λeA g4=>[(73,J.of eA.1)]) (λeA g4=>[(3,⟨some hS,.bX eA.2 [(1,aH g1.1 ar.2.2.length g1.2)]⟩)]) (λdM=>Exit.exit 4) (λdM g4=>[(73,J.of dM.1),(74,J.of dM.2.1)]) (λdM g4=>[(3,⟨some hS,.bX dM.2.2 [(1,aH g1.1 ar.2.2.length g1.2)]⟩)]) () (λeA r h g4=>?_) λg4=>?_
   ·refine bU (dA l2 (fW ?_));refine ki h (λh=>?_) λh=>?_
    ·refine jx (ay.seq (ay.block (bU (aB h λfR ve h=>qY ve underlying59 cd ?_))));refine bQ (iD cd) ?_;refine cS (fr ?_);refine bQ (bC ak2.fd) ?_;refine gC 0 G0 cd ?_;refine bB ?_;refine dA nA ?_;refine bB ?_;refine l8 dj ?_;refine l8 (bC oM.fd) ?_;refine iV (λhb=>gz (i:=7) ((aP.id aO).comp nV) (r:=aG.cq) cd (cW I hb) I I I) ?_;refine BZ nA ?_;refine l8 dj ?_;refine ad.gg (λhb=>dj (ag I)) I I I I I (ad.gg (λhb=>bC oM.fd (ag I)) I I I I I (ad.gg (λhb=>gz (i:=6) ((aP.id aO).comp nV) (r:=b5.cq) cd (cW I hb) I I I) I I I I I (ad.gg (λhb=>nA (cW I hb) (cW I hb)) I I I I I (iV (λhb=>BK (cW I hb) (ag I) (λh=>⟨hb,h⟩)) ?_))));refine aB h λbz en h=>kb en (x7 (ag I) (ag I) (λh=>h)) (b0 ?_);refine aB h λm2 dG h=>iJ (γ:=Unit) [0,1,2,3,4,6,7,8,9,10,11,14,16,31,44,45,46,64,65,66,67,71,72,73,74,92] (λg5=>[]) (λg5=>[(3,⟨some hS,.bX m2 [(1,aH g1.1 ar.2.2.length g1.2)]⟩)]) (λg5=>?_) (λhm ak=>?_) λhm ak=>?_
     ·refine aq.mW (aq.next (ay.eQ (dA jU ?_)));refine bB (ad.nil ?_);cases h;exact ia () 0
     ·have h:=fY ak dG;refine aB h λz2 jw h=>ay.MW mixed 8 (cu 8 0) I I (bn.cD (γ:=Unit) [0,1,2,3,4,6,7,8,9,10,11,14,16,31,44,45,46,64,65,66,67,71,72,73,74,75,76,77,78,79,80,81,82,83,84,85,86,87,88,89,90,91,92] 4 5 0 (cu 8 255) (λRs=>[]) (λRs=>[aZ Fe (av ab.cG c0:c9),⟨g1.1,.row 130 ar.2.2 g1.2⟩,⟨none,.row 130 ([]:aa bN) 0⟩,⟨some hS,.bX z2 [(1,aH g1.1 ar.2.2.length g1.2)]⟩]) (λRs=>[]) (λRs=>?_) (λamD=>?_))
      ·refine bn.last (by kernel_rfl) ?_;cases h;exact ef 0 (hm ())
      refine bn.cD (γ:=Unit) [0,1,2,3,4,6,7,8,9,10,11,14,16,31,44,45,46,64,65,66,67,71,72,73,74,75,76,77,78,79,80,81,82,83,84,85,86,87,88,89,90,91,92] 4 5 1 (cu 8 127) (λRt=>[(96,J.of aG.c3),(98,J.eq (.pointer (some ⟨hS,0+4,none⟩)))]) (λRt=>[aZ Fe (av ab.cG c0:c9),⟨g1.1,.row 130 ar.2.2 g1.2⟩,⟨none,.row 130 ([]:aa bN) 0⟩,⟨some hS,.bX ({eA.2 with cq:=aG.cq}:aO) [(1,aH g1.1 ar.2.2.length g1.2)]⟩]) (λRt=>[]) (λRt=>?_) (λamE=>?_)
      ·refine bn.s1 7 ?_
       ·refine ad.p5 (i:=3) ((aP.id aO).comp nt) (v:=aG.c3) (b':=z2) oT (ag I) (ag I) I I (di jw) (by rfl) ?_;exact ad.bo (amD ())
      refine bn.cD (γ:=Unit) [0,1,2,3,4,6,7,8,9,10,11,14,16,31,44,45,46,64,65,66,67,71,72,73,74,75,76,77,78,79,80,81,82,83,84,85,86,87,88,89,90,91,92] 4 5 2 (cu 8 63) (λRu=>[(96,J.of aG.c3)]) (λRu=>[aZ Fe (av ab.cG c0:c9),⟨g1.1,.row 130 ar.2.2 g1.2⟩,⟨none,.row 130 ([]:aa bN) 0⟩,⟨some hS,.bX ({eA.2 with cq:=aG.cq}:aO) [(1,aH g1.1 ar.2.2.length g1.2)]⟩]) (λRu=>[]) (λRu=>?_) (λZQ=>?_)
      ·refine bn.s1 6 ?_
       ·refine bQ (bC p6.fd) ?_;exact ad.bo (amE ())
      refine bn.cD (γ:=Unit) [0,1,2,3,4,6,7,8,9,10,11,14,16,31,44,45,46,64,65,66,67,71,72,73,74,75,76,77,78,79,80,81,82,83,84,85,86,87,88,89,90,91,92] 4 5 3 (cu 8 55) (λRv=>[(95,J.eq (.pointer (some ⟨br,0+4,none⟩)))]) (λRv=>[aZ Fe (av ab.cG c0:c9),⟨g1.1,.row 130 ar.2.2 g1.2⟩,⟨none,.row 130 ([]:aa bN) 0⟩,⟨some hS,.bX ({eA.2 with cq:=aG.cq}:aO) [(1,aH g1.1 ar.2.2.length g1.2)]⟩]) (λRv=>[]) (λRv=>?_) (λZR=>?_)
      ·refine bn.s1 3 ?_
       ·refine gC 7 nt oT ?_;exact ad.bo (ZQ ())
      refine bn.cD (γ:=Unit) [0,1,2,3,4,6,7,8,9,10,11,14,16,31,44,45,46,64,65,66,67,71,72,73,74,75,76,77,78,79,80,81,82,83,84,85,86,87,88,89,90,91,92] 0 9 3 (cu 8 31) (λRw=>[(94,J.of aG.cq),(96,J.of aG.c3),(97,J.eq (.pointer (some ⟨hS,0+3,none⟩)))]) (λRw=>[]) (λRw=>[]) (λRw=>?_) (λZS=>?_)
      ·refine bn.s1 5 ?_
       ·refine ad.p5 (i:=3) ((aP.id aO).comp nV) (v:=aG.cq) (b':=({eA.2 with cq:=aG.cq}:aO)) cd (ag I) (ag I) I I I (by rfl) ?_;exact ad.bo (ZQ ())
      refine bn.cD (γ:=Unit) [0,1,2,3,4,6,7,8,9,10,11,14,16,31,44,45,46,64,65,66,67,71,72,73,74,75,76,77,78,79,80,81,82,83,84,85,86,87,88,89,90,91,92] 4 5 4 (cu 8 51) (λRx=>[]) (λRx=>[aZ Fe (av ab.cG c0:c9),⟨g1.1,.row 130 ar.2.2 g1.2⟩,⟨none,.row 130 ([]:aa bN) 0⟩,⟨some hS,.bX ({eA.2 with cq:=aG.cq}:aO) [(1,aH g1.1 ar.2.2.length g1.2)]⟩]) (λRx=>[]) (λRx=>?_) (λamF=>?_)
      ·refine bn.s1 2 ?_
       ·refine bQ (bC p6.fd) ?_;exact ad.bo (ZR ())
      refine bn.cD (γ:=Unit) [0,1,2,3,4,6,7,8,9,10,11,14,16,31,44,45,46,64,65,66,67,71,72,73,74,75,76,77,78,79,80,81,82,83,84,85,86,87,88,89,90,91,92] 0 9 4 (cu 8 23) (λRy=>[(94,J.of aG.cq),(95,J.eq (.pointer (some ⟨br,0+4,none⟩))),(97,J.eq (.pointer (some ⟨hS,0+3,none⟩)))]) (λRy=>[]) (λRy=>[]) (λRy=>?_) (λZT=>?_)
      ·refine bn.s2 3 5 ?_ ?_
       ·refine gC 7 nt oT ?_;exact ad.bo (ZS ())
       refine ad.p5 (i:=3) ((aP.id aO).comp nV) (v:=aG.cq) (b':=({eA.2 with cq:=aG.cq}:aO)) cd (ag I) (ag I) I I I (by rfl) ?_;exact ad.bo (ZR ())
      refine bn.cD (γ:=Unit) [0,1,2,3,4,6,7,8,9,10,11,14,16,31,44,45,46,64,65,66,67,71,72,73,74,75,76,77,78,79,80,81,82,83,84,85,86,87,88,89,90,91,92] 0 9 4 (cu 8 15) (λRY=>[(94,J.of aG.cq),(96,J.of aG.c3)]) (λRY=>[]) (λRY=>[]) (λRY=>?_) (λabl=>?_)
      ·refine bn.s1 4 ?_
       ·refine bQ (bC oM.fd) ?_;exact ad.bo (ZS ())
      refine bn.cD (γ:=Unit) [0,1,2,3,4,6,7,8,9,10,11,14,16,31,44,45,46,64,65,66,67,71,72,73,74,75,76,77,78,79,80,81,82,83,84,85,86,87,88,89,90,91,92] 0 9 5 (cu 8 13) (λRZ=>[(93,J.eq (.pointer (some ⟨br,0+3,none⟩))),(96,J.of aG.c3)]) (λRZ=>[]) (λRZ=>[]) (λRZ=>?_) (λabm=>?_)
      ·refine bn.s1 1 ?_
       ·refine gC 7 nV cd ?_;exact ad.bo (abl ())
      refine bn.cD (γ:=Unit) [0,1,2,3,4,6,7,8,9,10,11,14,16,31,44,45,46,64,65,66,67,71,72,73,74,75,76,77,78,79,80,81,82,83,84,85,86,87,88,89,90,91,92] 0 9 5 (cu 8 19) (λR0=>[(94,J.of aG.cq),(97,J.eq (.pointer (some ⟨hS,0+3,none⟩)))]) (λR0=>[]) (λR0=>[]) (λR0=>?_) (λapW=>?_)
      ·refine bn.s2 2 5 ?_ ?_
       ·refine bQ (bC p6.fd) ?_;exact ad.bo (ZT ())
       refine ad.p5 (i:=3) ((aP.id aO).comp nV) (v:=aG.cq) (b':=({eA.2 with cq:=aG.cq}:aO)) cd (ag I) (ag I) I I I (by rfl) ?_;exact ad.bo (amF ())
      refine bn.cD (γ:=Unit) [0,1,2,3,4,6,7,8,9,10,11,14,16,31,44,45,46,64,65,66,67,71,72,73,74,75,76,77,78,79,80,81,82,83,84,85,86,87,88,89,90,91,92] 0 9 5 (cu 8 7) (λR1=>[(94,J.of aG.cq),(95,J.eq (.pointer (some ⟨br,0+4,none⟩)))]) (λR1=>[]) (λR1=>[]) (λR1=>?_) (λabn=>?_)
      ·refine bn.s2 3 4 ?_ ?_
       ·refine gC 7 nt oT ?_;exact ad.bo (abl ())
       refine bQ (bC oM.fd) ?_;exact ad.bo (ZT ())
      refine bn.cD (γ:=Unit) [0,1,2,3,4,6,7,8,9,10,11,14,16,31,44,45,46,64,65,66,67,71,72,73,74,75,76,77,78,79,80,81,82,83,84,85,86,87,88,89,90,91,92] 0 9 6 (cu 8 12) (λu2=>[(96,J.of aG.c3)]) (λu2=>[]) (λu2=>[]) (λu2=>?_) (λNw=>?_)
      ·refine bn.s1 0 ?_
       ·refine bQ (bC oM.fd) ?_;exact ad.bo (abm ())
      refine bn.cD (γ:=Unit) [0,1,2,3,4,6,7,8,9,10,11,14,16,31,44,45,46,64,65,66,67,71,72,73,74,75,76,77,78,79,80,81,82,83,84,85,86,87,88,89,90,91,92] 0 9 6 (cu 8 5) (λBy=>[(93,J.eq (.pointer (some ⟨br,0+3,none⟩))),(95,J.eq (.pointer (some ⟨br,0+4,none⟩)))]) (λBy=>[]) (λBy=>[]) (λBy=>?_) (λIK=>?_)
      ·refine bn.s2 1 3 ?_ ?_
       ·refine gC 7 nV cd ?_;exact ad.bo (abn ())
       refine gC 7 nt oT ?_;exact ad.bo (abm ())
      refine bn.cD (γ:=Unit) [0,1,2,3,4,6,7,8,9,10,11,14,16,31,44,45,46,64,65,66,67,71,72,73,74,75,76,77,78,79,80,81,82,83,84,85,86,87,88,89,90,91,92] 0 9 6 (cu 8 3) (λu3=>[(94,J.of aG.cq)]) (λu3=>[]) (λu3=>[]) (λu3=>?_) (λSN=>?_)
      ·refine bn.s2 2 4 ?_ ?_
       ·refine bQ (bC p6.fd) ?_;exact ad.bo (abn ())
       refine bQ (bC oM.fd) ?_;exact ad.bo (apW ())
      refine bn.cD (γ:=Unit) [0,1,2,3,4,6,7,8,9,10,11,14,16,31,44,45,46,64,65,66,67,71,72,73,74,75,76,77,78,79,80,81,82,83,84,85,86,87,88,89,90,91,92] 0 9 7 (cu 8 4) (λBz=>[(95,J.eq (.pointer (some ⟨br,0+4,none⟩)))]) (λBz=>[]) (λBz=>[]) (λBz=>?_) (λSO=>?_)
      ·refine bn.s2 0 3 ?_ ?_
       ·refine bQ (bC oM.fd) ?_;exact ad.bo (IK ())
       refine gC 7 nt oT ?_;exact ad.bo (Nw ())
      refine bn.cD (γ:=Unit) [0,1,2,3,4,6,7,8,9,10,11,14,16,31,44,45,46,64,65,66,67,71,72,73,74,75,76,77,78,79,80,81,82,83,84,85,86,87,88,89,90,91,92] 0 9 7 (cu 8 1) (λBA=>[(93,J.eq (.pointer (some ⟨br,0+3,none⟩)))]) (λBA=>[]) (λBA=>[]) (λBA=>?_) (λSP=>?_)
      ·refine bn.s2 1 2 ?_ ?_
       ·refine gC 7 nV cd ?_;exact ad.bo (SN ())
       refine bQ (bC p6.fd) ?_;exact ad.bo (IK ())
      refine bn.s2 0 2 ?_ ?_
      ·refine bQ (bC oM.fd) ?_;exact ad.bo (SP ())
      refine bQ (bC p6.fd) ?_;exact ad.bo (SO ())
     have h:=fZ ak dG;refine ay.skip ?_;cases h;exact ef 0 (hm ())
    refine ay.exit (aq.exit ?_);cases h;exact gN () 0
   refine aq.lz (aq.mW (aq.next (ay.eQ (dA jU ?_))));refine bB (ad.nil ?_);cases h;exact ia () 1
  refine ay.exit (aq.exit ?_);cases h;exact gN () 0
 refine aq.lz (aq.next (bU (ad.kF (β:=aO) (γ:=bN) (b':=({aK.2.2 with bs:=ar.2.2}:aO)) ((aP.id aO).comp j2) 2 0 0 I I I I I I (ad.n3 2 I (lf 2 il ?_)))));refine rS 4 il (b0 (ay.ret ?_));cases h;exact aq.Nv I (EK 4 il)
end Go.Proofs.YtlkieppifclacaaGreat
