/-
  Each function meets its functional program. Conditions: none.
-/
import Derived.Test.YtppgfphgdogpeaaGreatUd
set_option linter.defProp false
set_option linter.unusedVariables false
set_option linter.unusedSimpArgs false
set_option maxRecDepth 100000
set_option maxHeartbeats 2000000
namespace Go.Proofs.YtppgfphgdogpeaaGreat
open Go Gv Go.Proofs.Tryz
attribute [local irreducible] ag ay an bj aU ea eO eV J.of J.ptr J.eq J.cond J.bT
def PR{ab ai r}(h:Ar ab ai=some r):bN prog 7 [J.of ab,J.of ai] [] (δ:=Nat) (λd=>J.cN d) (λd=>[aJ d r]):=by
 unfold Ar at h;refine bN.of func7 I ntmps7 I λW A=>b5 (bx (dk (H9 (.pointer none))) ?_);refine aO ?_;refine aA h λao br h=>bx (AN underlying22 acP (ah I) .none (.some (ah I)) br) ?_;refine aO λbk=>?_;refine an.bw 0 I ?_;cases h;exact sr bk
def af9{ab bY r}(h:Ld ab=some r):nL prog 11 [J.cN bY] bY ab (J.of r) ab:=by
 unfold Ld at h;refine bN.of func11 I ntmps11 I λW A=>?_;refine aO ?_;refine ay.fy 10 ?_;exact go
def afL{ab ai r}(h:K6 ab ai=some r):dz prog 124 [J.of ab,J.ptr ai] (J.of r):=by
 unfold K6 at h;refine dz.of func124 I ntmps124 I λW A=>?_;exact go
def aex{ab ai r}(h:FE ab ai=some r):dz prog 123 [J.of ab,J.Bw prog ai] (J.of r):=by
 unfold FE at h;refine dz.of func123 I ntmps123 I λW A=>?_;refine aO ?_;refine aA h λar al h=>fh (γ:=Unit) (δ:=Unit) al [0,1,7] (λs1 g1=>[(4,J.of (0:Int)),(8,J.of s1)]) (λs1 g1=>[]) (λaw=>Sum.elim (λaw=>Exit.exit 0) (λaw=>Exit.ret) aw) (λaw g1=>Sum.elim (λaw=>[(4,J.of (0:Int)),(8,J.of aw.1),(9,J.of aw.2)]) (λaw=>[(4,J.of aw.1),(5,J.of aw.2.1),(8,J.of aw.2.2.1),(9,J.of aw.2.2.2.1),(16,J.of aw.2.2.2.2)]) aw) (λaw g1=>[]) () (λs1 r h g1=>?_) λg1=>?_
 ·refine aO (λaI cQ h=>?_);refine aA h λao br h=>bx (LW (ah I) (ah I) br) ?_;exact go
 rcases ar with ar|ar
 ·simp only[Sum.elim_inl]at h;exact go
 simp only[Sum.elim_inr]at h;exact go
instance:lW prog 91 _ _ DC J.of (λr=>J.bT [J.of r.1,J.of r.2]):=.i func91 I ntmps91 I λab r h W A=>by
 unfold DC at h;refine aO λbk=>?_;refine aA h λar al h=>fh (γ:=Unit) (δ:=Unit) al [0,1,2,3,9,10] (λs1 g1=>[(4,J.of s1.1),(5,J.of s1.2.1),(11,J.of s1.2.2)]) (λs1 g1=>[]) (λaw=>Exit.exit 0) (λaw g1=>[(4,J.of aw.1),(5,J.of aw.2.1),(11,J.of aw.2.2.1),(12,J.of aw.2.2.2)]) (λaw g1=>[]) () (λs1 r h g1=>?_) λg1=>?_
 ·refine aO (λaI cQ bo h=>?_);refine aA h λm1 bR h=>il (γ:=Unit) [0,1,2,3,6,7,9,10,11,12,17,18] (λg2=>[(4,J.of m1.1),(5,J.of m1.2)]) (λg2=>[]) (λg2=>?_) (λhm ae=>?_) λhm ae=>?_
  ·exact go
  ·have h:=fp ae bR;exact go
  have h:=fq ae bR;refine aO ?_;refine aA h λm2 c6 h=>il (γ:=Unit) [0,1,2,3,6,7,9,10,11,12,17,18,20] (λg3=>[(4,J.of m2.1),(5,J.of m2.2)]) (λg3=>[]) (λg3=>?_) (λhm ae=>?_) λhm ae=>?_
  ·exact go
  ·have h:=fp ae c6;exact go
  have h:=fq ae c6;exact go
 exact go
def ag6{hp Q}(h:Lz hp Q):lB prog 92 [] hp Q:=by
 unfold Lz at h;refine bN.of func92 I ntmps92 I λW A=>b5 (bx (dk o5) (iy ?_));refine ag.Ia (α:=Vector aN 4) (β:=Int) 0 I (Cell.rE ([]:aa ((Vector aN 4)×Int))) (λ_=>rfl) I λbX qK=>?_;replace h:=aj.qu h bX qK;refine uG amA amB {vE:=(⟨some bX.1⟩:fl):sZ} (ss V6 .nil) ?_;refine ag.yG 0 I (Cell.Ey ({vE:=(⟨some bX.1⟩:fl):sZ})) (λ_=>rfl) (ah I) I λa2 po=>?_;replace h:=aj.qu h a2 po;refine dg (ch (ay.ret ?_));exact an.eG (⟨⟨((some a2.1:Ref),a2.2),h⟩,()⟩: {r // _}×_) (.refl _) I I (du I)
def afM{ab ai r}(h:K7 ab ai=some r):dz prog 126 [J.of ab,J.ptr ai] (J.of r):=by
 unfold K7 at h;refine dz.of func126 I ntmps126 I λW A=>?_;exact go
def aey{ab ai r}(h:FF ab ai=some r):dz prog 125 [J.of ab,J.Bw prog ai] (J.of r):=by
 unfold FF at h;refine dz.of func125 I ntmps125 I λW A=>?_;refine aO ?_;refine aA h λar al h=>fh (γ:=Unit) (δ:=Unit) al [0,1,7] (λs1 g1=>[(4,J.of (0:Int)),(8,J.of s1)]) (λs1 g1=>[]) (λaw=>Sum.elim (λaw=>Exit.exit 0) (λaw=>Exit.ret) aw) (λaw g1=>Sum.elim (λaw=>[(4,J.of (0:Int)),(8,J.of aw.1),(9,J.of aw.2)]) (λaw=>[(4,J.of aw.1),(5,J.of aw.2.1),(8,J.of aw.2.2.1),(9,J.of aw.2.2.2.1),(16,J.of aw.2.2.2.2)]) aw) (λaw g1=>[]) () (λs1 r h g1=>?_) λg1=>?_
 ·refine aO (λaI cQ h=>?_);refine aA h λao br h=>bx (LW (ah I) (ah I) br) ?_;exact go
 rcases ar with ar|ar
 ·simp only[Sum.elim_inl]at h;exact go
 simp only[Sum.elim_inr]at h;exact go
def agt{ab r}(h:PB ab=some r):bN prog 94 [J.of ab] [] (δ:=Nat×(aD Nat×Nat)) (λd=>J.cN d.1) (λd=>[⟨some d.1,.cw ({r with cz:=[]}:eh) [(10,aP d.2.1 r.cz.length d.2.2)]⟩,⟨d.2.1,.row 54 r.cz d.2.2⟩]):=by
 unfold PB at h;refine bN.of func94 I ntmps94 I λW A=>b5 (mv λbk=>?_);refine bx (dk o5) (iy ?_);refine oL 0 pW ?_;refine bx (ue (b:=({(default:eh)with mj:=ab}:eh)) [10] aje I amC amD (.cons OL I (ah I) I (by rfl) (.nil))) ?_;refine ag.own (α:=aH) 54 (ag.abv (ah I) I λbo=>dg (ch (ay.ret ?_)));refine an.Nw (γ:=aH) (b':=({({(default:eh)with mj:=ab}:eh)with cz:=[]}:eh)) ((aQ.id eh).comp C3) 0 0 I I I (an.bw 1 I (an.bw 1 I ?_));cases h;exact sr (bo,(none,0))
def ahB{hp ab Q}(h:LI hp ab Q):lB prog 29 [J.of ab] hp Q:=by
 unfold LI at h;refine bN.of func29 I ntmps29 I λW A=>b5 (mv λbk=>?_);refine bx (dk o5) ?_;refine aO ?_;refine ag.Ia (α:=cx) (β:=k0) 1 I (Cell.tq ([]:aa (cx×k0))) (λ_=>rfl) I λbX qK=>?_;replace h:=aj.qu h bX qK;refine uG amE amF {mj:=ab,iM:=(⟨some bX.1⟩:fl):rl} (ss VL (ss VM .nil)) ?_;refine ag.yG 1 I (Cell.Bi ({mj:=ab,iM:=(⟨some bX.1⟩:fl):rl})) (λ_=>rfl) (ah I) I λa2 po=>?_;replace h:=aj.qu h a2 po;refine dg (ch (ay.ret ?_));exact an.eG (⟨⟨((some a2.1:Ref),a2.2),h⟩,()⟩: {r // _}×_) (fO 1) I I (du I)
def ag7{hp ab Q}(h:LA hp ab Q):lB prog 30 [J.of ab] hp Q:=by
 unfold LA at h;refine bN.of func30 I ntmps30 I λW A=>b5 (mv λbk=>?_);refine bx (dk o5) ?_;refine aO ?_;refine aj.bH h λao br h=>bx (AN underlying29 w1 (ah I) .none (.some (ah I)) br) ?_;refine uG amG amH ({(default:jP)with nX:=ao}:jP) (ss OM .nil) ?_;refine ag.yG 1 I (Cell.tr ({(default:jP)with nX:=ao}:jP)) (λ_=>rfl) (ah I) I λbX qK=>?_;replace h:=aj.qu h bX qK;refine dg (ch (ay.ret ?_));exact an.eG (⟨⟨((some bX.1:Ref),bX.2),h⟩,()⟩: {r // _}×_) (fO 1) I I (du I)
def ag8{ab r}(h:PS ab=some r):bN prog 10 [J.of ab] [] (δ:=Nat) (λd=>J.cN d) (λd=>[aJ d r]):=by
 unfold PS at h;refine bN.of func10 I ntmps10 I λW A=>b5 (mv λbk=>?_);refine bx (dk (H9 (.pointer none))) ?_;refine aO λbp ev bo h=>?_;refine an.bw 0 I ?_;cases h;exact sr bo
def afp{ab r}(h:Gu ab=some r):dz prog 11 [J.ptr ab] (J.of r):=by
 unfold Gu at h;refine dz.of func11 I ntmps11 I λW A=>?_;refine aO ?_;refine ay.fy 10 ?_;exact go
instance acQ:fk prog 58 _ _ _ DP J.of J.of J.of:=.i func58 I ntmps58 I λab ai r h W A=>by
 unfold DP at h;exact go
instance:fk prog 171 _ _ _ Kw J.of J.of J.of:=.i func171 I ntmps171 I λab ai r h W A=>by
 unfold Kw at h;refine aO λbk=>?_;refine aA h λar al h=>fh (γ:=Unit) (δ:=Unit) al [0,1,3,7] (λs1 g1=>[(4,J.of (0:Int)),(8,J.of s1)]) (λs1 g1=>[]) (λaw=>Sum.elim (λaw=>Exit.exit 0) (λaw=>Exit.ret) aw) (λaw g1=>Sum.elim (λaw=>[(4,J.of (0:Int)),(8,J.of aw.1),(9,J.of aw.2)]) (λaw=>[(4,J.of aw.1),(5,J.of aw.2.1),(8,J.of aw.2.2.1),(9,J.of aw.2.2.2.1),(16,J.of aw.2.2.2.2)]) aw) (λaw g1=>[]) () (λs1 r h g1=>?_) λg1=>?_
 ·refine aO (λh=>?_);refine aA h λaI cQ h=>ay.fy 6 ?_;exact go
 rcases ar with ar|ar
 ·simp only[Sum.elim_inl]at h;exact go
 simp only[Sum.elim_inr]at h;exact go
def ON{ab ai bY iO iP r}(h:zN ab ai=some r):bN prog 68 [J.cN bY,J.of ai] [⟨some bY,.cw ({ab with hM:=[]}:gn) [(3,aP iO ab.hM.length iP)]⟩,⟨iO,.row 110 ab.hM iP⟩] (δ:=(aD Nat×Nat)) (λd=>J.bT []) (λd=>[⟨some bY,.cw ({r with hM:=[]}:gn) [(3,aP d.1 r.hM.length d.2)]⟩,⟨d.1,.row 110 r.hM d.2⟩]):=by
 unfold zN at h;refine bN.of func68 I ntmps68 I λW A=>?_;refine aO ?_;refine bx (h0 (i:=0) (q:=0) (β:=gn) (γ:=gm) yH (ah I) I I) ?_;refine aO ?_;refine aA h λao br h=>iQ 1 underlying91 MK amI br λei dR=>?_;refine aO ?_;refine ag.j3 (i:=0) (γ:=gm) (b':=({ab with hM:=[]}:gn)) (os':=[(3,aP ei ao.length dR)]) ((aQ.id gn).comp Kx) yH (ah I) (ah I) jo I I I I (ag.nil (an.lv (an.bw 1 I (an.bw 1 I ?_))));cases h;exact an.nu (ei,dR) (.cons_cons _ (.cons_cons _ (q9 _))) I I
def Pp{ab bY r}(h:xW ab=some r):bN prog 16 [J.cN bY] [aJ bY ab] (δ:=Nat) (λd=>J.cN d) (λd=>[aJ bY ab,aJ d r]):=by
 unfold xW at h;refine bN.of func16 I ntmps16 I λW A=>b5 (bx (dk (H9 (.pointer none))) (hh ?_));refine aA h λao br h=>ay.mW 2 (er [0] ?_);refine ay.ck 3 (aC 3 [] [] _::aC 4 [0] [] _::aC 5 [1] [] _::aC 6 [2] [0] _::⟨some 7,[],[1],[1],λhd=>J.eq (aP (hd 4 0) ([]:aa aH).length 0),λhd _=>⟨(hd 4 0),.row 54 ([]:aa aH) 0⟩⟩::aC 8 [] [] _::aC 9 [5] [] _::aC 10 [6] [] _::aC 11 [7] [0] _::⟨some 12,[4,8],[1],[1],λhd=>J.eq (aP (hd 9 0) ao.length ((hd 9 1).getD 0)),λhd _=>⟨(hd 9 0),.row 54 ao ((hd 9 1).getD 0)⟩⟩::aC 13 [] [] _::aC 14 [10] [] _::aC 15 [11] [] _::aC 16 [12] [0] _::⟨some 17,[3,4,9,13],[1],[1],λ_=>J.of ({gT:=ab.gT,bE:=ao,h6:=ab.h6:cn}),λhd _=>⟨none,.dead⟩⟩::⟨some 18,[14],[2],[2],λhd=>J.cN ((hd 15 0).getD 0),λhd _=>aJ ((hd 15 0).getD 0) ({gT:=ab.gT,bE:=ao,h6:=ab.h6:cn}:cn)⟩::⟨some 2,[15],[],[],λhd=>J.cN ((hd 15 0).getD 0),λ_ _=>⟨none,.dead⟩⟩::[]) (dO ?_ (dO ?_ (dO ?_ (dO ?_ (dO ?_ h9))))) (λcR=>?_)
 ·intro hd E' L' aF av cc;exact ag.rF (α:=aH) (r:=([]:aa aH)) underlying43 eC k4 I I (.nil) I λei=>ag.nil (an.place 1 (av 1 _ I I) (an.fin (cX [ei]) I I))
 ·intro hd E' L' aF av cc;refine ag.app (i:=1) underlying43 eC k4 (bytes:=88) (by kernel_rfl) (ah (aF _ _ I)) (av 1 _ I I) (ah (aF _ _ I)) br I λjU dR=>?_;exact ag.nil (an.fin (cX [jU,some dR]) I I)
 ·intro hd E' L' aF av cc;refine ag.qe (eD.hE (i:=1) (s:=12) (aF _ _ I) (av 1 _ I I) (eD.aG (kC (b:= {gT:=ab.gT,bE:=ao,h6:=ab.h6:cn}) I apE apF (.cons Ad I (ah (aF _ _ I)) I (.cons xX I (ah I) I (.cons GV I (ah (aF _ _ I)) I (.nil))))))) I I I λ_=>ag.nil ?_;exact an.fin (cX []) I I
 ·intro hd E' L' aF av cc;exact ag.box (z:=({gT:=ab.gT,bE:=ao,h6:=ab.h6:cn}:cn)) (ah (aF _ _ I)) I λbk=>ag.nil (an.place 2 (av 2 _ I I) (an.fin (cX [some bk]) I I))
 ·intro hd E' L' aF av cc;refine bx (dk (ah (aF _ _ I))) (ag.nil ?_);exact an.fin (cX []) I I
 refine an.dq (L2:=[aJ bY ab,⟨none,.dead⟩,aJ ((cR 15 0).getD 0) ({gT:=ab.gT,bE:=ao,h6:=ab.h6:cn}:cn)]) I (e8 ?_);refine an.bw 1 I (an.bw 2 I (an.next (ay.ret (an.bw 0 I (an.bw 2 I ?_)))));cases h;exact sr ((cR 15 0).getD 0)
instance:fk prog 117 _ _ _ Hp J.of J.of J.of:=.i func117 I ntmps117 I λab ai r h W A=>by
 unfold Hp at h;refine aO λbk bo=>?_;refine bx (dk (look_nil (α:=eT))) (iy ?_);refine ag.own (α:=eT) 127 (bx (dk ml) ?_);refine aO ?_;refine aA h λar al h=>fh (γ:=(aD Nat×Nat)) (δ:=(aD Nat×Nat)) al [0,1,2,3,4,9,10] (λs1 g1=>[(5,J.eq (aP g1.1 s1.2.length g1.2)),(11,J.of s1.1)]) (λs1 g1=>[(0,⟨g1.1,.row 127 s1.2 g1.2⟩)]) (λaw=>Exit.exit 0) (λaw g1=>[(5,J.eq (aP g1.1 aw.2.2.length g1.2)),(11,J.of aw.1),(12,J.of aw.2.1)]) (λaw g1=>[(0,⟨g1.1,.row 127 aw.2.2 g1.2⟩)]) (none,0) (λs1 r h g1=>?_) λg1=>?_
 ·refine go2 (λaI cQ b2 h=>?_) (λh=>?_)
  ·refine aA h λm1 bR h=>il (γ:=(aD Nat×Nat)) [0,1,2,3,4,7,9,10,11,12,15] (λg2=>[(5,J.eq (aP g2.1 m1.length g2.2))]) (λg2=>[(1,⟨g2.1,.row 127 m1 g2.2⟩)]) (λg2=>?_) (λhm ae=>?_) λhm ae=>?_
   ·refine aO ?_;cases h;exact hi (g2.1,g2.2) 1
   ·have h:=fp ae bR;refine ay.skip ?_;cases h;exact dU 0 (hm (g1.1,g1.2))
   have h:=fq ae bR;refine aO ?_;refine aA h λm2 c6 h=>il (γ:=(aD Nat×Nat)) [0,1,2,3,4,7,9,10,11,12,15,21] (λg3=>[(5,J.eq (aP g3.1 m2.length g3.2))]) (λg3=>[(1,⟨g3.1,.row 127 m2 g3.2⟩)]) (λg3=>?_) (λhm ae=>?_) λhm ae=>?_
   ·cases h;exact dU 0 (hm (g3.1,g3.2))
   ·have h:=fp ae c6;refine aA h λbu c0 h=>aA h λbp ev h=>ay.fy 14 ?_;refine aA h λao br h=>iQ 1 underlying119 pQ Ej br λei dR=>?_;refine dg (ag.nil ?_);cases h;exact dU 0 (hm (ei,dR))
   have h:=fq ae c6;refine aO ?_;refine aA h λm3 fZ h=>il (γ:=(aD Nat×Nat)) [0,1,2,3,4,7,9,10,11,12,15,21,40] (λg4=>[(5,J.eq (aP g4.1 m3.length g4.2))]) (λg4=>[(1,⟨g4.1,.row 127 m3 g4.2⟩)]) (λg4=>?_) (λhm ae=>?_) λhm ae=>?_
   ·cases h;exact dU 0 (hm (g4.1,g4.2))
   ·have h:=fp ae fZ;refine aA h λcB gr h=>aA h λz2 hj h=>ay.fy 13 ?_;refine aA h λaE bZ h=>iQ 1 underlying119 pQ Ej bZ λjU mq=>?_;refine dg (ag.nil ?_);cases h;exact dU 0 (hm (jU,mq))
   have h:=fq ae fZ;refine ay.skip ?_;cases h;exact dU 0 (hm (g1.1,g1.2))
  cases h;exact gu (g1.1,g1.2) 0
 refine aO ?_;exact an.kg (α:=eT) 0 [4,5,61] ⟨rfl,rfl,rfl,trivial⟩ I go
instance:fk prog 119 _ _ _ G7 J.of J.of J.of:=.i func119 I ntmps119 I λab ai r h W A=>by
 unfold G7 at h;refine aO λbk bo=>?_;refine bx (dk (look_nil (α:=eT))) (iy ?_);refine ag.own (α:=eT) 127 (bx (dk ml) ?_);refine aO ?_;refine aA h λar al h=>fh (γ:=(aD Nat×Nat)) (δ:=(aD Nat×Nat)) al [0,1,2,3,4,13,14] (λs1 g1=>[(5,J.eq (aP g1.1 s1.2.length g1.2)),(15,J.of s1.1)]) (λs1 g1=>[(0,⟨g1.1,.row 127 s1.2 g1.2⟩)]) (λaw=>Exit.exit 0) (λaw g1=>[(5,J.eq (aP g1.1 aw.2.2.length g1.2)),(15,J.of aw.1),(16,J.of aw.2.1)]) (λaw g1=>[(0,⟨g1.1,.row 127 aw.2.2 g1.2⟩)]) (none,0) (λs1 r h g1=>?_) λg1=>?_
 ·refine acR (λaI cQ b2 h=>?_) (λaI cQ b2 h=>?_) (λh=>?_)
  ·cases h;exact hi (g1.1,g1.2) 1
  ·refine aA h λbu c0 h=>aA h λbp ev h=>ay.mW 1 (er [0,1,2,3,4,5,7,13,14,15,16,17,18,19,20,21,22,23] ?_);refine ay.rT 5 (aC 24 [] [] _::aC 25 [0] [0] _::aC 26 [] [] _::aC 27 [2] [0] _::aC 28 [] [] _::aC 29 [4] [2] _::aC 30 [] [] _::aC 31 [6] [0] _::aC 32 [5,7] [] _::aC 33 [8] [] _::aC 34 [9] [] _::aC 35 [1,3,10] [] _::p2 8 [] 4 12 _::fz [11,12] [4] [4] (λhd=>aJ ((hd 12 0).getD 0) bp)::[]) (λcR=>?_);refine an.dq (L2:=[aJ b2 (ax ab.di aI:fD),⟨g1.1,.row 127 s1.2 g1.2⟩,aJ bo ai,aJ bk ab,aJ ((cR 12 0).getD 0) bp]) I (e8 ?_);refine an.bw 4 I (aO ?_);refine bx (qy (i:=2) underlying119 (ah I) I I) ?_;refine cS (ch (ay.block ?_));refine aA h λaS al h=>fh (γ:=Unit) (δ:=Unit) al [0,1,2,3,4,5,7,8,13,14,15,16,23,36,37] (λs2 g2=>[(9,J.of s2.1),(38,J.of s2.2)]) (λs2 g2=>[]) (λcH=>Exit.exit 2) (λcH g2=>[(9,J.of cH.1),(38,J.of cH.2.1),(39,J.of cH.2.2)]) (λcH g2=>[]) () (λs2 r h g2=>?_) λg2=>?_
   ·refine aO (λh=>?_);refine aA h λcB gr h=>bx (mo (i:=2) (k:=cB) (xs:=(s1.2:aa eT)) underlying119 pQ (ah I) (ah I) I (cK gr)) ?_;refine bx (qv (i:=2) (k:=cB) (aQ.id eT) (r:=(ax s1.2 cB)) pQ (ah I) I (cK gr).1 I I) ?_;exact go
   refine aO ?_;refine aA h λm1 bR h=>il (γ:=(aD Nat×Nat)) [0,1,2,3,4,7,8,9,13,14,15,16,23,37,38,39,50] (λg3=>[(5,J.eq (aP g3.1 m1.length g3.2))]) (λg3=>[(2,⟨g3.1,.row 127 m1 g3.2⟩)]) (λg3=>?_) (λhm ae=>?_) λhm ae=>?_
   ·refine aO ?_;cases h;exact hi (g3.1,g3.2) 2
   ·have h:=fp ae bR;refine aO ?_;refine aA h λao br h=>iQ 2 underlying119 pQ Ej br λei dR=>?_;refine dg (ag.nil ?_);cases h;exact dU 0 (hm (ei,dR))
   have h:=fq ae bR;refine ay.skip ?_;cases h;exact dU 0 (hm (g1.1,g1.2))
  cases h;exact gu (g1.1,g1.2) 0
 refine aO ?_;exact an.kg (α:=eT) 0 [4,5,56] ⟨rfl,rfl,rfl,trivial⟩ I go
def OO{ab bY iO iP r}(h:zO ab=some r):bN prog 21 [J.cN bY] [⟨some bY,.cw ({ab with hM:=[]}:gn) [(3,aP iO ab.hM.length iP)]⟩,⟨iO,.row 110 ab.hM iP⟩] (δ:=Unit) (λd=>J.of r) (λd=>[⟨some bY,.cw ({ab with hM:=[]}:gn) [(3,aP iO ab.hM.length iP)]⟩,⟨iO,.row 110 ab.hM iP⟩]):=by
 unfold zO at h;refine bN.of func21 I ntmps21 I λW A=>?_;refine aO ?_;refine bx (Ib underlying36 (ah I)) (ch ?_);refine ay.wT (ah I) I (aO ?_);refine bx (h0 (i:=0) (q:=0) (β:=gn) (γ:=gm) yH (ah I) I I) ?_;refine bx (qy (i:=1) underlying91 (ah I) I I) ?_;refine dg (ch (ay.ret ?_));refine an.bw 1 I (an.bw 1 I ?_);cases h;exact sr ()
def aeL{ai J1 r}(h:OU ai=some r):dz prog 264 [J.eq (.pointer J1),J.of ai] (J.lx 270 [J.zm (J.eq (.pointer J1)),J.ptr r]):=by
 unfold OU at h;refine dz.of func264 I ntmps264 I λW A=>b5 (ag.apG (ah I) ake I (mv λbo=>?_));refine bx (dk (H9 .nilFunc)) (iy ?_);refine ag.share (α:=Vector aN 4) 0 3 I I (bx (Ip (f:=270) (τs:=[J.zm (J.eq (.pointer J1)),J.ptr ai]) ⟨ah I,ah I,trivial⟩) ?_);exact go
instance abw:lW prog 186 _ _ Hs J.of J.of:=.i func186 I ntmps186 I λab r h W A=>by
 unfold Hs at h;refine aO λbk bo b2=>?_;refine aA h λar al h=>fh (γ:=Unit) (δ:=Unit) al [0,1,2,3] (λs1 g1=>[(4,J.of s1.1)]) (λs1 g1=>[(0,aJ b2 s1.2)]) (λaw=>Exit.exit 0) (λaw g1=>[(4,J.of aw.1),(6,J.of aw.2.1)]) (λaw g1=>[(0,aJ b2 aw.2.2)]) () (λs1 r h g1=>?_) λg1=>?_
 ·refine aO (λaI cQ h=>?_);refine aA h λm1 bR h=>il (γ:=Unit) [0,1,2,3,4,6,11] (λg2=>[]) (λg2=>[(0,aJ b2 m1)]) (λg2=>?_) (λhm ae=>?_) λhm ae=>?_
  ·refine aO λbu c0 h=>?_;refine aA h λm2 c6 h=>il (γ:=Unit) [0,1,2,3,4,6,11,22] (λg3=>[]) (λg3=>[(0,aJ b2 m2)]) (λg3=>?_) (λhm ae=>?_) λhm ae=>?_
   ·exact go
   ·have h:=fp ae c6;refine ay.fm (dV (cg DY.fd) ?_);refine rJ 0 vm lr ?_;refine cS ?_;refine dV (AR underlying3 underlying188) ?_;refine bx (HY (uf 1 I) (ah I)) ?_;refine dW AS ?_;refine dV (cg DY.fd) ?_;refine aA h λbp ev h=>I5 0 vm lr (hb:=by exact ev) ?_;exact go
   have h:=fq ae c6;exact go
  ·have h:=fp ae bR;refine ay.fm (dV (cg ui.fd) ?_);refine rJ 0 lk lr ?_;refine cS ?_;refine dV (AR underlying3 underlying188) ?_;refine bx (HY (uf 1 I) (ah I)) ?_;refine dW AS ?_;refine dV (cg ui.fd) ?_;refine aA h λz2 hj h=>I5 0 lk lr (hb:=by exact hj) ?_;exact go
  have h:=fq ae bR;exact go
 exact go
def V1{ab ai r}(h:KW ab ai=some r):dz prog 44 [J.ptr ab,J.of ai] (J.of r):=by
 unfold KW at h;refine dz.of func44 I ntmps44 I λW A=>b5 (bx (dk (look_nil (α:=aH))) (iy ?_));refine ag.own (α:=aH) 54 (bx (dk ml) ?_);refine aO ?_;refine aA h λar al h=>fh (γ:=(aD Nat×Nat)) (δ:=(aD Nat×Nat)) al [0,1,4,11,12] (λs1 g1=>[(5,J.eq (aP g1.1 s1.2.length g1.2)),(13,J.of s1.1)]) (λs1 g1=>[(0,⟨g1.1,.row 54 s1.2 g1.2⟩)]) (λaw=>Exit.exit 0) (λaw g1=>[(5,J.eq (aP g1.1 aw.2.2.length g1.2)),(13,J.of aw.1),(14,J.of aw.2.1)]) (λaw g1=>[(0,⟨g1.1,.row 54 aw.2.2 g1.2⟩)]) (none,0) (λs1 r h g1=>?_) λg1=>?_
 ·refine go2 (λaI cQ bk h=>?_) (λh=>?_)
  ·refine aA h λm1 bR h=>il (γ:=(aD Nat×Nat)) [0,1,4,7,11,12,13,14,21] (λg2=>[(5,J.eq (aP g2.1 m1.length g2.2))]) (λg2=>[(1,⟨g2.1,.row 54 m1 g2.2⟩)]) (λg2=>?_) (λhm ae=>?_) λhm ae=>?_
   ·refine aO ?_;cases h;exact hi (g2.1,g2.2) 1
   ·have h:=fp ae bR;refine aO ?_;refine aA h λao br h=>iQ 1 underlying43 eC k4 br λei dR=>?_;refine dg (ag.nil ?_);cases h;exact dU 0 (hm (ei,dR))
   have h:=fq ae bR;refine ay.skip ?_;cases h;exact dU 0 (hm (g1.1,g1.2))
  cases h;exact gu (g1.1,g1.2) 0
 refine aO ?_;exact an.kg (α:=aH) 0 [4,5,27] ⟨rfl,rfl,rfl,trivial⟩ I go
def Wn{ab r}(h:Lf ab=some r):dz prog 49 [J.ptr ab] (J.of r):=by
 unfold Lf at h;refine dz.of func49 I ntmps49 I λW A=>b5 (bx (dk (look_nil (α:=bl))) (iy ?_));refine ag.own (α:=bl) 52 (bx (dk ml) ?_);refine aO ?_;refine aA h λar al h=>fh (γ:=(aD Nat×Nat)) (δ:=(aD Nat×Nat)) al [0,2,9,10] (λs1 g1=>[(3,J.eq (aP g1.1 s1.2.length g1.2)),(11,J.of s1.1)]) (λs1 g1=>[(0,⟨g1.1,.row 52 s1.2 g1.2⟩)]) (λaw=>Exit.exit 0) (λaw g1=>[(3,J.eq (aP g1.1 aw.2.2.length g1.2)),(11,J.of aw.1),(12,J.of aw.2.1)]) (λaw g1=>[(0,⟨g1.1,.row 52 aw.2.2 g1.2⟩)]) (none,0) (λs1 r h g1=>?_) λg1=>?_
 ·refine go2 (λaI cQ bk h=>?_) (λh=>?_)
  ·refine aA h λao br h=>iQ 1 underlying121 pX M9 br λei dR=>?_;refine aO ?_;cases h;exact hi (ei,dR) 1
  cases h;exact gu (g1.1,g1.2) 0
 refine aO ?_;exact an.kg (α:=bl) 0 [2,3,21] ⟨rfl,rfl,rfl,trivial⟩ I go
def gK{ab ai bY r}(h:fU ab ai=some r):nL prog 17 [J.cN bY,J.of ai] bY ab (J.of r.1) r.2:=by
 unfold fU at h;refine bN.of func17 I ntmps17 I λW A=>?_;refine aO ?_;refine aA h λao br h=>ag.fb (dL.call [0] abx (af9 br) ⟨ah I,trivial⟩ I ⟨rfl,trivial⟩ I) I I I (aO (λh=>?_));refine aA h λaI cQ h=>aA h λaE bZ h=>ay.fy 14 ?_;exact go
instance:fk prog 95 _ _ _ Hh J.of J.of J.of:=.i func95 I ntmps95 I λab ai r h W A=>by
 unfold Hh at h;refine aO λbk=>?_;refine aA h λar al h=>fh (γ:=Unit) (δ:=Unit) al [0,1,2,8,9] (λs1 g1=>[(4,J.of (0:Int)),(10,J.of s1)]) (λs1 g1=>[]) (λaw=>Sum.elim (λaw=>Exit.exit 0) (λaw=>Exit.ret) aw) (λaw g1=>Sum.elim (λaw=>[(4,J.of (0:Int)),(10,J.of aw.1),(11,J.of aw.2)]) (λaw=>[(4,J.of aw.1),(10,J.of aw.2.1),(11,J.of aw.2.2.1),(17,J.of aw.2.2.2)]) aw) (λaw g1=>[]) () (λs1 r h g1=>?_) λg1=>?_
 ·exact go
 rcases ar with ar|ar
 ·simp only[Sum.elim_inl]at h;exact go
 simp only[Sum.elim_inr]at h;exact go
instance acS:fk prog 61 _ _ _ As J.of J.of J.of:=.i func61 I ntmps61 I λab ai r h W A=>by
 unfold As at h;exact go
instance acT:fk prog 96 _ _ _ Lt J.of J.of J.of:=.i func96 I ntmps96 I λab ai r h W A=>by
 unfold Lt at h;exact go
instance acU:fk prog 60 _ _ _ Dp J.of J.of J.of:=.i func60 I ntmps60 I λab ai r h W A=>by
 unfold Dp at h;refine aO λbk bo=>?_;refine aA h λar al h=>fh (γ:=Unit) (δ:=Unit) al [0,1,2,4,8,9] (λs1 g1=>[(10,J.of s1)]) (λs1 g1=>[]) (λaw=>Sum.elim (λaw=>Exit.exit 0) (λaw=>Exit.ret) aw) (λaw g1=>Sum.elim (λaw=>[(10,J.of aw.1),(11,J.of aw.2)]) (λaw=>[(10,J.of aw.1),(11,J.of aw.2.1),(17,J.of aw.2.2.1)]) aw) (λaw g1=>Sum.elim (λaw=>[]) (λaw=>[(0,aJ bo aw.2.2.2)]) aw) () (λs1 r h g1=>?_) λg1=>?_
 ·exact go
 rcases ar with ar|ar
 ·simp only[Sum.elim_inl]at h;exact go
 simp only[Sum.elim_inr]at h;exact go
def C4{hp ab ai r}(h:rf hp ab ai=some r):hr prog 97 [J.of ab,J.of ai] hp (J.of r) hp:=by
 unfold rf at h;refine bN.of func97 I ntmps97 I λW A=>b5 (bx (dk o5) ?_);refine go2 (λh=>?_) (λbA dn c1 dv h=>?_)
 ·refine bx (dk o5) ?_;exact go
 refine aA h λcC e9 h=>aA h λc2 eW h=>aA h λbp ev h=>bx (vu (r:=bp) underlying161 Bx Z7 (ll (ah I) e9) (ah I) (jt (n:=0) I (ym eW) I) (dy ev)) ?_;exact go
instance:lW prog 215 _ _ x7 J.of J.of:=.i func215 I ntmps215 I λab r h W A=>by
 unfold x7 at h;refine aO λbk bo b2=>?_;refine aA h λao br h=>bx (AN underlying49 vF (ah I) .none (.some (ah I)) br) ?_;refine aO ?_;refine aA h λar al h=>fh (γ:=Unit) (δ:=Unit) al [0,1,2,3,12,13] (λs1 g1=>[(14,J.of s1.1)]) (λs1 g1=>[(0,aJ b2 s1.2)]) (λaw=>Exit.exit 0) (λaw g1=>[(14,J.of aw.1),(15,J.of aw.2.1)]) (λaw g1=>[(0,aJ b2 aw.2.2)]) () (λs1 r h g1=>?_) λg1=>?_
 ·exact go
 exact go
def PC{hp ab ai r}(h:x0 hp ab ai=some r):hr prog 214 [J.of ab,J.of ai] hp (J.bT [J.of r.1,J.of r.2]) hp:=by
 unfold x0 at h;refine bN.of func214 I ntmps214 I λW A=>?_;refine aO (λbk h=>?_);refine aA h λbA dn h=>aA h λc1 dv h=>aA h λcC e9 h=>aA h λc2 eW h=>aA h λbp ev h=>er [0,1,3,4,5,8,9] ?_;refine ay.ck 1 (aC 11 [] [] _::aC 12 [0] [] _::aC 13 [1] [] _::aC 14 [2] [] _::aC 15 [] [0] _::aC 16 [3,4] [] (J.bT [J.of (bp.getD default),J.of bp.isSome])::aC 10 [5] [] _::aC 17 [6] [] _::aC 18 [6] [] _::aC 6 [7] [] _::aC 7 [8] [] _::[]) (dO ?_ h9) (λcR=>?_)
 ·intro hd E' L' aF av cc;refine bx (Qj (r:=bp) underlying229 ML su (ll (ah (aF _ _ I)) e9) (ah (aF _ _ I)) (jt (n:=1) (cc.trans I) (vw eW) I) (dy ev)) (ag.nil ?_);exact an.fin (cX []) I I
 refine an.dq (L2:=(aJ bk ai::a1 hp)) I (e8 ?_);exact go
instance:fk prog 224 _ _ _ CJ J.of J.of (λr=>J.bT [J.of r.1,J.of r.2]):=.i func224 I ntmps224 I λab ai r h W A=>by
 unfold CJ at h;refine aO λbk bo b2 dc aI cQ lg bu c0 h=>?_;refine er [0,1,2,3,4,5,6,7,8,9,10,11,12,13,14] ?_;refine ay.rT 5 (aC 15 [] [3] _::aC 16 [] [0] _::fz [0] [2] [2] (λhd=>aJ b2 ((dK ai bu (default:aN)):Vector aN 4))::fz [1] [1] [1] (λhd=>aJ dc ((bG ai aI):aN))::[]) (λcR=>?_);refine an.dq (L2:=[aJ lg (bG ai aI:aN),aJ dc ((bG ai aI):aN),aJ b2 ((dK ai bu (default:aN)):Vector aN 4),aJ bo (dK ai bu (default:aN):Vector aN 4),aJ bk ab]) I (e8 ?_);exact go
instance:lW prog 237 _ _ DD J.of J.of:=.i func237 I ntmps237 I λab r h W A=>by
 unfold DD at h;exact go
instance:fk prog 236 _ _ _ DI J.of J.of J.of:=.i func236 I ntmps236 I λab ai r h W A=>by
 unfold DI at h;exact go
instance:fk prog 247 _ _ _ Hz J.of J.of J.of:=.i func247 I ntmps247 I λab ai r h W A=>by
 unfold Hz at h;exact go
instance:fk prog 226 _ _ _ ya J.of J.of J.of:=.i func226 I ntmps226 I λab ai r h W A=>by
 unfold ya at h;exact go
def Lk{ab ai aR r}(h:Dq ab ai aR=some r):dz prog 235 [J.of ab,J.of ai,J.of aR] (J.lx 242 [J.ptr r.1,J.ptr r.2.1,J.ptr r.2.2]):=by
 unfold Dq at h;refine dz.of func235 I ntmps235 I λW A=>?_;refine aO λbk bo b2=>?_;refine bx (dk (H9 .nilFunc)) (iy ?_);refine ag.share (α:=Int) 0 5 I I (ag.share (α:=aN) 1 4 I I (ag.share (α:=Ref) 2 3 I I (bx (Ip (f:=242) (τs:=[J.ptr aR,J.ptr ai,J.ptr ab]) ⟨ah I,ah I,ah I,trivial⟩) ?_)));exact go
instance:lW prog 169 _ _ KE J.of J.of:=.i func169 I ntmps169 I λab r h W A=>by
 unfold KE at h;refine b5 (bx (dk (look_nil (α:=cG))) ?_);refine aO ?_;refine bx (Z8 underlying49 (ah I)) (ch ?_);refine ay.Z9 (ah I) (λau=>?_) ?_
 ·subst au;replace h:=Xh h;subst h;have h:some ([]:aa cG)=some []:=rfl;refine b5 (bx (dk (look_nil (α:=cG))) (ch (ay.ret (an.ret ?_))));replace h:=dy h;exact uH
 refine ly (b5 (ag.rF (α:=cG) (r:=([]:aa cG)) underlying49 vF Iq I I (.nil) I λei=>cS ?_));refine aA h λao br h=>iQ 0 underlying49 vF Iq br λjU dR=>?_;refine dg (ch (ay.ret ?_));exact an.kg (α:=cG) 0 [2,7] ⟨rfl,rfl,trivial⟩ I go
def V7{hp ab ai r}(h:CT hp ab ai=some r):hr prog 102 [J.of ab,J.of ai] hp (J.of r) hp:=by
 unfold CT at h;refine bN.of func102 I ntmps102 I λW A=>?_;refine aO ?_;refine ay.scope (go2 (λh=>?_) (λh=>?_))
 ·exact an.aby go
 refine ay.label (aO λbA dn c1 dv h=>?_);refine aA h λar al h=>tC (σ:=Int) (ε:=(Int×Int×Bool)) (γ:=Unit) (δ:=Unit) al 0 [0,1,4,9,14,15] (λs1 g1=>[(5,J.of (-1)),(16,J.of s1)]) (λs1 g1=>[]) (λs1 g1=>a1 hp) (λaw=>Exit.exit 0) (λaw g1=>[(5,J.of aw.1),(16,J.of aw.2.1),(17,J.of aw.2.2)]) (λaw g1=>[]) (λaw g1=>a1 hp) () (λs1 r h g1=>?_) (λg1=>?_)
 ·exact go
 refine aO ?_;exact an.aby go
def Wo{hp ab r}(h:Di hp ab=some r):hr prog 239 [J.of ab] hp (J.of r) hp:=by
 unfold Di at h;refine bN.of func239 I ntmps239 I λW A=>b5 (dg (iy ?_));refine cS ?_;refine aA h λbA dn h=>bx (l0 (j2 (ah I) dn)) ?_;refine dV (cg akf.fd) ?_;refine aA h λc1 dv h=>bx (o8 ((aQ.id fc).comp GK) (r:=c1.gM) k7 (ah I) (jt (n:=0) I (sg dv) I) I I) ?_;refine dV qD ?_;refine cS ?_;refine jv cY ?_;refine aA h λcC e9 h=>iU (λhb=>l0 (j2 (cf I hb) (fe e9 hb))) ?_;refine jv (cg Mc.fd) ?_;refine aA h λc2 eW h=>iU (λhb=>o8 ((aQ.id fc).comp CG) (r:=c2.dF) aaa (cf I hb) (jt (n:=0) I (sg (fe eW hb)) I) I I) ?_;refine iU (λhb=>ajf (b:=(default:Vector Ref 2)) (sz:=1) I underlying328 (by kernel_rfl) amJ (.nil)) ?_;refine iU (λhb=>ajg underlying328 kD underlying326 alp (cf I hb) (cf I hb) amK) ?_;refine ET ?_;refine dg (ch (ay.ret ?_));cases h;exact an.eG () (.refl _) I I (du I)
def aeS{hp ab ai aR cT uI QA QB r}(h:KP hp ab ai aR cT=some r):bN prog 246 [J.of ab,J.of ai,J.of aR,J.cN uI] ([⟨some uI,.cw ([]:aa fC) [(0,aP QA cT.length QB)]⟩,⟨QA,.row 342 cT QB⟩]++a1 hp) (δ:=(aD Nat×Nat)) (λd=>J.bT []) (λd=>[⟨some uI,.cw ([]:aa fC) [(0,aP d.1 r.length d.2)]⟩,⟨d.1,.row 342 r d.2⟩]++a1 hp):=by
 unfold KP at h;refine bN.of func246 I ntmps246 I λW A=>?_;refine aO λbk bA dn c1 dv h=>?_;refine aA h λm1 bR h=>qL (γ:=(aD Nat×Nat)) 3 [0,1,2,3,5,10] (λg1=>[]) (λg1=>[(1,⟨some uI,.cw ([]:aa fC) [(0,aP g1.1 m1.length g1.2)]⟩),(2,⟨g1.1,.row 342 m1 g1.2⟩)]) (λg1=>a1 hp) (λg1=>?_) (λhm ae=>?_) (λhm ae=>?_)
 ·refine an.lv (an.bw 2 I (an.bw 2 I ?_));cases h;exact an.nu (g1.1,g1.2) (.cons_cons _ (.cons_cons _ (.cons _ (.refl _)))) I I
 ·have h:=fp ae bR;refine ay.jM mixed 9 (rg 11 9) [[],[],[],[],[3],[4],[5],[1,2,6],[7]] [_,_,_,_,_,_,_,_,_] ⟨fA λav=>h0 (i:=1) (q:=0) (β:=aa fC) (γ:=fC) RZ (ah I) (av _ _ I I) I,rK 0 fx,ey,ey,fA λav=>l0 (j2 (ah I) dn),H1 (cg akg.fd),fA λav=>o8 ((aQ.id fc).comp Lg) (r:=c1.j6) cm (ah I) (pf (λi e q=>av i e q I) (jt (n:=3) I (sg dv) I)) I I,fA λav=>kC (b:= {b6:=ai,AI:=aR,cb:=c1.j6:fC}) I amL R0 (.cons aeT I (ah I) I (.cons aeM I (ah I) I (.cons afN I (ah I) I (.nil)))),fA λav=>yz (r:=[{b6:=ai,AI:=aR,cb:=c1.j6:fC}]) underlying337 R1 R0 I I (.cons (by simp) (ah I) (.nil)),trivial⟩ ?_;refine aA h λao br h=>iQ 2 underlying337 R1 R0 br λei dR=>?_;refine ag.j3 (i:=1) (γ:=fC) (b':=([]:aa fC)) (os':=[(0,aP ei ao.length dR)]) (aQ.id (aa fC)) RZ (ah I) (ah I) jo I I I I (ag.nil ?_);cases h;exact dU 0 (hm (ei,dR))
 have h:=fq ae bR;refine ay.skip ?_;cases h;exact dU 0 (hm (QA,QB))
instance abz:lW prog 251 _ _ PY J.of J.of:=.i func251 I ntmps251 I λab r h W A=>by
 unfold PY at h;exact go
instance abA:fk prog 250 _ _ _ Ht J.of J.of J.of:=.i func250 I ntmps250 I λab ai r h W A=>by
 unfold Ht at h;exact go
instance abB:fk prog 249 _ _ _ PZ J.of J.of J.of:=.i func249 I ntmps249 I λab ai r h W A=>by
 unfold PZ at h;exact go
instance:lW prog 106 _ _ Au J.of J.of:=.i func106 I ntmps106 I λab r h W A=>by
 unfold Au at h;refine b5 (mv λbk=>?_);refine kH aab λbo=>iy ?_;refine ag.sh (z:=(default:Vector (aa Int) 6)) [0,1,2,3,4,5] agu aab I λb2=>ag.own (α:=Int) 3 (ag.own (α:=Int) 3 (ag.own (α:=Int) 3 (ag.own (α:=Int) 3 (ag.own (α:=Int) 3 (ag.own (α:=Int) 3 (aO ?_))))));refine aA h λar al h=>fh (γ:=(aD Nat×Nat)) (δ:=(aD Nat×Nat)) al [0,1,2,3,17,18] (λs1 g1=>[(19,J.of s1.1)]) (λs1 g1=>[(5,⟨g1.1,.row 3 s1.2.1 g1.2⟩),(6,⟨some b2,.cw s1.2.2 [(0,aP g1.1 s1.2.1.length g1.2),(1,aP none ([]:aa Int).length 0),(2,aP none ([]:aa Int).length 0),(3,aP none ([]:aa Int).length 0),(4,aP none ([]:aa Int).length 0),(5,aP none ([]:aa Int).length 0)]⟩)]) (λaw=>Exit.exit 0) (λaw g1=>[(19,J.of aw.1),(20,J.of aw.2.1)]) (λaw g1=>[(5,⟨g1.1,.row 3 aw.2.2.1 g1.2⟩),(6,⟨some b2,.cw aw.2.2.2 [(0,aP g1.1 aw.2.2.1.length g1.2),(1,aP none ([]:aa Int).length 0),(2,aP none ([]:aa Int).length 0),(3,aP none ([]:aa Int).length 0),(4,aP none ([]:aa Int).length 0),(5,aP none ([]:aa Int).length 0)]⟩)]) (none,0) (λs1 r h g1=>?_) λg1=>?_
 ·refine go2 (λaI cQ dc h=>?_) (λh=>?_)
  ·refine bx (hB (k:=0) th (ah I) (dd 0) ⟨by decide,rfl⟩) ?_;refine bx (h0 (i:=7) (q:=0) (β:=Vector (aa Int) 6) (γ:=Int) lN (ah I) I I) ?_;refine aO ?_;refine aA h λao br h=>iQ 6 underlying56 cm su br λei dR=>?_;refine bx (hB (k:=0) th (ah I) (dd 0) ⟨by decide,rfl⟩) ?_;refine ag.j3 (i:=7) (γ:=Int) (b':=(dK s1.2.2 0 []:Vector (aa Int) 6)) (os':=[(0,aP ei ao.length dR),(1,aP none ([]:aa Int).length 0),(2,aP none ([]:aa Int).length 0),(3,aP none ([]:aa Int).length 0),(4,aP none ([]:aa Int).length 0),(5,aP none ([]:aa Int).length 0)]) ((aQ.id (Vector (aa Int) 6)).comp (aQ.idx (α:=aa Int) 6 0 (by decide))) lN (ah I) (ah I) jo I I I I ?_;refine aO ?_;cases h;exact hi (ei,dR) 1
  cases h;exact gu (g1.1,g1.2) 0
 refine aO ?_;refine aA h λaS al h=>fh (γ:=(aD Nat×Nat)) (δ:=(aD Nat×Nat)) al [0,1,2,3,17,18,19,20,32,33] (λs2 g2=>[(34,J.of s2.1)]) (λs2 g2=>[(4,⟨g2.1,.row 3 s2.2.1 g2.2⟩),(6,⟨some b2,.cw s2.2.2 [(0,aP g1.1 ar.2.2.1.length g1.2),(1,aP g2.1 s2.2.1.length g2.2),(2,aP none ([]:aa Int).length 0),(3,aP none ([]:aa Int).length 0),(4,aP none ([]:aa Int).length 0),(5,aP none ([]:aa Int).length 0)]⟩)]) (λcH=>Exit.exit 2) (λcH g2=>[(34,J.of cH.1),(35,J.of cH.2.1)]) (λcH g2=>[(4,⟨g2.1,.row 3 cH.2.2.1 g2.2⟩),(6,⟨some b2,.cw cH.2.2.2 [(0,aP g1.1 ar.2.2.1.length g1.2),(1,aP g2.1 cH.2.2.1.length g2.2),(2,aP none ([]:aa Int).length 0),(3,aP none ([]:aa Int).length 0),(4,aP none ([]:aa Int).length 0),(5,aP none ([]:aa Int).length 0)]⟩)]) (none,0) (λs2 r h g2=>?_) λg2=>?_
 ·refine go2 (λbu c0 lg h=>?_) (λh=>?_)
  ·refine bx (hB (k:=1) th (ah I) (dd 1) ⟨by decide,rfl⟩) ?_;refine bx (h0 (i:=7) (q:=1) (β:=Vector (aa Int) 6) (γ:=Int) lN (ah I) I I) ?_;refine aO ?_;refine aA h λaE bZ h=>iQ 5 underlying56 cm su bZ λjU mq=>?_;refine bx (hB (k:=1) th (ah I) (dd 1) ⟨by decide,rfl⟩) ?_;refine ag.j3 (i:=7) (γ:=Int) (b':=(dK s2.2.2 1 []:Vector (aa Int) 6)) (os':=[(0,aP g1.1 ar.2.2.1.length g1.2),(1,aP jU aE.length mq),(2,aP none ([]:aa Int).length 0),(3,aP none ([]:aa Int).length 0),(4,aP none ([]:aa Int).length 0),(5,aP none ([]:aa Int).length 0)]) ((aQ.id (Vector (aa Int) 6)).comp (aQ.idx (α:=aa Int) 6 1 (by decide))) lN (ah I) (ah I) jo I I I I ?_;refine aO ?_;cases h;exact hi (jU,mq) 1
  cases h;exact gu (g2.1,g2.2) 0
 refine aO ?_;refine aA h λcE al h=>fh (γ:=(aD Nat×Nat)) (δ:=(aD Nat×Nat)) al [0,1,2,3,17,18,19,20,32,33,34,35,47,48] (λfu g3=>[(49,J.of fu.1)]) (λfu g3=>[(3,⟨g3.1,.row 3 fu.2.1 g3.2⟩),(6,⟨some b2,.cw fu.2.2 [(0,aP g1.1 ar.2.2.1.length g1.2),(1,aP g2.1 aS.2.2.1.length g2.2),(2,aP g3.1 fu.2.1.length g3.2),(3,aP none ([]:aa Int).length 0),(4,aP none ([]:aa Int).length 0),(5,aP none ([]:aa Int).length 0)]⟩)]) (λeJ=>Exit.exit 4) (λeJ g3=>[(49,J.of eJ.1),(50,J.of eJ.2.1)]) (λeJ g3=>[(3,⟨g3.1,.row 3 eJ.2.2.1 g3.2⟩),(6,⟨some b2,.cw eJ.2.2.2 [(0,aP g1.1 ar.2.2.1.length g1.2),(1,aP g2.1 aS.2.2.1.length g2.2),(2,aP g3.1 eJ.2.2.1.length g3.2),(3,aP none ([]:aa Int).length 0),(4,aP none ([]:aa Int).length 0),(5,aP none ([]:aa Int).length 0)]⟩)]) (none,0) (λfu r h g3=>?_) λg3=>?_
 ·refine go2 (λcB gr pB h=>?_) (λh=>?_)
  ·refine bx (hB (k:=2) th (ah I) (dd 2) ⟨by decide,rfl⟩) ?_;refine bx (h0 (i:=7) (q:=2) (β:=Vector (aa Int) 6) (γ:=Int) lN (ah I) I I) ?_;refine aO ?_;refine aA h λbg dS h=>iQ 4 underlying56 cm su dS λny rG=>?_;refine bx (hB (k:=2) th (ah I) (dd 2) ⟨by decide,rfl⟩) ?_;refine ag.j3 (i:=7) (γ:=Int) (b':=(dK fu.2.2 2 []:Vector (aa Int) 6)) (os':=[(0,aP g1.1 ar.2.2.1.length g1.2),(1,aP g2.1 aS.2.2.1.length g2.2),(2,aP ny bg.length rG),(3,aP none ([]:aa Int).length 0),(4,aP none ([]:aa Int).length 0),(5,aP none ([]:aa Int).length 0)]) ((aQ.id (Vector (aa Int) 6)).comp (aQ.idx (α:=aa Int) 6 2 (by decide))) lN (ah I) (ah I) jo I I I I ?_;refine aO ?_;cases h;exact hi (ny,rG) 1
  cases h;exact gu (g3.1,g3.2) 0
 refine aO ?_;refine aA h λeK al h=>fh (γ:=(aD Nat×Nat)) (δ:=(aD Nat×Nat)) al [0,1,2,3,17,18,19,20,32,33,34,35,47,48,49,50,62,63] (λhF g4=>[(64,J.of hF.1)]) (λhF g4=>[(2,⟨g4.1,.row 3 hF.2.1 g4.2⟩),(6,⟨some b2,.cw hF.2.2 [(0,aP g1.1 ar.2.2.1.length g1.2),(1,aP g2.1 aS.2.2.1.length g2.2),(2,aP g3.1 cE.2.2.1.length g3.2),(3,aP g4.1 hF.2.1.length g4.2),(4,aP none ([]:aa Int).length 0),(5,aP none ([]:aa Int).length 0)]⟩)]) (λht=>Exit.exit 6) (λht g4=>[(64,J.of ht.1),(65,J.of ht.2.1)]) (λht g4=>[(2,⟨g4.1,.row 3 ht.2.2.1 g4.2⟩),(6,⟨some b2,.cw ht.2.2.2 [(0,aP g1.1 ar.2.2.1.length g1.2),(1,aP g2.1 aS.2.2.1.length g2.2),(2,aP g3.1 cE.2.2.1.length g3.2),(3,aP g4.1 ht.2.2.1.length g4.2),(4,aP none ([]:aa Int).length 0),(5,aP none ([]:aa Int).length 0)]⟩)]) (none,0) (λhF r h g4=>?_) λg4=>?_
 ·refine go2 (λe2 jw Cb h=>?_) (λh=>?_)
  ·refine bx (hB (k:=3) th (ah I) (dd 3) ⟨by decide,rfl⟩) ?_;refine bx (h0 (i:=7) (q:=3) (β:=Vector (aa Int) 6) (γ:=Int) lN (ah I) I I) ?_;refine aO ?_;refine aA h λbt fa h=>iQ 3 underlying56 cm su fa λsn IE=>?_;refine bx (hB (k:=3) th (ah I) (dd 3) ⟨by decide,rfl⟩) ?_;refine ag.j3 (i:=7) (γ:=Int) (b':=(dK hF.2.2 3 []:Vector (aa Int) 6)) (os':=[(0,aP g1.1 ar.2.2.1.length g1.2),(1,aP g2.1 aS.2.2.1.length g2.2),(2,aP g3.1 cE.2.2.1.length g3.2),(3,aP sn bt.length IE),(4,aP none ([]:aa Int).length 0),(5,aP none ([]:aa Int).length 0)]) ((aQ.id (Vector (aa Int) 6)).comp (aQ.idx (α:=aa Int) 6 3 (by decide))) lN (ah I) (ah I) jo I I I I ?_;refine aO ?_;cases h;exact hi (sn,IE) 1
  cases h;exact gu (g4.1,g4.2) 0
 refine aO ?_;refine aA h λjY al h=>fh (γ:=(aD Nat×Nat)) (δ:=(aD Nat×Nat)) al [0,1,2,3,17,18,19,20,32,33,34,35,47,48,49,50,62,63,64,65,77,78] (λjZ g5=>[(79,J.of jZ.1)]) (λjZ g5=>[(1,⟨g5.1,.row 3 jZ.2.1 g5.2⟩),(6,⟨some b2,.cw jZ.2.2 [(0,aP g1.1 ar.2.2.1.length g1.2),(1,aP g2.1 aS.2.2.1.length g2.2),(2,aP g3.1 cE.2.2.1.length g3.2),(3,aP g4.1 eK.2.2.1.length g4.2),(4,aP g5.1 jZ.2.1.length g5.2),(5,aP none ([]:aa Int).length 0)]⟩)]) (λeA=>Exit.exit 8) (λeA g5=>[(79,J.of eA.1),(80,J.of eA.2.1)]) (λeA g5=>[(1,⟨g5.1,.row 3 eA.2.2.1 g5.2⟩),(6,⟨some b2,.cw eA.2.2.2 [(0,aP g1.1 ar.2.2.1.length g1.2),(1,aP g2.1 aS.2.2.1.length g2.2),(2,aP g3.1 cE.2.2.1.length g3.2),(3,aP g4.1 eK.2.2.1.length g4.2),(4,aP g5.1 eA.2.2.1.length g5.2),(5,aP none ([]:aa Int).length 0)]⟩)]) (none,0) (λjZ r h g5=>?_) λg5=>?_
 ·refine go2 (λkW yV avz h=>?_) (λh=>?_)
  ·refine bx (hB (k:=4) th (ah I) (dd 4) ⟨by decide,rfl⟩) ?_;refine bx (h0 (i:=7) (q:=4) (β:=Vector (aa Int) 6) (γ:=Int) lN (ah I) I I) ?_;refine aO ?_;refine aA h λb3 hC h=>iQ 2 underlying56 cm su hC λvJ abC=>?_;refine bx (hB (k:=4) th (ah I) (dd 4) ⟨by decide,rfl⟩) ?_;refine ag.j3 (i:=7) (γ:=Int) (b':=(dK jZ.2.2 4 []:Vector (aa Int) 6)) (os':=[(0,aP g1.1 ar.2.2.1.length g1.2),(1,aP g2.1 aS.2.2.1.length g2.2),(2,aP g3.1 cE.2.2.1.length g3.2),(3,aP g4.1 eK.2.2.1.length g4.2),(4,aP vJ b3.length abC),(5,aP none ([]:aa Int).length 0)]) ((aQ.id (Vector (aa Int) 6)).comp (aQ.idx (α:=aa Int) 6 4 (by decide))) lN (ah I) (ah I) jo I I I I ?_;refine aO ?_;cases h;exact hi (vJ,abC) 1
  cases h;exact gu (g5.1,g5.2) 0
 refine aO ?_;refine aA h λma al h=>fh (γ:=(aD Nat×Nat)) (δ:=(aD Nat×Nat)) al [0,1,2,3,17,18,19,20,32,33,34,35,47,48,49,50,62,63,64,65,77,78,79,80,92,93] (λkX g6=>[(94,J.of kX.1)]) (λkX g6=>[(0,⟨g6.1,.row 3 kX.2.1 g6.2⟩),(6,⟨some b2,.cw kX.2.2 [(0,aP g1.1 ar.2.2.1.length g1.2),(1,aP g2.1 aS.2.2.1.length g2.2),(2,aP g3.1 cE.2.2.1.length g3.2),(3,aP g4.1 eK.2.2.1.length g4.2),(4,aP g5.1 jY.2.2.1.length g5.2),(5,aP g6.1 kX.2.1.length g6.2)]⟩)]) (λec=>Exit.exit 10) (λec g6=>[(94,J.of ec.1),(95,J.of ec.2.1)]) (λec g6=>[(0,⟨g6.1,.row 3 ec.2.2.1 g6.2⟩),(6,⟨some b2,.cw ec.2.2.2 [(0,aP g1.1 ar.2.2.1.length g1.2),(1,aP g2.1 aS.2.2.1.length g2.2),(2,aP g3.1 cE.2.2.1.length g3.2),(3,aP g4.1 eK.2.2.1.length g4.2),(4,aP g5.1 jY.2.2.1.length g5.2),(5,aP g6.1 ec.2.2.1.length g6.2)]⟩)]) (none,0) (λkX r h g6=>?_) λg6=>?_
 ·refine go2 (λng yW avA h=>?_) (λh=>?_)
  ·refine bx (hB (k:=5) th (ah I) (dd 5) ⟨by decide,rfl⟩) ?_;refine bx (h0 (i:=7) (q:=5) (β:=Vector (aa Int) 6) (γ:=Int) lN (ah I) I I) ?_;refine aO ?_;refine aA h λcd im h=>iQ 1 underlying56 cm su im λIF abD=>?_;refine bx (hB (k:=5) th (ah I) (dd 5) ⟨by decide,rfl⟩) ?_;refine ag.j3 (i:=7) (γ:=Int) (b':=(dK kX.2.2 5 []:Vector (aa Int) 6)) (os':=[(0,aP g1.1 ar.2.2.1.length g1.2),(1,aP g2.1 aS.2.2.1.length g2.2),(2,aP g3.1 cE.2.2.1.length g3.2),(3,aP g4.1 eK.2.2.1.length g4.2),(4,aP g5.1 jY.2.2.1.length g5.2),(5,aP IF cd.length abD)]) ((aQ.id (Vector (aa Int) 6)).comp (aQ.idx (α:=aa Int) 6 5 (by decide))) lN (ah I) (ah I) jo I I I I ?_;refine aO ?_;cases h;exact hi (IF,abD) 1
  cases h;exact gu (g6.1,g6.2) 0
 refine an.lu (an.next (b5 (ag.nz (β:=Vector (aa Int) 6) (γ:=Int) (b':=(dK ma.2.2.2 0 ar.2.2.1:Vector (aa Int) 6)) ((aQ.id (Vector (aa Int) 6)).comp (aQ.idx (α:=aa Int) 6 0 (by decide))) 6 5 0 I I I I I I ?_)));refine ag.nz (β:=Vector (aa Int) 6) (γ:=Int) (b':=(dK (dK ma.2.2.2 0 ar.2.2.1) 1 aS.2.2.1:Vector (aa Int) 6)) ((aQ.id (Vector (aa Int) 6)).comp (aQ.idx (α:=aa Int) 6 1 (by decide))) 6 4 0 I I I I I I ?_;refine ag.nz (β:=Vector (aa Int) 6) (γ:=Int) (b':=(dK (dK (dK ma.2.2.2 0 ar.2.2.1) 1 aS.2.2.1) 2 cE.2.2.1:Vector (aa Int) 6)) ((aQ.id (Vector (aa Int) 6)).comp (aQ.idx (α:=aa Int) 6 2 (by decide))) 6 3 0 I I I I I I ?_;refine ag.nz (β:=Vector (aa Int) 6) (γ:=Int) (b':=(dK (dK (dK (dK ma.2.2.2 0 ar.2.2.1) 1 aS.2.2.1) 2 cE.2.2.1) 3 eK.2.2.1:Vector (aa Int) 6)) ((aQ.id (Vector (aa Int) 6)).comp (aQ.idx (α:=aa Int) 6 3 (by decide))) 6 2 0 I I I I I I ?_;refine ag.nz (β:=Vector (aa Int) 6) (γ:=Int) (b':=(dK (dK (dK (dK (dK ma.2.2.2 0 ar.2.2.1) 1 aS.2.2.1) 2 cE.2.2.1) 3 eK.2.2.1) 4 jY.2.2.1:Vector (aa Int) 6)) ((aQ.id (Vector (aa Int) 6)).comp (aQ.idx (α:=aa Int) 6 4 (by decide))) 6 1 0 I I I I I I ?_;refine ag.nz (β:=Vector (aa Int) 6) (γ:=Int) (b':=(dK (dK (dK (dK (dK (dK ma.2.2.2 0 ar.2.2.1) 1 aS.2.2.1) 2 cE.2.2.1) 3 eK.2.2.1) 4 jY.2.2.1) 5 ma.2.2.1:Vector (aa Int) 6)) ((aQ.id (Vector (aa Int) 6)).comp (aQ.idx (α:=aa Int) 6 5 (by decide))) 6 0 0 I I I I I I ?_;exact ag.ti 6 I go
instance:fk prog 105 _ _ _ wz J.of J.of J.of:=.i func105 I ntmps105 I λab ai r h W A=>by
 unfold wz at h;refine aO ?_;refine aA h λar al h=>fh (γ:=Unit) (δ:=Unit) al [0,1,7,8] (λs1 g1=>[(4,J.of (0:Int)),(9,J.of s1)]) (λs1 g1=>[]) (λaw=>Sum.elim (λaw=>Exit.exit 0) (λaw=>Exit.ret) aw) (λaw g1=>Sum.elim (λaw=>[(4,J.of (0:Int)),(9,J.of aw.1),(10,J.of aw.2)]) (λaw=>[(4,J.of aw.1),(5,J.of aw.2.1),(6,J.of aw.2.2.1),(9,J.of aw.2.2.2.1),(10,J.of aw.2.2.2.2.1),(16,J.of aw.2.2.2.2.2)]) aw) (λaw g1=>[]) () (λs1 r h g1=>?_) λg1=>?_
 ·exact go
 rcases ar with ar|ar
 ·simp only[Sum.elim_inl]at h;exact go
 simp only[Sum.elim_inr]at h;exact go
instance ts:lW prog 166 _ _ vq J.of J.of:=.i func166 I ntmps166 I λab r h W A=>by
 unfold vq at h;refine aO λbk bo b2=>?_;refine aA h λar al h=>fh (γ:=Unit) (δ:=Unit) al [0,1,2,3] (λs1 g1=>[(4,J.of s1.1)]) (λs1 g1=>[(0,aJ b2 s1.2)]) (λaw=>Exit.exit 0) (λaw g1=>[(4,J.of aw.1),(6,J.of aw.2.1)]) (λaw g1=>[(0,aJ b2 aw.2.2)]) () (λs1 r h g1=>?_) λg1=>?_
 ·refine aO (λh=>?_);refine aA h λaI cQ h=>aA h λbp ev h=>aA h λbu c0 h=>aA h λz2 hj h=>er [0,1,2,3,4,5,6] ?_;refine ay.rT 3 (aC 9 [] [] _::aC 10 [] [] _::aC 11 [1] [] _::aC 12 [] [] _::aC 13 [3] [2] _::aC 14 [] [] _::aC 15 [5] [] _::aC 16 [4,6] [] _::aC 17 [7] [] _::aC 18 [8] [] _::aC 19 [] [] _::aC 20 [10] [2] _::aC 21 [] [] _::aC 22 [12] [] _::aC 23 [11,13] [] _::aC 24 [14] [] _::aC 25 [15] [] _::aC 26 [0] [] _::fz [9,17] [0] [0] (λhd=>aJ b2 bp)::aC 27 [2] [] _::fz [16,18,19] [0] [0] (λhd=>aJ b2 z2)::[]) (λcR=>?_);refine an.dq (L2:=[aJ b2 z2,aJ bo (default:Vector Bool 128),aJ bk ab]) I (e8 ?_);exact go
 exact go
instance:fk prog 133 _ _ _ sa J.of J.of J.of:=.i func133 I ntmps133 I λab ai r h W A=>by
 unfold sa at h;exact go
def afO{ab ai bY r}(h:z6 ab ai=some r):nL prog 44 [J.cN bY,J.of ai] bY ab (J.of r) ab:=by
 unfold z6 at h;refine bN.of func44 I ntmps44 I λW A=>b5 (bx (dk (look_nil (α:=aH))) (iy ?_));refine ag.own (α:=aH) 54 (bx (dk ml) ?_);refine aO ?_;refine aA h λar al h=>fh (γ:=(aD Nat×Nat)) (δ:=(aD Nat×Nat)) al [0,1,4,11,12] (λs1 g1=>[(5,J.eq (aP g1.1 s1.2.length g1.2)),(13,J.of s1.1)]) (λs1 g1=>[(0,⟨g1.1,.row 54 s1.2 g1.2⟩)]) (λaw=>Exit.exit 0) (λaw g1=>[(5,J.eq (aP g1.1 aw.2.2.length g1.2)),(13,J.of aw.1),(14,J.of aw.2.1)]) (λaw g1=>[(0,⟨g1.1,.row 54 aw.2.2 g1.2⟩)]) (none,0) (λs1 r h g1=>?_) λg1=>?_
 ·refine go2 (λaI cQ bk h=>?_) (λh=>?_)
  ·refine aA h λm1 bR h=>il (γ:=(aD Nat×Nat)) [0,1,4,7,11,12,13,14,21] (λg2=>[(5,J.eq (aP g2.1 m1.length g2.2))]) (λg2=>[(1,⟨g2.1,.row 54 m1 g2.2⟩)]) (λg2=>?_) (λhm ae=>?_) λhm ae=>?_
   ·refine aO ?_;cases h;exact hi (g2.1,g2.2) 1
   ·have h:=fp ae bR;refine aO ?_;refine aA h λao br h=>iQ 1 underlying43 eC k4 br λei dR=>?_;refine dg (ag.nil ?_);cases h;exact dU 0 (hm (ei,dR))
   have h:=fq ae bR;refine ay.skip ?_;cases h;exact dU 0 (hm (g1.1,g1.2))
  cases h;exact gu (g1.1,g1.2) 0
 refine aO ?_;exact an.kg (α:=aH) 0 [4,5,27] ⟨rfl,rfl,rfl,trivial⟩ I go
def Wu{ab ai r}(h:Ai ab ai=some r):dz prog 50 [J.ptr ab,J.of ai] (J.of r):=by
 unfold Ai at h;refine dz.of func50 I ntmps50 I λW A=>?_;refine aO ?_;refine aA h λar al h=>fh (γ:=Unit) (δ:=Unit) al [0,1,4,11,12] (λs1 g1=>[(5,J.of s1.1),(13,J.of s1.2)]) (λs1 g1=>[]) (λaw=>Exit.exit 0) (λaw g1=>[(5,J.of aw.1),(13,J.of aw.2.1),(14,J.of aw.2.2)]) (λaw g1=>[]) () (λs1 r h g1=>?_) λg1=>?_
 ·refine aO (λaI cQ bk h=>?_);refine aA h λm1 bR h=>il (γ:=Unit) [0,1,4,7,11,12,13,14,20] (λg2=>[(5,J.of m1)]) (λg2=>[]) (λg2=>?_) (λhm ae=>?_) λhm ae=>?_
  ·exact go
  ·have h:=fp ae bR;exact go
  have h:=fq ae bR;exact go
 exact go
def FZ{hp ab r}(h:wj hp ab=some r):hr prog 38 [J.of ab] hp (J.of r) hp:=by
 unfold wj at h;refine bN.of func38 I ntmps38 I λW A=>b5 (bx (dk o5) ?_);refine aO (λh=>?_);refine bx (dk o5) ?_;exact go
def Xi:Go.Shelf.Ren:=⟨λ|6=>135|15=>139|14=>151|28=>164|29=>165|20=>172|21=>173|22=>174|23=>175|24=>176|25=>177|26=>178|27=>179|46=>188|47=>182|48=>183|49=>189|50=>190|57=>192|n=>n,λ|22=>43|24=>54|25=>245|3=>3|39=>188|0=>0|53=>268|55=>104|4=>4|46=>262|45=>261|50=>236|5=>5|9=>9|66=>283|70=>287|76=>292|77=>191|n=>n,λ|n=>n⟩
def amM:Go.Proofs.SlLaysF0.n6 prog Xi:= {
 mixed:=by kernel_rfl
 f6:=⟨f135.name,by decide,func135.trans (eI some (by kernel_rfl))⟩
 f14:=⟨f151.name,by decide,func151.trans (eI some (by kernel_rfl))⟩
 f15:=func139.trans (eI some (by kernel_rfl))
 f20:=⟨f172.name,by decide,func172.trans (eI some (by kernel_rfl))⟩
 f21:=⟨f173.name,by decide,func173.trans (eI some (by kernel_rfl))⟩
 f22:=⟨f174.name,by decide,func174.trans (eI some (by kernel_rfl))⟩
 f23:=⟨f175.name,by decide,func175.trans (eI some (by kernel_rfl))⟩
 f24:=⟨f176.name,by decide,func176.trans (eI some (by kernel_rfl))⟩
 f25:=⟨f177.name,by decide,func177.trans (eI some (by kernel_rfl))⟩
 f26:=⟨f178.name,by decide,func178.trans (eI some (by kernel_rfl))⟩
 f27:=⟨f179.name,by decide,func179.trans (eI some (by kernel_rfl))⟩
 f28:=func164.trans (eI some (by kernel_rfl))
 f29:=func165.trans (eI some (by kernel_rfl))
 f46:=⟨f188.name,by decide,func188.trans (eI some (by kernel_rfl))⟩
 f47:=func182.trans (eI some (by kernel_rfl))
 f48:=func183.trans (eI some (by kernel_rfl))
 f49:=⟨f189.name,by decide,func189.trans (eI some (by kernel_rfl))⟩
 f50:=⟨f190.name,by decide,func190.trans (eI some (by kernel_rfl))⟩
 f57:=⟨f192.name,by decide,func192.trans (eI some (by kernel_rfl))⟩
 t0:=underlying0
 a0:=isAgg0
 z0:=sizeOf0
 v0:=zeroValue0
 t3:=underlying3
 a3:=isAgg3
 z3:=sizeOf3
 v3:=zeroValue3
 t4:=underlying4
 a4:=isAgg4
 z4:=sizeOf4
 v4:=zeroValue4
 t5:=underlying5
 a5:=isAgg5
 z5:=sizeOf5
 v5:=zeroValue5
 t9:=underlying9
 a9:=isAgg9
 z9:=sizeOf9
 v9:=zeroValue9
 t22:=underlying43
 a22:=isAgg43
 z22:=sizeOf43
 v22:=zeroValue43
 t25:=underlying245
 a25:=isAgg245
 z25:=sizeOf245
 v25:=zeroValue245
 t39:=underlying188
 a39:=isAgg188
 z39:=sizeOf188
 v39:=zeroValue188
 t45:=underlying261
 a45:=isAgg261
 z45:=sizeOf261
 v45:=zeroValue261
 t46:=underlying262
 a46:=isAgg262
 z46:=sizeOf262
 v46:=zeroValue262
 t50:=underlying236
 a50:=isAgg236
 z50:=sizeOf236
 v50:=zeroValue236
 t53:=underlying268
 a53:=isAgg268
 z53:=sizeOf268
 v53:=zeroValue268
 t55:=underlying104
 a55:=isAgg104
 z55:=sizeOf104
 v55:=zeroValue104
 t66:=underlying283
 a66:=isAgg283
 z66:=sizeOf283
 v66:=zeroValue283
 t70:=underlying287
 a70:=isAgg287
 z70:=sizeOf287
 v70:=zeroValue287
 t76:=underlying292
 a76:=isAgg292
 z76:=sizeOf292
 v76:=zeroValue292
 t77:=underlying191
 a77:=isAgg191
 z77:=sizeOf191
 v77:=zeroValue191}
def aeq{xs F K}(h:aj.wU xs F K){key:aD Nat}{cap:Nat}:bN prog 135 [.eq (aP key xs.length cap),.I6 prog F] [⟨key,.row 54 xs cap⟩] (δ:= {r:aa aH // xs.length=r.length∧K r}) (λ_=>.bT []) (λd=>[⟨key,.row 54 d.1 cap⟩]):=aac (ρ:=Xi) amM (λ_=>by kernel_rfl) (λ_=>by kernel_rfl) I h
def aet{ab ai aR r}(h:FA ab ai aR=some r):dz prog 153 [J.of ab,J.of ai,J.By prog aR] (J.of r):=by
 unfold FA at h;refine dz.of func153 I ntmps153 I λW A=>?_;refine aO ?_;refine aA h λar al h=>fh (γ:=Unit) (δ:=Unit) al [0,1,2,11,12] (λs1 g1=>[(6,J.of (0:Int)),(13,J.of s1)]) (λs1 g1=>[]) (λaw=>Sum.elim (λaw=>Exit.exit 0) (λaw=>Exit.ret) aw) (λaw g1=>Sum.elim (λaw=>[(6,J.of (0:Int)),(13,J.of aw.1),(14,J.of aw.2)]) (λaw=>[(6,J.of aw.1),(7,J.of aw.2.1),(13,J.of aw.2.2.1),(14,J.of aw.2.2.2.1),(21,J.of aw.2.2.2.2)]) aw) (λaw g1=>[]) () (λs1 r h g1=>?_) λg1=>?_
 ·refine aO (λaI cQ bk bu c0 bo h=>?_);refine aA h λao br h=>bx (LX (ah I) (ah I) (ah I) br) ?_;exact go
 rcases ar with ar|ar
 ·simp only[Sum.elim_inl]at h;exact go
 simp only[Sum.elim_inr]at h;exact go
def aeu{ab ai aR r}(h:FB ab ai aR=some r):dz prog 155 [J.of ab,J.of ai,J.By prog aR] (J.of r):=by
 unfold FB at h;refine dz.of func155 I ntmps155 I λW A=>?_;refine aO ?_;refine aA h λar al h=>fh (γ:=Unit) (δ:=Unit) al [0,1,2,11,12] (λs1 g1=>[(6,J.of (0:Int)),(13,J.of s1)]) (λs1 g1=>[]) (λaw=>Sum.elim (λaw=>Exit.exit 0) (λaw=>Exit.ret) aw) (λaw g1=>Sum.elim (λaw=>[(6,J.of (0:Int)),(13,J.of aw.1),(14,J.of aw.2)]) (λaw=>[(6,J.of aw.1),(7,J.of aw.2.1),(13,J.of aw.2.2.1),(14,J.of aw.2.2.2.1),(21,J.of aw.2.2.2.2)]) aw) (λaw g1=>[]) () (λs1 r h g1=>?_) λg1=>?_
 ·refine aO (λaI cQ bk bu c0 bo h=>?_);refine aA h λao br h=>bx (LX (ah I) (ah I) (ah I) br) ?_;exact go
 rcases ar with ar|ar
 ·simp only[Sum.elim_inl]at h;exact go
 simp only[Sum.elim_inr]at h;exact go
instance:lW prog 180 _ _ Du J.of J.of:=.i func180 I ntmps180 I λab r h W A=>by
 unfold Du at h;exact go
def Wv{ab ai r}(h:ri ab ai=some r):dz prog 116 [J.of ab,J.of ai] (J.of r):=by
 unfold ri at h;refine dz.of func116 I ntmps116 I λW A=>?_;refine aO (λbk bo h=>?_);refine iU (λhb=>wV (cf I hb) (ah I) (λh=>⟨hb,h⟩)) ?_;exact go
instance:fk prog 116 _ _ _ ri J.of J.of J.of:=
 ⟨⟨_,func116,rfl,by kernel_rfl⟩,λ_ _ _ h=>Wv h⟩
def aga{hp ab r}(h:GW hp ab=some r):hr prog 83 [J.of ab] hp (J.of r) hp:=by
 unfold GW at h;refine bN.of func83 I ntmps83 I λW A=>?_;exact go
def Xj:Go.Shelf.Ren:=⟨λ|6=>112|15=>139|14=>138|28=>164|29=>165|20=>156|21=>157|22=>158|23=>159|24=>160|25=>161|26=>162|27=>163|46=>181|47=>182|48=>183|49=>184|50=>185|57=>191|n=>n,λ|22=>113|24=>126|25=>221|3=>3|39=>188|0=>0|53=>268|55=>104|4=>4|46=>262|45=>261|50=>236|5=>5|9=>9|66=>283|70=>287|76=>292|77=>191|n=>n,λ|n=>n⟩
def amN:Go.Proofs.SlLaysF0.n6 prog Xj:= {
 mixed:=by kernel_rfl
 f6:=⟨f112.name,by decide,func112.trans (eI some (by kernel_rfl))⟩
 f14:=⟨f138.name,by decide,func138.trans (eI some (by kernel_rfl))⟩
 f15:=func139.trans (eI some (by kernel_rfl))
 f20:=⟨f156.name,by decide,func156.trans (eI some (by kernel_rfl))⟩
 f21:=⟨f157.name,by decide,func157.trans (eI some (by kernel_rfl))⟩
 f22:=⟨f158.name,by decide,func158.trans (eI some (by kernel_rfl))⟩
 f23:=⟨f159.name,by decide,func159.trans (eI some (by kernel_rfl))⟩
 f24:=⟨f160.name,by decide,func160.trans (eI some (by kernel_rfl))⟩
 f25:=⟨f161.name,by decide,func161.trans (eI some (by kernel_rfl))⟩
 f26:=⟨f162.name,by decide,func162.trans (eI some (by kernel_rfl))⟩
 f27:=⟨f163.name,by decide,func163.trans (eI some (by kernel_rfl))⟩
 f28:=func164.trans (eI some (by kernel_rfl))
 f29:=func165.trans (eI some (by kernel_rfl))
 f46:=⟨f181.name,by decide,func181.trans (eI some (by kernel_rfl))⟩
 f47:=func182.trans (eI some (by kernel_rfl))
 f48:=func183.trans (eI some (by kernel_rfl))
 f49:=⟨f184.name,by decide,func184.trans (eI some (by kernel_rfl))⟩
 f50:=⟨f185.name,by decide,func185.trans (eI some (by kernel_rfl))⟩
 f57:=⟨f191.name,by decide,func191.trans (eI some (by kernel_rfl))⟩
 t0:=underlying0
 a0:=isAgg0
 z0:=sizeOf0
 v0:=zeroValue0
 t3:=underlying3
 a3:=isAgg3
 z3:=sizeOf3
 v3:=zeroValue3
 t4:=underlying4
 a4:=isAgg4
 z4:=sizeOf4
 v4:=zeroValue4
 t5:=underlying5
 a5:=isAgg5
 z5:=sizeOf5
 v5:=zeroValue5
 t9:=underlying9
 a9:=isAgg9
 z9:=sizeOf9
 v9:=zeroValue9
 t22:=underlying113
 a22:=isAgg113
 z22:=sizeOf113
 v22:=zeroValue113
 t25:=underlying221
 a25:=isAgg221
 z25:=sizeOf221
 v25:=zeroValue221
 t39:=underlying188
 a39:=isAgg188
 z39:=sizeOf188
 v39:=zeroValue188
 t45:=underlying261
 a45:=isAgg261
 z45:=sizeOf261
 v45:=zeroValue261
 t46:=underlying262
 a46:=isAgg262
 z46:=sizeOf262
 v46:=zeroValue262
 t50:=underlying236
 a50:=isAgg236
 z50:=sizeOf236
 v50:=zeroValue236
 t53:=underlying268
 a53:=isAgg268
 z53:=sizeOf268
 v53:=zeroValue268
 t55:=underlying104
 a55:=isAgg104
 z55:=sizeOf104
 v55:=zeroValue104
 t66:=underlying283
 a66:=isAgg283
 z66:=sizeOf283
 v66:=zeroValue283
 t70:=underlying287
 a70:=isAgg287
 z70:=sizeOf287
 v70:=zeroValue287
 t76:=underlying292
 a76:=isAgg292
 z76:=sizeOf292
 v76:=zeroValue292
 t77:=underlying191
 a77:=isAgg191
 z77:=sizeOf191
 v77:=zeroValue191}
def aev{xs F K}(h:aj.wU xs F K){key:aD Nat}{cap:Nat}:bN prog 112 [.eq (aP key xs.length cap),.I6 prog F] [⟨key,.row 126 xs cap⟩] (δ:= {r:aa hW // xs.length=r.length∧K r}) (λ_=>.bT []) (λd=>[⟨key,.row 126 d.1 cap⟩]):=aac (ρ:=Xj) amN (λ_=>by kernel_rfl) (λ_=>by kernel_rfl) I h
instance:lW prog 114 _ _ Hu J.of J.of:=.i func114 I ntmps114 I λab r h W A=>by
 unfold Hu at h;refine aO ?_;refine aA h λar al h=>fh (γ:=Unit) (δ:=Unit) al [0,3,6,7] (λs1 g1=>[(2,J.of (0:Int)),(8,J.of s1)]) (λs1 g1=>[]) (λaw=>Sum.elim (λaw=>Exit.exit 0) (λaw=>Exit.ret) aw) (λaw g1=>Sum.elim (λaw=>[(2,J.of (0:Int)),(8,J.of aw.1),(9,J.of aw.2)]) (λaw=>[(2,J.of aw.1),(5,J.of aw.2.1),(8,J.of aw.2.2.1),(9,J.of aw.2.2.2.1),(14,J.of aw.2.2.2.2)]) aw) (λaw g1=>[]) () (λs1 r h g1=>?_) λg1=>?_
 ·exact go
 rcases ar with ar|ar
 ·simp only[Sum.elim_inl]at h;exact go
 simp only[Sum.elim_inr]at h;exact go
def afP{hp ab r}(h:GL hp ab=some r):hr prog 40 [J.of ab] hp (J.of r) hp:=by
 unfold GL at h;refine bN.of func40 I ntmps40 I λW A=>b5 (bx (dk (look_nil (α:=jQ))) (hh (b5 ?_)));refine cS ?_;refine bx (AJ underlying89 (ah I)) (ch ?_);refine kI h (λh=>?_) λh=>?_
 ·refine b5 (bx (dk (look_nil (α:=jQ))) ?_);exact go
 refine ly (b5 (ag.own (α:=jQ) 48 (bx (dk ml) ?_)));refine aO λbA dn c1 dv h=>?_;refine aA h λar al h=>tC (σ:=Int×(aa jQ)) (ε:=(Int×Bool×(aa jQ))) (γ:=(aD Nat×Nat)) (δ:=(aD Nat×Nat)) al 1 [0,2,7,11,12] (λs1 g1=>[(3,J.eq (aP g1.1 s1.2.length g1.2)),(13,J.of s1.1)]) (λs1 g1=>[(0,⟨g1.1,.row 48 s1.2 g1.2⟩)]) (λs1 g1=>a1 hp) (λaw=>Exit.exit 0) (λaw g1=>[(3,J.eq (aP g1.1 aw.2.2.length g1.2)),(13,J.of aw.1),(14,J.of aw.2.1)]) (λaw g1=>[(0,⟨g1.1,.row 48 aw.2.2 g1.2⟩)]) (λaw g1=>a1 hp) (none,0) (λs1 r h g1=>?_) (λg1=>?_)
 ·refine go2 (λaI cQ bk h=>?_) (λh=>?_)
  ·refine aA h λbu c0 h=>aA h λbp ev h=>ay.fy 11 ?_;refine aA h λao br h=>iQ 1 underlying45 IG abE br λei dR=>?_;refine aO ?_;cases h;exact hi (ei,dR) 1
  cases h;exact gu (g1.1,g1.2) 0
 refine aO ?_;exact an.kg (α:=jQ) 0 [2,3,31] ⟨rfl,rfl,rfl,trivial⟩ I go
instance:fk prog 51 _ _ _ DE J.of J.of J.of:=.i func51 I ntmps51 I λab ai r h W A=>by
 unfold DE at h;refine aO λbk bo b2=>?_;refine aA h λar al h=>fh (γ:=Unit) (δ:=Unit) al [0,1,2,3,4,8,9] (λs1 g1=>[(10,J.of s1.1)]) (λs1 g1=>[(1,aJ bo s1.2)]) (λaw=>Exit.exit 0) (λaw g1=>[(10,J.of aw.1),(11,J.of aw.2.1)]) (λaw g1=>[(1,aJ bo aw.2.2)]) () (λs1 r h g1=>?_) λg1=>?_
 ·refine aO (λaI cQ dc h=>?_);refine aA h λm1 bR h=>il (γ:=Unit) [0,1,2,3,4,5,6,8,9,10,11,21,26] (λg2=>[]) (λg2=>[(2,aJ bo m1)]) (λg2=>?_) (λhm ae=>?_) λhm ae=>?_
  ·exact go
  ·have h:=fp ae bR;refine aA h λbu c0 h=>aA h λbp ev h=>aA h λcB gr h=>aA h λz2 hj h=>aA h λe2 jw h=>aA h λkW yV h=>aA h λz3 l2 h=>er [0,1,2,3,4,5,6,8,9,10,11,12,13,14,15,16,17,18,19,20,21,26,27,28,29,30] ?_;refine ay.tQ mixed (aC 31 [] [] _::aC 32 [] [] _::aC 33 [] [] _::aC 34 [2] [] _::aC 35 [3] [] _::aC 36 [4] [2] _::aC 37 [] [] _::aC 38 [6] [] _::aC 39 [7] [0] _::aC 40 [5,8] [] _::aC 41 [] [] _::aC 42 [10] [] _::aC 43 [11] [0] _::aC 44 [9,12] [] _::aC 45 [] [] _::aC 46 [14] [] _::aC 47 [15] [] _::aC 48 [16] [2] _::aC 49 [] [] _::aC 50 [18] [] _::aC 51 [19] [0] _::aC 52 [17,20] [] _::aC 53 [] [] _::aC 54 [22] [] _::aC 55 [23] [0] _::aC 56 [21,24] [] _::aC 57 [0] [] _::aC 58 [26] [] _::fz [5,13,17,27] [2] [2] (λhd=>aJ bo (dK s1.2 e2 ({(bG s1.2 e2)with cI:=bp}:aN):Vector aN 4))::aC 59 [1] [] _::aC 60 [29] [] _::fz [5,17,25,28,30] [2] [2] (λhd=>aJ bo z3)::[]) ⟨iY,iY,iY,gU λaF av=>hB (k:=bu) uu (ah (aF _ _ I)) (ah (aF _ _ I)) (cK c0),hU (cg ui.fd),rL 2 (((aQ.id (Vector aN 4)).comp (aQ.idx (α:=aN) 4 bu (cK c0).1)).comp lk) lr,hU (cg QC.fd),hU (cg ui.fd),rL 0 (C5.comp lk) lr,N8 P0,hU (cg AO.fd),hU (cg ui.fd),rL 0 (ua.comp lk) lr,gU λaF av=>(AS (ah (aF _ _ I)) (ah (aF _ _ I))).q1 (dy ev),iY,gU λaF av=>hB (k:=cB) uu (ah (aF _ _ I)) (ah (aF _ _ I)) (cK gr),hU (cg DY.fd),rL 2 (((aQ.id (Vector aN 4)).comp (aQ.idx (α:=aN) 4 cB (cK gr).1)).comp vm) lr,hU (cg QC.fd),hU (cg DY.fd),rL 0 (C5.comp vm) lr,N8 P0,hU (cg AO.fd),hU (cg DY.fd),rL 0 (ua.comp vm) lr,gU λaF av=>(AS (ah (aF _ _ I)) (ah (aF _ _ I))).q1 (dy hj),gU λaF av=>hB (k:=e2) uu (ah (aF _ _ I)) (ah (aF _ _ I)) (cK jw),hU (cg ui.fd),?_,gU λaF av=>hB (k:=kW) uu (ah (aF _ _ I)) (ah (aF _ _ I)) (cK yV),hU (cg DY.fd),?_,trivial⟩ λcR=>?_
   ·intro hd E' L' aF av;refine ag.store (i:=2) (((aQ.id (Vector aN 4)).comp (aQ.idx (α:=aN) 4 e2 (cK jw).1)).comp lk) (v:=bp) (b':=(dK s1.2 e2 ({(bG s1.2 e2)with cI:=bp}:aN):Vector aN 4)) lr (ah (aF _ _ I)) (ah (aF _ _ I)) (av 2 _ I I) I I (ag.nil ?_);exact an.fin (cX []) I I
   ·intro hd E' L' aF av;refine ag.store (i:=2) (((aQ.id (Vector aN 4)).comp (aQ.idx (α:=aN) 4 kW (cK yV).1)).comp vm) (v:=z2) (b':=z3) lr (ah (aF _ _ I)) (ah (aF _ _ I)) (av 2 _ I I) I (dy l2) (ag.nil ?_);exact an.fin (cX []) I I
   refine an.dq (L2:=[aJ dc (ax ab.bP aI:cG),aJ b2 (default:Vector aN 4),aJ bo z3,aJ bk ab]) I (e8 ?_);exact go
  have h:=fq ae bR;refine aO λz4 sv h=>?_;refine aA h λm2 c6 h=>il (γ:=Unit) [0,1,2,3,4,5,6,8,9,10,11,21,26,61] (λg3=>[]) (λg3=>[(2,aJ bo m2)]) (λg3=>?_) (λhm ae=>?_) λhm ae=>?_
  ·exact go
  ·have h:=fp ae c6;refine aA h λng yW h=>aA h λz5 xh h=>aA h λoT I7 h=>aA h λpC Nx h=>ay.jM mixed 18 (rg 70 18) [[],[],[1],[2],[],[4],[5],[6],[],[8],[9],[10],[11],[12],[7,13],[3,14],[15],[0]] [_,_,_,_,_,_,_,_,_,_,_,_,_,_,_,_,_,_] ⟨ey,H1 (cg AO.fd),H1 (cg ui.fd),iR 0 (ua.comp lk) lr,ey,fA λav=>hB (k:=ng) uu (ah I) (ah I) (cK yW),H1 (cg ui.fd),iR 2 (((aQ.id (Vector aN 4)).comp (aQ.idx (α:=aN) 4 ng (cK yW).1)).comp lk) lr,H1 (cg YD.fd),iR 0 CQ cm,lC tj,H1 (AR underlying3 underlying188),sH xh λL' av=>HY (uf 1 I) (ah I),fA λav=>YE (ah I) (uf 1 I),lC QD,sH I7 λL' av=>AS (ah I) (ah I),fA λav=>kC (b:=({(default:aN)with cI:=oT}:aN)) I yA si (.cons lk I (ah I) I (.nil)),fA λav=>hB (k:=pC) uu (ah I) (ah I) (cK Nx),trivial⟩ ?_;refine aA h λog EU h=>I5 2 ((aQ.id (Vector aN 4)).comp (aQ.idx (α:=aN) 4 pC (cK Nx).1)) fx (hb:=by exact EU) ?_;exact go
  have h:=fq ae c6;exact go
 exact go
instance:lW prog 165 _ _ Dj J.of J.of:=.i func165 I ntmps165 I λab r h W A=>by
 unfold Dj at h;refine aO ?_;refine aA h λm1 bR h=>il (γ:=Unit) [4] (λg1=>[(0,J.of m1.1),(2,J.of m1.2)]) (λg1=>[]) (λg1=>?_) (λhm ae=>?_) λhm ae=>?_
 ·refine aO ?_;refine aA h λm2 c6 h=>il (γ:=Unit) [4,8] (λg2=>[(0,J.of m2.1),(2,J.of m2.2)]) (λg2=>[]) (λg2=>?_) (λhm ae=>?_) λhm ae=>?_
  ·refine aO ?_;refine aA h λm3 fZ h=>il (γ:=Unit) [4,8,14] (λg3=>[(0,J.of m3.1),(2,J.of m3.2)]) (λg3=>[]) (λg3=>?_) (λhm ae=>?_) λhm ae=>?_
   ·refine aO ?_;refine dV (akh underlying104 underlying5) ?_;refine aA h λao br h=>bx (aki underlying9 (iN (ByteArray.mk (List.toArray (List.append (List.append [0,1,2,2,3,3,3,3,4,4,4,4,4,4,4,4,5,5,5,5,5,5,5,5,5,5,5,5,5,5,5,5,6,6,6,6,6,6,6,6,6,6,6,6,6,6,6,6,6,6,6,6,6,6,6,6,6,6,6,6,6,6,6,6] [7,7,7,7,7,7,7,7,7,7,7,7,7,7,7,7,7,7,7,7,7,7,7,7,7,7,7,7,7,7,7,7,7,7,7,7,7,7,7,7,7,7,7,7,7,7,7,7,7,7,7,7,7,7,7,7,7,7,7,7,7,7,7,7]) (List.append [8,8,8,8,8,8,8,8,8,8,8,8,8,8,8,8,8,8,8,8,8,8,8,8,8,8,8,8,8,8,8,8,8,8,8,8,8,8,8,8,8,8,8,8,8,8,8,8,8,8,8,8,8,8,8,8,8,8,8,8,8,8,8,8] [8,8,8,8,8,8,8,8,8,8,8,8,8,8,8,8,8,8,8,8,8,8,8,8,8,8,8,8,8,8,8,8,8,8,8,8,8,8,8,8,8,8,8,8,8,8,8,8,8,8,8,8,8,8,8,8,8,8,8,8,8,8,8,8]))))) (ah I) br) ?_;exact go
   ·have h:=fp ae fZ;exact go
   have h:=fq ae fZ;exact go
  ·have h:=fp ae c6;exact go
  have h:=fq ae c6;exact go
 ·have h:=fp ae bR;exact go
 have h:=fq ae bR;exact go
def VN{hp ab ai aR cT N9 bY kn iq uI EV r}(h:zQ hp ab ai aR cT N9=some r):bN prog 234 [J.cN bY,J.cN kn,J.cN iq,J.cN uI,J.cN EV] ([aJ bY ab,aJ kn ai,aJ iq aR,aJ uI cT,aJ EV N9]++a1 hp) (δ:=Unit) (λ_=>J.bT []) (λ_=>[aJ bY ab,aJ kn ai,aJ iq r.1,aJ uI r.2.1,aJ EV r.2.2]++a1 hp):=by
 unfold zQ at h;refine bN.of func234 I ntmps234 I λW A=>?_;refine aO λbA dn c1 dv h=>?_;refine aA h λm1 bR h=>qL (γ:=Unit) 5 [0,1,2,3,4,12] (λg1=>[]) (λg1=>[(2,aJ iq m1.1),(3,aJ uI m1.2.1),(4,aJ EV m1.2.2)]) (λg1=>a1 hp) (λg1=>?_) (λhm ae=>?_) (λhm ae=>?_)
 ·refine an.lv (an.bw 4 I (an.bw 4 I (an.bw 4 I (an.bw 4 I (an.bw 4 I ?_)))));cases h;exact an.nu () (.cons_cons _ (.cons_cons _ (.cons_cons _ (.cons_cons _ (.cons_cons _ (.refl _)))))) I I
 ·have h:=fp ae bR;refine aA h λcC e9 h=>aA h λc2 eW h=>er [0,1,2,3,4,5,6,7,8,9,10,11,12] ?_;refine ay.rT 5 (aC 13 [] [1] _::aC 14 [] [0] _::aC 15 [1] [] _::aC 16 [2] [] _::aC 17 [3] [] _::fz [0] [2] [2] (λhd=>aJ iq ai)::fz [4] [3] [3] (λhd=>aJ uI c2.j6)::fz [] [4] [4] (λhd=>aJ EV true)::[]) (λcR=>?_);refine an.dq (L2:=(aJ bY ab::aJ kn ai::aJ iq ai::aJ uI c2.j6::aJ EV true::a1 hp)) I (e8 ?_);exact go
 have h:=fq ae bR;exact go
def V8{hp ab ai r}(h:CU hp ab ai=some r):hr prog 71 [J.of ab,J.of ai] hp (J.of r.1) r.2:=by
 unfold CU at h;refine bN.of func71 I ntmps71 I λW A=>b5 (dg (iy ?_));refine cS ?_;refine cS ?_;refine aA h λao br h=>ag.fb (dL.fS 0 I aad (V7 br) ⟨ah I,ah I,trivial⟩) I I I (dg (hh (b5 ?_)));refine cS ?_;refine dW pR ?_;refine cS ?_;refine jv cY ?_;refine jv cY ?_;refine aA h λbA dn h=>iU (λhb=>l0 (j2 (cf I hb) (fe dn hb))) ?_;refine jv (cg DZ.fd) ?_;refine aA h λaI cQ h=>iU (λhb=>hB (k:=aI) Ek (cf I hb) (cf I hb) (cK (fe cQ hb))) ?_;refine aA h λc1 dv h=>iU (λhb=>o8 (((aQ.id jP).comp zM).comp (aQ.idx (α:=Int) 6 aI (cK (fe cQ hb)).1)) (r:=bG c1.iM aI) cm (cf I hb) (jt (n:=0) I (vx (fe dv hb)) I) I I) ?_;refine Bz pS ?_;refine Tv (ch ?_);refine kI h (λh=>?_) λh=>?_
 ·refine b5 (dg (ch (ay.ret (an.ret ?_))));cases h;exact an.eG () (.refl _) I I (du I)
 refine ly (ay.seq (aA h λcC e9 h=>aA h λbu c0 h=>aA h λc2 eW h=>aA h λcB gr h=>ay.jM mixed 10 (rg 20 10) [[],[],[0],[2],[1,3],[4],[5],[0],[7],[1,8]] [_,_,_,_,_,_,_,_,_,_] ⟨ey,ey,fA λav=>l0 (j2 (ah I) e9),H1 (cg DZ.fd),fA λav=>hB (k:=bu) Ek (ah I) (ah I) (cK c0),fA λav=>o8 (((aQ.id jP).comp zM).comp (aQ.idx (α:=Int) 6 bu (cK c0).1)) (r:=bG c2.iM bu) cm (ah I) (pf (λi e q=>av i e q I) (jt (n:=0) I (vx eW) I)) I I,lC tj,fA λav=>l0 (j2 (ah I) e9),H1 (cg DZ.fd),fA λav=>hB (k:=cB) Ek (ah I) (ah I) (cK gr),trivial⟩ ?_));refine aA h λbQ hQ h=>ag.qz (k':=Cell.tr ({c2 with iM:=dK c2.iM cB (bm ((bG c2.iM bu)-1))}:jP)) 0 I (((aQ.id jP).comp zM).comp (aQ.idx (α:=Int) 6 cB (cK gr).1)) (v:=(bm ((bG c2.iM bu)-1):Int)) cm (ah I) (ah I) (vx eW) I I I I (dy hQ) (iy (dg (ch (ay.ret ?_))));cases h;exact an.eG () (.refl _) I I (du I)
def CV{hp ab r}(h:zY hp ab=some r):hr prog 41 [J.of ab] hp (J.of r) hp:=by
 unfold zY at h;refine bN.of func41 I ntmps41 I λW A=>?_;refine aO ?_;exact aA h λao br h=>ag.fb (dL.fS 0 I IH (FZ br) ⟨ah I,trivial⟩) I I I (aA h λaE bZ h=>ag.fb (dL.fS 0 I apH (aga bZ) ⟨ah I,trivial⟩) I I I go)
def afq{hp ab r}(h:CW hp ab=some r):hr prog 14 [J.of ab] hp (J.of r) hp:=by
 unfold CW at h;refine bN.of func14 I ntmps14 I λW A=>b5 (bx (dk (look_nil (α:=jQ))) ?_);refine go2 (λh=>?_) (λbA dn c1 dv h=>?_)
 ·refine bx (dk (look_nil (α:=jQ))) ?_;exact go
 exact aA h λao br h=>ag.fb (dL.fS 0 I apI (afP br) ⟨ah I,trivial⟩) I I I go
def ae9{hp ab ai r}(h:Gh hp ab ai=some r):hr prog 211 [J.of ab,J.of ai] hp (J.bT [J.of r.1,J.of r.2]) hp:=by
 unfold Gh at h;refine bN.of func211 I ntmps211 I λW A=>?_;refine aO λbk bo=>?_;exact aA h λao br h=>ag.fb (dL.fS 2 I R2 (PC br) ⟨ah I,ah I,trivial⟩) I I I go
instance:lW prog 241 _ _ LB J.of J.of:=.i func241 I ntmps241 I λab r h W A=>by
 unfold LB at h;exact go
instance:fk prog 187 _ _ _ G9 J.of J.of J.of:=.i func187 I ntmps187 I λab ai r h W A=>by
 unfold G9 at h;refine aO λbk ao br h=>?_;refine bx (QE (k:=0) underlying213 lN (ah I) (dd 0) ⟨by decide,rfl⟩) ?_;exact go
instance abF:fk prog 167 _ _ _ HA J.of J.of J.of:=.i func167 I ntmps167 I λab ai r h W A=>by
 unfold HA at h;refine b5 (mv λbk=>?_);refine mv λbo=>?_;refine kH si λb2=>hh ?_;refine aA h λao br h=>aA h λaE bZ h=>ay.mW 2 (er [0,1,2,3,4] ?_);refine ay.tQ mixed (aC 8 [] [2] _::aC 9 [0] [] _::aC 10 [] [1] _::aC 11 [2] [] _::⟨some 5,[],[3],[3],λhd=>J.cN ((hd 4 0).getD 0),λhd _=>aJ ((hd 4 0).getD 0) (default:Vector Bool 128)⟩::⟨some 6,[],[4],[4],λhd=>J.cN ((hd 5 0).getD 0),λhd _=>aJ ((hd 5 0).getD 0) (default:Vector Bool 128)⟩::fz [1,4] [3] [3] (λhd=>aJ ((hd 4 0).getD 0) ao)::fz [3,5] [4] [4] (λhd=>aJ ((hd 5 0).getD 0) aE)::[]) ⟨xi 2 fx,gU λaF av=>j4 ts.ck (ts.m _ _ br) ⟨ah (aF _ _ I),trivial⟩,xi 1 fx,gU λaF av=>j4 ts.ck (ts.m _ _ bZ) ⟨ah (aF _ _ I),trivial⟩,?_,?_,?_,?_,trivial⟩ λcR=>?_
 ·intro hd E' L' aF av;refine kH El λdc=>ag.nil ?_;exact an.place 3 (av 3 _ I I) (an.fin (cX [some dc]) I I)
 ·intro hd E' L' aF av;refine kH El λlg=>ag.nil ?_;exact an.place 4 (av 4 _ I I) (an.fin (cX [some lg]) I I)
 ·intro hd E' L' aF av;refine ag.store (i:=3) (aQ.id (Vector Bool 128)) (v:=ao) (b':=ao) A7 (ah (aF _ _ I)) (ah (aF _ _ I)) (av 3 _ I I) I I (ag.nil ?_);exact an.fin (cX []) I I
 ·intro hd E' L' aF av;refine ag.store (i:=4) (aQ.id (Vector Bool 128)) (v:=aE) (b':=aE) A7 (ah (aF _ _ I)) (ah (aF _ _ I)) (av 4 _ I I) I I (ag.nil ?_);exact an.fin (cX []) I I
 refine an.dq (L2:=[aJ b2 (default:aN),aJ bo ai,aJ bk ab,aJ ((cR 4 0).getD 0) ao,aJ ((cR 5 0).getD 0) aE]) I (e8 ?_);refine an.bw 3 I (an.bw 4 I (an.next (ay.seq (b5 (cS (ch (ay.block ?_)))))));refine aA h λar al h=>fh (γ:=Unit) (δ:=Unit) al [0,1,2,3,4,5,6] (λs1 g1=>[(12,J.of s1.1)]) (λs1 g1=>[(1,aJ ((cR 4 0).getD 0) s1.2)]) (λaw=>Exit.exit 0) (λaw g1=>[(12,J.of aw.1),(13,J.of aw.2.1)]) (λaw g1=>[(1,aJ ((cR 4 0).getD 0) aw.2.2)]) () (λs1 r h g1=>?_) λg1=>?_
 ·refine b5 (dW pR (hh ?_));refine kI h (λh=>?_) λh=>?_
  ·refine ly (ay.seq (ay.block (b5 (cS ?_))));refine dg (ch (ay.fm ?_));refine cS ?_;refine cS ?_;refine aA h λaI cQ h=>bx (hB (k:=aI) yB (ah I) (ah I) (cK cQ)) ?_;refine rJ 1 ((aQ.id (Vector Bool 128)).comp (aQ.idx (α:=Bool) 128 aI (cK cQ).1)) k7 ?_;refine cS ?_;refine jv cY ?_;refine aA h λbu c0 h=>iU (λhb=>hB (k:=bu) yB (ah I) (cf I hb) (cK (fe c0 hb))) ?_;refine iU (λhb=>jb (i:=0) ((aQ.id (Vector Bool 128)).comp (aQ.idx (α:=Bool) 128 bu (cK (fe c0 hb)).1)) (r:=bG aE bu) k7 (cf I hb) I I I) ?_;refine ET ?_;refine aA h λcB gr h=>bx (hB (k:=cB) yB (ah I) (ah I) (cK gr)) ?_;refine I8 1 ((aQ.id (Vector Bool 128)).comp (aQ.idx (α:=Bool) 128 cB (cK gr).1)) k7 (ag.nil ?_);refine an.mT (an.next (ay.fm (dW jS ?_)));refine cS (ag.nil ?_);cases h;exact hi () 0
  refine ay.exit (an.exit ?_);cases h;exact gu () 0
 refine an.lu (an.next (b5 (oL 1 A7 ?_)));refine aA h λbg dS h=>qM abw.ck (abw.m _ _ dS) ?_;refine tD 2 fx (ch (ay.ret ?_));cases h;exact an.SN I (EW 2 fx)
def qp{ab bY r}(h:nU ab=some r):nL prog 27 [J.cN bY] bY ab (J.of r.1) r.2:=by
 unfold nU at h;refine bN.of func27 I ntmps27 I λW A=>?_;refine aO ?_;refine ag.bw 0 I (aA h λao br h=>eH 1 gO (gK br) λaw=>?_);exact go
def afr{ab bY r}(h:Gw ab=some r):nL prog 23 [J.cN bY] bY ab (J.of r.1) r.2:=by
 unfold Gw at h;refine bN.of func23 I ntmps23 I λW A=>b5 (bx (dk (look_nil (α:=fw))) ?_);refine aO ?_;refine ag.bw 0 I (aA h λao br h=>eH 1 gO (gK br) λaw=>?_);refine aA h λaI cQ h=>BA cQ underlying56 cm ?_;refine dV (iw cm) ?_;refine bx (ue (b:=({(default:fw)with cb:=1,k1:=1,s5:=4,jR:=ax ([0,0,65535,3]:aa Int) aI}:fw)) [3] YF I amO aae (.cons Wp I (dd 1) I (by rfl) (.cons V2 I (dd 1) I (by rfl) (.cons V3 I (dd 4) I (by rfl) (.cons VV I (ah I) I (by rfl) (.nil)))))) ?_;refine ag.own (α:=jD) 143 (ag.sh (z:=(default:fw)) [3] YF aae I λbk=>ag.own (α:=jD) 143 (ag.wN (i:=1) aaf (ah I) (ah I) I (iy (bx (kC (b:=({(default:aN)with cI:=1#64}:aN)) I yA si (.cons lk I (uf 1 I) I (.nil))) ?_))));refine bx (kC (b:=({(default:aN)with cI:=15#64}:aN)) I yA si (.cons lk I (uf 15 I) I (.nil))) ?_;refine aA h λbp ev h=>qf ev (kC (b:= {b6:=({(default:aN)with cI:=1#64}:aN),hz:=({(default:aN)with cI:=15#64}:aN),wO:=2:jD}) I aag MM (.cons Pj I (ah I) I (.cons Pq I (ah I) I (.cons Pr I (dd 2) I (.nil))))) ?_;refine bx (kC (b:=({(default:aN)with cI:=2#64}:aN)) I yA si (.cons lk I (uf 2 I) I (.nil))) ?_;refine bx (kC (b:=({(default:aN)with cI:=3#64}:aN)) I yA si (.cons lk I (uf 3 I) I (.nil))) ?_;refine aA h λz2 hj h=>qf hj (kC (b:= {b6:=({(default:aN)with cI:=2#64}:aN),hz:=({(default:aN)with cI:=3#64}:aN),wO:=3:jD}) I aag MM (.cons Pj I (ah I) I (.cons Pq I (ah I) I (.cons Pr I (dd 3) I (.nil))))) ?_;refine ag.rF (α:=jD) (r:=[bp,z2]) underlying139 R3 MM I I (.cons (by simp) (ah I) (.cons (by simp) (ah I) (.nil))) I λei=>?_;refine dV (cg akj.fd) ?_;refine ag.j3 (i:=2) (γ:=jD) (b':=({({(default:fw)with cb:=1,k1:=1,s5:=4,jR:=ax ([0,0,65535,3]:aa Int) aI}:fw)with uj:=[]}:fw)) (os':=[(3,aP ei [bp,z2].length 2)]) ((aQ.id fw).comp K1) MN (ah I) (ah I) jo I I I I ?_;refine aO ?_;refine ag.bw 4 I (aA h λaE bZ h=>eH 1 qG (qp bZ) λcH=>ch ?_);refine aA h λm1 bR h=>il (γ:=(aD Nat×Nat)) [0,2,3,4,23] (λg1=>[]) (λg1=>[(0,aJ bY m1.1),(1,⟨g1.1,.row 143 m1.2 g1.2⟩),(3,⟨some bk,.cw ({({(default:fw)with cb:=1,k1:=1,s5:=4,jR:=ax ([0,0,65535,3]:aa Int) aI}:fw)with uj:=[]}:fw) [(3,aP g1.1 m1.2.length g1.2)]⟩)]) (λg1=>?_) (λhm ae=>?_) λhm ae=>?_
 ·refine aO ?_;refine ag.bw 0 I (aA h λbg dS h=>eH 1 gO (gK dS) λeJ=>?_);refine aO λbu c0 z3 l2 bo z4 sv b2 h=>?_;refine ag.bw 2 I (aA h λbt fa h=>eH 1 gO (gK fa) λht=>?_);refine dW pS (ch ?_);refine aA h λm2 c6 h=>il (γ:=Unit) [0,2,3,4,5,6,23,50] (λg2=>[]) (λg2=>[(0,aJ bY m2.1),(1,aJ b2 m2.2)]) (λg2=>?_) (λhm ae=>?_) λhm ae=>?_
  ·exact an.next (b5 (ag.nz (β:=fw) (γ:=jD) (b':=({({(default:fw)with cb:=1,k1:=1,s5:=4,jR:=ax ([0,0,65535,3]:aa Int) aI}:fw)with uj:=m1.2}:fw)) ((aQ.id fw).comp K1) 5 3 0 I I I I I I (ag.ti 5 I go)))
  ·have h:=fp ae c6;refine aO ?_;refine ag.bw 0 I (aA h λb3 hC h=>eH 1 gO (gK hC) λeA=>?_);exact go
  have h:=fq ae c6;exact go
 ·have h:=fp ae bR;refine aA h λcd im h=>aA h λog EU h=>aA h λcA lS h=>aA h λcB gr h=>aA h λkM Ny h=>aA h λb4 p3 h=>er [0,2,3,4,7,8,9,10,11,12,13,14,15,16,17,18,19,20,21,22,23] ?_;refine ay.ck 5 (aC 24 [] [] _::aC 25 [0] [3] (J.eq (aP ei [bp,z2].length 2))::aC 26 [] [] _::⟨some 27,[2],[0],[0],λ_=>J.of cd.1,λhd _=>aJ bY cd.2⟩::aC 28 [3] [] _::aC 29 [4] [] _::aC 30 [5] [] _::aC 31 [] [] _::aC 32 [] [] _::aC 33 [] [] _::⟨some 34,[3,9],[0],[0],λ_=>J.of cA.1,λhd _=>aJ bY cA.2⟩::aC 35 [8,10] [] _::aC 36 [11] [] _::aC 37 [6,7,12] [] _::aC 38 [13] [] _::⟨some 39,[1,14],[1],[1],λhd=>J.eq (aP (hd 15 0) b4.length ((hd 15 1).getD 0)),λhd _=>⟨(hd 15 0),.row 143 b4 ((hd 15 1).getD 0)⟩⟩::aC 40 [] [] _::fz [1,15,16] [3] [3] (λhd=>⟨some bk,.cw ({({(default:fw)with cb:=1,k1:=1,s5:=4,jR:=ax ([0,0,65535,3]:aa Int) aI}:fw)with uj:=[]}:fw) [(3,aP (hd 15 0) b4.length ((hd 15 1).getD 0))]⟩)::[]) (dO ?_ (dO ?_ (dO ?_ (dO ?_ (dO ?_ h9))))) (λcR=>?_)
  ·exact gX.q (qg λhd E' L' aF av=>h0 (i:=3) (q:=0) (β:=fw) (γ:=jD) MN (ah (aF _ _ I)) (av 3 _ I I) I)
  ·intro hd E' L' aF av cc;exact ag.bw 0 (av 0 _ I I) (ag.lK (Lin:=[aJ bY aE.2]) (Lr:=L'.eraseIdx 0) gO (gK im) ⟨ah (aF _ _ I),dd 2,trivial⟩ I λec=>ag.nil (an.back 0 (av 0 _ I I) (an.fin (cX []) I I)))
  ·intro hd E' L' aF av cc;exact ag.bw 0 (av 0 _ I I) (ag.lK (Lin:=[aJ bY cd.2]) (Lr:=L'.eraseIdx 0) gO (gK lS) ⟨ah (aF _ _ I),dd 4,trivial⟩ I λlD=>ag.nil (an.back 0 (av 0 _ I I) (an.fin (cX []) I I)))
  ·intro hd E' L' aF av cc;refine ag.app (i:=1) underlying139 R3 MM (bytes:=40) (by kernel_rfl) (ah (aF _ _ I)) (av 1 _ I I) (ah (aF _ _ I)) p3 I λjU dR=>?_;exact ag.nil (an.fin (cX [jU,some dR]) I I)
  ·intro hd E' L' aF av cc;refine ag.j3 (i:=3) (γ:=jD) (b':=({({(default:fw)with cb:=1,k1:=1,s5:=4,jR:=ax ([0,0,65535,3]:aa Int) aI}:fw)with uj:=[]}:fw)) (os':=[(3,aP (hd 15 0) b4.length ((hd 15 1).getD 0))]) ((aQ.id fw).comp K1) MN (ah (aF _ _ I)) (ah (aF _ _ I)) jo (av 3 _ I I) I I I (ag.nil ?_);exact an.fin (cX []) I I
  refine an.dq (L2:=[aJ bY cA.2,⟨(cR 15 0),.row 143 b4 ((cR 15 1).getD 0)⟩,⟨none,.row 143 ([]:aa jD) 0⟩,⟨some bk,.cw ({({(default:fw)with cb:=1,k1:=1,s5:=4,jR:=ax ([0,0,65535,3]:aa Int) aI}:fw)with uj:=[]}:fw) [(3,aP (cR 15 0) b4.length ((cR 15 1).getD 0))]⟩,⟨none,.row 143 ([]:aa jD) 0⟩]) I (e8 ?_);cases h;exact dU 0 (hm ((cR 15 0),((cR 15 1).getD 0)))
 have h:=fq ae bR;refine ay.skip ?_;cases h;exact dU 0 (hm (ei,2))
def afa{ab bY r}(h:Gi ab=some r):nL prog 24 [J.cN bY] bY ab (J.of r.1) r.2:=by
 unfold Gi at h;refine bN.of func24 I ntmps24 I λW A=>b5 (bx (dk (look_nil (α:=fV))) ?_);refine aO λbk=>?_;refine aA h λbp ev h=>aA h λz2 hj h=>aA h λz3 l2 h=>aA h λz4 sv h=>aA h λz5 xh h=>aA h λoT I7 h=>aA h λog EU h=>aA h λkM Ny h=>aA h λz9 Tw h=>aA h λqN abG h=>aA h λqO abH h=>aA h λz12 II h=>aA h λn5 SO h=>aA h λao br h=>aA h λp4 SP h=>aA h λaE bZ h=>aA h λuJ SQ h=>aA h λBB apJ h=>aA h λz17 apK h=>ay.mW 1 (er [0,2,3,5] ?_);refine ay.ck 3 (aC 6 [] [] _::aC 7 [] [] _::aC 8 [1] [] _::aC 9 [2] [] _::aC 10 [] [] _::aC 11 [4] [] _::aC 12 [] [0] _::aC 13 [6] [] _::aC 14 [7] [] _::aC 15 [5,8] [] _::aC 16 [] [] _::aC 17 [10] [] _::aC 18 [] [0] _::aC 19 [12] [] _::aC 20 [] [] _::aC 21 [14] [] _::aC 22 [13,15] [] _::aC 23 [11,16] [] _::aC 24 [] [] _::aC 25 [] [] _::aC 26 [18,19] [] _::aC 27 [] [] _::aC 28 [] [0] _::aC 29 [22] [] _::aC 30 [] [] _::aC 31 [24] [] _::aC 32 [21,23,25] [] _::aC 33 [20,26] [] _::aC 34 [] [] _::⟨some 35,[28],[1],[1],λ_=>J.of ao.1,λhd _=>aJ bY ao.2⟩::aC 36 [29] [] _::aC 37 [30] [] _::aC 38 [] [] _::⟨some 39,[29,32],[1],[1],λ_=>J.of aE.1,λhd _=>aJ bY aE.2⟩::aC 40 [33] [] _::aC 41 [34] [] _::aC 42 [35] [] _::aC 43 [36] [] _::aC 44 [31,37] [] _::aC 45 [38] [] _::⟨some 46,[0,3,9,17,27,39],[2],[2],λhd=>J.eq (aP (hd 40 0) [bp,z2,z5,kM,n5,z17].length 6),λhd _=>⟨(hd 40 0),.row 149 ([bp,z2,z5,kM,n5,z17]:aa fV) 6⟩⟩::⟨some 4,[40],[],[],λhd=>J.eq (aP (hd 40 0) [bp,z2,z5,kM,n5,z17].length 6),λ_ _=>⟨none,.dead⟩⟩::[]) (dO ?_ (dO ?_ (dO ?_ (dO ?_ h9)))) (λcR=>?_)
 ·intro hd E' L' aF av cc;exact ag.bw 1 (av 1 _ I I) (ag.lK (Lin:=[aJ bY ab]) (Lr:=L'.eraseIdx 1) gO (gK br) ⟨ah (aF _ _ I),dd 2,trivial⟩ I λaw=>ag.nil (an.back 1 (av 1 _ I I) (an.fin (cX []) I I)))
 ·intro hd E' L' aF av cc;exact ag.bw 1 (av 1 _ I I) (ag.lK (Lin:=[aJ bY ao.2]) (Lr:=L'.eraseIdx 1) gO (gK bZ) ⟨ah (aF _ _ I),dd 256,trivial⟩ I λcH=>ag.nil (an.back 1 (av 1 _ I I) (an.fin (cX []) I I)))
 ·intro hd E' L' aF av cc;refine ag.rF (α:=fV) (r:=[bp,z2,z5,kM,n5,z17]) underlying26 MO amP I I (.cons (by simp) (ah (aF _ _ I)) (.cons (by simp) (ah (aF _ _ I)) (.cons (by simp) (ah (aF _ _ I)) (.cons (by simp) (ah (aF _ _ I)) (.cons (by simp) (ah (aF _ _ I)) (.cons (by simp) (ah (aF _ _ I)) (.nil))))))) I λei=>?_;exact ag.nil (an.place 2 (av 2 _ I I) (an.fin (cX [ei]) I I))
 ·intro hd E' L' aF av cc;refine bx (dk (ah (aF _ _ I))) (ag.nil ?_);exact an.fin (cX []) I I
 refine an.dq (L2:=[aJ bk ({(default:kf)with dQ:=3}:kf),aJ bY aE.2,⟨(cR 40 0),.row 149 ([bp,z2,z5,kM,n5,z17]:aa fV) 6⟩]) I (e8 ?_);refine an.bw 2 I (aO ?_);refine ag.bw 2 I (aA h λbg dS h=>eH 1 qG (qp dS) λeJ=>ch ?_);refine aA h λm1 bR h=>il (γ:=(aD Nat×Nat)) [0,2,3,48] (λg1=>[(4,J.eq (aP g1.1 m1.length g1.2))]) (λg1=>[(1,⟨g1.1,.row 149 m1 g1.2⟩)]) (λg1=>?_) (λhm ae=>?_) λhm ae=>?_
 ·refine aO ?_;refine ag.bw 0 I (aA h λbt fa h=>eH 1 qG (qp fa) λht=>ch ?_);refine aA h λm2 c6 h=>il (γ:=(aD Nat×Nat)) [0,2,3,48,53] (λg2=>[(4,J.eq (aP g2.1 m2.length g2.2))]) (λg2=>[(1,⟨g2.1,.row 149 m2 g2.2⟩)]) (λg2=>?_) (λhm ae=>?_) λhm ae=>?_
  ·refine aO ?_;exact an.kg (α:=fV) 1 [2,4,57] ⟨rfl,rfl,rfl,trivial⟩ I go
  ·have h:=fp ae c6;refine ay.fm (cS ?_);refine aA h λaI cQ h=>bx (mo (i:=1) (k:=aI) (xs:=(m1:aa fV)) underlying26 MO (ah I) (dd 4) I (cK cQ)) ?_;refine dV (cg YG.fd) ?_;refine aA h λyX Na h=>ag.AT (i:=1) (k:=aI) ((aQ.id fV).comp Oy) (v:=(ByteArray.mk #[120,32,60,32,121,32,124,124,32,120,32,61,61,32,49,53]:ByteArray)) (r:=(yX:aa fV)) sw (ah I) (iN (ByteArray.mk #[120,32,60,32,121,32,124,124,32,120,32,61,61,32,49,53])) I (cK cQ).1 I (dy Na) (ag.kE (m:=yX.length) 4 I (lJ (dy Na)) (ag.kE (m:=yX.length) 54 I (lJ (dy Na)) (ag.nil ?_)));cases h;exact dU 0 (hm (g1.1,g1.2))
  have h:=fq ae c6;refine ay.skip ?_;cases h;exact dU 0 (hm (g1.1,g1.2))
 ·have h:=fp ae bR;refine ay.fm (cS ?_);refine aA h λbu c0 h=>bx (mo (i:=1) (k:=bu) (xs:=([bp,z2,z5,kM,n5,z17]:aa fV)) underlying26 MO (ah I) (dd 2) I (cK c0)) ?_;refine dV (cg YG.fd) ?_;refine aA h λxj IJ h=>ag.AT (i:=1) (k:=bu) ((aQ.id fV).comp Oy) (v:=(ByteArray.mk #[112,111,114,116,32,33,61,32,48]:ByteArray)) (r:=(xj:aa fV)) sw (ah I) (iN (ByteArray.mk #[112,111,114,116,32,33,61,32,48])) I (cK c0).1 I (dy IJ) (ag.kE (m:=xj.length) 4 I (lJ (dy IJ)) (ag.kE (m:=xj.length) 46 I (lJ (dy IJ)) (ag.kE (m:=xj.length) 49 I (lJ (dy IJ)) (ag.nil ?_))));cases h;exact dU 0 (hm ((cR 40 0),6))
 have h:=fq ae bR;refine ay.skip ?_;cases h;exact dU 0 (hm ((cR 40 0),6))
def afs{ab bY r}(h:Gx ab=some r):nL prog 25 [J.cN bY] bY ab (J.of r.1) r.2:=by
 unfold Gx at h;refine bN.of func25 I ntmps25 I λW A=>b5 (bx (dk (look_nil (α:=cy))) ?_);refine aO λbp ev h=>?_;refine ag.bw 0 I (aA h λao br h=>eH 1 gO (gK br) λaw=>?_);refine aO ?_;refine ag.bw 0 I (aA h λaE bZ h=>eH 1 gO (gK bZ) λcH=>?_);refine dW jS ?_;refine aA h λz2 hj h=>qf hj (kC (b:=({(default:cy)with cb:=1,dt:=ByteArray.mk #[112,111,114,116,115],cr:=[bp],dY:=([1,2,4]:aa Int),jR:=bm (1+ao.1),ij:=bm (2+aE.1)}:cy)) I Nb vK (.cons x1 I (dd 1) I (.cons K8 I (iN (ByteArray.mk #[112,111,114,116,115])) I (.cons sU I (ah I) I (.cons zV I (ah I) I (.cons KQ I (ah I) I (.cons GM I (ah I) I (.nil)))))))) ?_;refine kH vK λbk=>?_;refine tD 0 qH (iy ?_);refine aA h λz3 l2 h=>qf l2 (kC (b:= {dt:=ByteArray.mk #[100],jq:=7,dQ:=2:dC}) I MP uv (.cons G1 I (iN (ByteArray.mk #[100])) I (.cons GX I (dd 7) I (.cons wv I (dd 2) I (.nil))))) ?_;refine ag.rF (α:=dC) (r:=[z3]) underlying82 tk uv I I (.cons (by simp) (ah I) (.nil)) I λei=>?_;refine aO ?_;refine ag.bw 2 I (aA h λbg dS h=>eH 1 gO (gK dS) λeJ=>?_);refine dW jS ?_;refine bx (ue (b:=({(default:cy)with cb:=2,dt:=ByteArray.mk #[114,111,117,116,101,115],dY:=([1,2,3,4]:aa Int),jR:=2,ij:=bm (3+bg.1)}:cy)) [] Ri I Nb vK (.cons x1 I (dd 2) I (by rfl) (.cons K8 I (iN (ByteArray.mk #[114,111,117,116,101,115])) I (by rfl) (.hole sU I (ah I) jo I I (.cons zV I (ah I) I (by rfl) (.cons KQ I (dd 2) I (by rfl) (.cons GM I (ah I) I (by rfl) (.nil)))))))) ?_;refine ag.sh (z:=(default:cy)) [2] Rj vK I λbo=>ag.own (α:=dC) 155 (ag.wN (i:=1) qH (ah I) (ah I) I ?_);refine aO ?_;refine ag.bw 2 I (aA h λbt fa h=>eH 1 qG (qp fa) λht=>ch ?_);refine aA h λm1 bR h=>il (γ:=(aD Nat×Nat)) [0,2,3,4,28] (λg1=>[]) (λg1=>[(2,⟨some bo,.cw m1.1 [(2,aP g1.1 m1.2.length g1.2)]⟩),(3,⟨g1.1,.row 155 m1.2 g1.2⟩)]) (λg1=>?_) (λhm ae=>?_) λhm ae=>?_
 ·refine an.next (b5 (aA h λz4 sv h=>qf sv (kC (b:= {dt:=ByteArray.mk #[101],jq:=6,dQ:=3:dC}) I MP uv (.cons G1 I (iN (ByteArray.mk #[101])) I (.cons GX I (dd 6) I (.cons wv I (dd 3) I (.nil))))) ?_))
  refine aA h λz5 xh h=>qf xh (kC (b:= {dt:=ByteArray.mk #[97],jq:=4,dQ:=3:dC}) I MP uv (.cons G1 I (iN (ByteArray.mk #[97])) I (.cons GX I (dd 4) I (.cons wv I (dd 3) I (.nil))))) ?_;refine ag.rF (α:=dC) (r:=[z4,z5]) underlying82 tk uv I I (.cons (by simp) (ah I) (.cons (by simp) (ah I) (.nil))) I λjU=>?_;refine aO ?_;refine ag.bw 1 I (aA h λb3 hC h=>eH 1 gO (gK hC) λeA=>?_);refine dW jS ?_;refine bx (ue (b:=({(default:cy)with cb:=3,dt:=ByteArray.mk #[97,99,108],dY:=([1,2,3,5,6]:aa Int),jR:=1,ij:=bm (4+b3.1)}:cy)) [] Ri I Nb vK (.cons x1 I (dd 3) I (by rfl) (.cons K8 I (iN (ByteArray.mk #[97,99,108])) I (by rfl) (.hole sU I (ah I) jo I I (.cons zV I (ah I) I (by rfl) (.cons KQ I (dd 1) I (by rfl) (.cons GM I (ah I) I (by rfl) (.nil)))))))) ?_;refine ag.sh (z:=(default:cy)) [2] Rj vK I λb2=>ag.own (α:=dC) 155 (ag.wN (i:=1) qH (ah I) (ah I) I ?_);refine aO ?_;refine ag.bw 2 I (aA h λcd im h=>eH 1 qG (qp im) λec=>ch ?_);refine aA h λm2 c6 h=>il (γ:=(aD Nat×Nat)) [0,2,3,4,5,28,44] (λg2=>[]) (λg2=>[(2,⟨some b2,.cw m2.1 [(2,aP g2.1 m2.2.length g2.2)]⟩),(3,⟨g2.1,.row 155 m2.2 g2.2⟩)]) (λg2=>?_) (λhm ae=>?_) λhm ae=>?_
  ·refine an.next (b5 (aA h λoT I7 h=>qf I7 (kC (b:= {dt:=ByteArray.mk #[102],jq:=8,dQ:=4:dC}) I MP uv (.cons G1 I (iN (ByteArray.mk #[102])) I (.cons GX I (dd 8) I (.cons wv I (dd 4) I (.nil))))) ?_))
   refine ag.rF (α:=dC) (r:=[oT]) underlying82 tk uv I I (.cons (by simp) (ah I) (.nil)) I λny=>?_;refine aO ?_;refine ag.bw 1 I (aA h λcA lS h=>eH 1 gO (gK lS) λlD=>?_);refine dW jS ?_;refine bx (ue (b:=({(default:cy)with cb:=4,dt:=ByteArray.mk #[115,112,97,110,115],dY:=([1,3,5]:aa Int),jR:=3,An:=[({(default:aN)with cI:=7#64}:aN)],ij:=bm (3+cA.1)}:cy)) [] Ri I Nb vK (.cons x1 I (dd 4) I (by rfl) (.cons K8 I (iN (ByteArray.mk #[115,112,97,110,115])) I (by rfl) (.hole sU I (ah I) jo I I (.cons zV I (ah I) I (by rfl) (.cons KQ I (dd 3) I (by rfl) (.cons aez I (ah I) I (by rfl) (.cons GM I (ah I) I (by rfl) (.nil))))))))) ?_;refine ag.sh (z:=(default:cy)) [2] Rj vK I λdc=>ag.own (α:=dC) 155 (ag.wN (i:=1) qH (ah I) (ah I) I ?_);refine aO ?_;refine ag.bw 2 I (aA h λb4 p3 h=>eH 1 qG (qp p3) λJ2=>ch ?_);refine aA h λm3 fZ h=>il (γ:=(aD Nat×Nat)) [0,2,3,4,5,6,28,44,61] (λg3=>[]) (λg3=>[(2,⟨some dc,.cw m3.1 [(2,aP g3.1 m3.2.length g3.2)]⟩),(3,⟨g3.1,.row 155 m3.2 g3.2⟩)]) (λg3=>?_) (λhm ae=>?_) λhm ae=>?_
   ·refine an.next (b5 (oL 10 qH ?_))
    refine ag.nz (β:=cy) (γ:=dC) (b':=({m1.1 with cr:=m1.2}:cy)) ((aQ.id cy).comp sU) 8 9 0 I I I I I I (ag.ti 8 I (oL 8 qH ?_));refine ag.nz (β:=cy) (γ:=dC) (b':=({m2.1 with cr:=m2.2}:cy)) ((aQ.id cy).comp sU) 5 6 0 I I I I I I (ag.ti 5 I (oL 5 qH ?_));refine ag.nz (β:=cy) (γ:=dC) (b':=({m3.1 with cr:=m3.2}:cy)) ((aQ.id cy).comp sU) 2 3 0 I I I I I I (ag.ti 2 I (oL 2 qH ?_));refine aA h λog EU h=>ag.abI (α:=cy) (r0:=[z2,({m1.1 with cr:=m1.2}:cy),({m2.1 with cr:=m2.2}:cy),({m3.1 with cr:=m3.2}:cy)]) (r:=og) underlying27 qH vK I I (.cons (by simp) (ah I) (.cons (by simp) (ah I) (.cons (by simp) (ah I) (.cons (by simp) (ah I) (.nil))))) (dy EU) I λsn=>?_;refine aO λkM Ny z9 Tw qN abG qO abH h=>?_;refine bx (qy (i:=0) underlying27 (ah I) I I) ?_;refine cS (ch (ay.block ?_));refine aA h λar al h=>fh (γ:=(aD Nat×Nat)) (δ:=(aD Nat×Nat)) al [0,2,3,4,5,6,8,28,44,61,80] (λs1 g4=>[(7,J.eq (aP g4.1 s1.2.1.length g4.2)),(81,J.of s1.1)]) (λs1 g4=>[(0,⟨g4.1,.row 84 s1.2.1 g4.2⟩),(1,aJ bY s1.2.2)]) (λtS=>Exit.exit 0) (λtS g4=>[(7,J.eq (aP g4.1 tS.2.2.1.length g4.2)),(81,J.of tS.1),(82,J.of tS.2.1)]) (λtS g4=>[(0,⟨g4.1,.row 84 tS.2.2.1 g4.2⟩),(1,aJ bY tS.2.2.2)]) (sn,4) (λs1 r h g4=>?_) λg4=>?_
    ·refine go2 (λh=>?_) (λh=>?_)
     ·refine aA h λaI cQ h=>aA h λdH qP h=>aA h λbu c0 h=>aA h λcB gr h=>aA h λz12 II h=>er [0,2,3,4,5,6,7,8,9,28,44,61,80,81,82,83] ?_;refine ay.tQ mixed (aC 84 [] [] _::aC 85 [] [] _::aC 86 [] [] _::aC 87 [] [] _::aC 88 [2,3] [] _::aC 89 [4] [] _::aC 90 [] [] _::⟨some 91,[6],[1],[1],λ_=>J.of dH.1,λhd _=>aJ bY dH.2⟩::aC 92 [5,7] [] _::aC 93 [8] [] _::aC 94 [0,1] [0] _::aC 95 [10] [] _::fz [9,10,11] [0] [0] (λhd=>⟨g4.1,.row 84 z12 g4.2⟩)::[]) ⟨iY,iY,iY,iY,gU λaF av=>tl (k:=aI) underlying157 R4 (ah (aF _ _ I)) (ah (aF _ _ I)) (cK cQ),hU (iw R4),iY,?_,gU λaF av=>tl (k:=bu) underlying156 sw (ah (aF _ _ I)) (ah (aF _ _ I)) (cK c0),hU (iw sw),gU λaF av=>mo (i:=0) (k:=cB) (xs:=(s1.2.1:aa cy)) underlying27 qH (ah (aF _ _ I)) (ah (aF _ _ I)) (av 0 _ I I) (cK gr),hU (cg alq.fd),?_,trivial⟩ λcR=>?_
      ·intro hd E' L' aF av;refine ag.bw 1 (av 1 _ I I) (ag.lK (Lin:=[aJ bY s1.2.2]) (Lr:=L'.eraseIdx 1) gO (gK qP) ⟨ah (aF _ _ I),dd 3,trivial⟩ I λI9=>ag.nil (an.back 1 (av 1 _ I I) ?_));exact an.fin (cX []) I I
      ·intro hd E' L' aF av;refine ag.AT (i:=0) (k:=cB) ((aQ.id cy).comp Vu) (v:=(ax (ax [kM,z9,qN,qO] aI) bu:ByteArray)) (r:=(z12:aa cy)) sw (ah (aF _ _ I)) (ah (aF _ _ I)) (av 0 _ I I) (cK gr).1 I (dy II) (ag.nil ?_);exact an.fin (cX []) I I
      refine an.dq (L2:=[⟨g4.1,.row 84 z12 g4.2⟩,aJ bY dH.2,⟨none,.row 155 ([]:aa dC) 0⟩,aJ dc ({m3.1 with cr:=m3.2}:cy),⟨none,.dead⟩,⟨none,.row 155 ([]:aa dC) 0⟩,aJ b2 ({m2.1 with cr:=m2.2}:cy),⟨none,.dead⟩,⟨none,.row 155 ([]:aa dC) 0⟩,aJ bo ({m1.1 with cr:=m1.2}:cy),⟨none,.dead⟩,aJ bk z2]) I (an.kE (m:=z12.length) 7 I (lJ (dy II)) (an.kE (m:=z12.length) 84 I (lJ (dy II)) (e8 ?_)));refine aO ?_;cases h;exact hi (g4.1,g4.2) 0
     cases h;exact gu (g4.1,g4.2) 0
    refine aO ?_;exact an.kg (α:=cy) 0 [2,7,97] ⟨rfl,rfl,rfl,trivial⟩ I go
   ·have h:=fp ae fZ;refine ay.fm (dV (cg AU.fd) ?_);refine bx (h0 (i:=2) (q:=0) (β:=cy) (γ:=dC) yI (ah I) I I) ?_;refine aO λn5 SO p4 SP h=>?_;refine aA h λfH uA h=>iQ 3 underlying82 tk uv uA λvJ dR=>?_;refine dV (cg AU.fd) ?_;refine ag.j3 (i:=2) (γ:=dC) (b':=({({(default:cy)with cb:=4,dt:=ByteArray.mk #[115,112,97,110,115],dY:=([1,3,5]:aa Int),jR:=3,An:=[({(default:aN)with cI:=7#64}:aN)],ij:=bm (3+cA.1)}:cy)with cr:=[]}:cy)) (os':=[(2,aP vJ fH.length dR)]) ((aQ.id cy).comp sU) yI (ah I) (ah I) jo I I I I (ag.nil ?_);cases h;exact dU 0 (hm (vJ,dR))
   have h:=fq ae fZ;refine ay.skip ?_;cases h;exact dU 0 (hm (ny,1))
  ·have h:=fp ae c6;refine ay.fm (dV (cg AU.fd) ?_);refine bx (h0 (i:=2) (q:=0) (β:=cy) (γ:=dC) yI (ah I) I I) ?_;refine aO λuJ SQ h=>?_;refine aA h λhl tt h=>iQ 3 underlying82 tk uv tt λIF mq=>?_;refine dV (cg AU.fd) ?_;refine ag.j3 (i:=2) (γ:=dC) (b':=({({(default:cy)with cb:=3,dt:=ByteArray.mk #[97,99,108],dY:=([1,2,3,5,6]:aa Int),jR:=1,ij:=bm (4+b3.1)}:cy)with cr:=[]}:cy)) (os':=[(2,aP IF hl.length mq)]) ((aQ.id cy).comp sU) yI (ah I) (ah I) jo I I I I (ag.nil ?_);cases h;exact dU 0 (hm (IF,mq))
  have h:=fq ae c6;refine ay.skip ?_;cases h;exact dU 0 (hm (jU,2))
 ·have h:=fp ae bR;refine ay.fm (dV (cg AU.fd) ?_);refine bx (h0 (i:=2) (q:=0) (β:=cy) (γ:=dC) yI (ah I) I I) ?_;refine aO λBB apJ h=>?_;refine aA h λhn Bj h=>iQ 3 underlying82 tk uv Bj λabJ rG=>?_;refine dV (cg AU.fd) ?_;refine ag.j3 (i:=2) (γ:=dC) (b':=({({(default:cy)with cb:=2,dt:=ByteArray.mk #[114,111,117,116,101,115],dY:=([1,2,3,4]:aa Int),jR:=2,ij:=bm (3+bg.1)}:cy)with cr:=[]}:cy)) (os':=[(2,aP abJ hn.length rG)]) ((aQ.id cy).comp sU) yI (ah I) (ah I) jo I I I I (ag.nil ?_);cases h;exact dU 0 (hm (abJ,rG))
 have h:=fq ae bR;refine ay.skip ?_;cases h;exact dU 0 (hm (ei,1))
def afQ{ab ai bY r}(h:z7 ab ai=some r):nL prog 26 [J.cN bY,J.of ai] bY ab (J.of r.1) r.2:=by
 unfold z7 at h;refine bN.of func26 I ntmps26 I λW A=>b5 (bx (dk (look_nil (α:=dN))) (iy ?_));refine asi ([1,2,3,4,5,6]:aa Int) underlying56 cm su ?_;refine bx (ue (b:=({(default:dN)with cb:=1,dt:=ByteArray.mk #[97,108,108],dY:=([1,2,3,4,5,6]:aa Int),kh:=40,HZ:=true}:dN)) [2] D8 I SR Ez (.cons G8 I (dd 1) I (by rfl) (.cons Ps I (iN (ByteArray.mk #[97,108,108])) I (by rfl) (.cons O5 I (ah I) I (by rfl) (.cons GN I (dd 40) I (by rfl) (.cons afR I (iL true) I (by rfl) (.nil))))))) ?_;refine ag.own (α:=fR) 160 (ag.sh (z:=(default:dN)) [2] D8 Ez I λbk=>ag.own (α:=fR) 160 (ag.wN (i:=1) w1 (ah I) (ah I) I ?_));refine aO ?_;refine ag.bw 3 I (aA h λao br h=>eH 1 gO (gK br) λaw=>?_);refine aO ?_;refine ag.bw 0 I (aA h λaE bZ h=>eH 1 gO (gK bZ) λcH=>?_);refine dW jS ?_;refine bx (ue (b:=({(default:dN)with cb:=2,dt:=ByteArray.mk #[115,111,109,101],dY:=([1,2,bm (3+ao.1)]:aa Int),kh:=bm (1+aE.1)}:dN)) [2] D8 I SR Ez (.cons G8 I (dd 2) I (by rfl) (.cons Ps I (iN (ByteArray.mk #[115,111,109,101])) I (by rfl) (.cons O5 I (ah I) I (by rfl) (.cons GN I (ah I) I (by rfl) (.nil)))))) ?_;refine ag.own (α:=fR) 160 (ag.sh (z:=(default:dN)) [2] D8 Ez I λbo=>ag.own (α:=fR) 160 (ag.wN (i:=1) w1 (ah I) (ah I) I ?_));refine aO ?_;refine ag.bw 3 I (aA h λbg dS h=>eH 1 gO (gK dS) λeJ=>?_);refine aO ?_;refine ag.bw 0 I (aA h λbt fa h=>eH 1 gO (gK fa) λht=>?_);refine bx (ue (b:=({(default:dN)with cb:=7,dt:=ByteArray.mk #[102,101,119],dY:=[bm (1+bg.1)],kh:=bt.1}:dN)) [2] D8 I SR Ez (.cons G8 I (dd 7) I (by rfl) (.cons Ps I (iN (ByteArray.mk #[102,101,119])) I (by rfl) (.cons O5 I (ah I) I (by rfl) (.cons GN I (ah I) I (by rfl) (.nil)))))) ?_;refine ag.own (α:=fR) 160 (ag.sh (z:=(default:dN)) [2] D8 Ez I λb2=>ag.own (α:=fR) 160 (ag.wN (i:=1) w1 (ah I) (ah I) I ?_));refine aO ?_;refine aA h λar al h=>fh (γ:=(aD Nat×Nat)×(aD Nat×Nat)×(aD Nat×Nat)) (δ:=(aD Nat×Nat)×(aD Nat×Nat)×(aD Nat×Nat)) al [0,1,4,5,6,7,30,31] (λs1 g1=>[(32,J.of s1.1)]) (λs1 g1=>[(1,⟨some b2,.cw s1.2.1 [(2,aP g1.1.1 s1.2.2.1.length g1.1.2)]⟩),(2,⟨g1.1.1,.row 160 s1.2.2.1 g1.1.2⟩),(3,aJ bY s1.2.2.2.1),(5,⟨some bo,.cw s1.2.2.2.2.1 [(2,aP g1.2.1.1 s1.2.2.2.2.2.1.length g1.2.1.2)]⟩),(6,⟨g1.2.1.1,.row 160 s1.2.2.2.2.2.1 g1.2.1.2⟩),(8,⟨some bk,.cw s1.2.2.2.2.2.2.1 [(2,aP g1.2.2.1 s1.2.2.2.2.2.2.2.length g1.2.2.2)]⟩),(9,⟨g1.2.2.1,.row 160 s1.2.2.2.2.2.2.2 g1.2.2.2⟩)]) (λeA=>Exit.exit 0) (λeA g1=>[(32,J.of eA.1),(33,J.of eA.2.1)]) (λeA g1=>[(1,⟨some b2,.cw eA.2.2.1 [(2,aP g1.1.1 eA.2.2.2.1.length g1.1.2)]⟩),(2,⟨g1.1.1,.row 160 eA.2.2.2.1 g1.1.2⟩),(3,aJ bY eA.2.2.2.2.1),(5,⟨some bo,.cw eA.2.2.2.2.2.1 [(2,aP g1.2.1.1 eA.2.2.2.2.2.2.1.length g1.2.1.2)]⟩),(6,⟨g1.2.1.1,.row 160 eA.2.2.2.2.2.2.1 g1.2.1.2⟩),(8,⟨some bk,.cw eA.2.2.2.2.2.2.2.1 [(2,aP g1.2.2.1 eA.2.2.2.2.2.2.2.2.length g1.2.2.2)]⟩),(9,⟨g1.2.2.1,.row 160 eA.2.2.2.2.2.2.2.2 g1.2.2.2⟩)]) ((none,0),(none,0),(none,0)) (λs1 r h g1=>?_) λg1=>?_
 ·refine go2 (λaI cQ dc h=>?_) (λh=>?_)
  ·refine aA h λb3 hC h=>ag.acV underlying158 k7 acW I (by kernel_rfl) (ah I) (ah I) hC I λei=>?_;refine aO ?_;refine aA h λcd im h=>ag.acV underlying158 k7 acW I (by kernel_rfl) (ah I) (ah I) im I λjU=>?_;refine aO ?_;refine bx (qy (i:=1) underlying158 (ah I) I I) ?_;refine cS (ch (ay.block ?_));refine aA h λaS al h=>fh (γ:=(aD Nat×Nat)×(aD Nat×Nat)) (δ:=(aD Nat×Nat)×(aD Nat×Nat)) al [0,1,4,5,6,7,9,30,31,32,33,45] (λs2 g2=>[(10,J.eq (aP g2.2.1 s2.2.2.1.length g2.2.2)),(11,J.eq (aP g2.1.1 s2.2.1.length g2.1.2)),(46,J.of s2.1)]) (λs2 g2=>[(0,⟨g2.1.1,.row 4 s2.2.1 g2.1.2⟩),(1,⟨g2.2.1,.row 4 s2.2.2.1 g2.2.2⟩),(6,aJ bY s2.2.2.2)]) (λec=>Exit.exit 2) (λec g2=>[(10,J.eq (aP g2.2.1 ec.2.2.2.1.length g2.2.2)),(11,J.eq (aP g2.1.1 ec.2.2.1.length g2.1.2)),(46,J.of ec.1),(47,J.of ec.2.1)]) (λec g2=>[(0,⟨g2.1.1,.row 4 ec.2.2.1 g2.1.2⟩),(1,⟨g2.2.1,.row 4 ec.2.2.2.1 g2.2.2⟩),(6,aJ bY ec.2.2.2.2)]) ((jU,cd.length),(ei,b3.length)) (λs2 r h g2=>?_) λg2=>?_
   ·refine go2 (λh=>?_) (λh=>?_)
    ·refine ag.bw 6 I (aA h λcA lS h=>eH 1 gO (gK lS) λlD=>?_);refine dW Em ?_;refine aA h λbu c0 h=>bx (mo (i:=2) (k:=bu) (xs:=(s2.2.2.1:aa Bool)) underlying158 k7 (ah I) (ah I) I (cK c0)) ?_;refine ag.AT (i:=2) (k:=bu) (aQ.id Bool) (v:=true) (r:=(ix s2.2.2.1 bu true:aa Bool)) k7 (ah I) (iL true) I (cK c0).1 I I (ag.kE (m:=(ix s2.2.2.1 bu true).length) 10 I (lJ I) (ag.kE (m:=(ix s2.2.2.1 bu true).length) 49 I (lJ I) (aA h λcB gr h=>bx (mo (i:=1) (k:=cB) (xs:=(s2.2.1:aa Bool)) underlying158 k7 (ah I) (ah I) I (cK gr)) ?_)));refine ag.AT (i:=1) (k:=cB) (aQ.id Bool) (v:=(decide (cA.1>0):Bool)) (r:=(ix s2.2.1 cB (decide (cA.1>0)):aa Bool)) k7 (ah I) (ah I) I (cK gr).1 I I (ag.kE (m:=(ix s2.2.1 cB (decide (cA.1>0))).length) 11 I (lJ I) (ag.kE (m:=(ix s2.2.1 cB (decide (cA.1>0))).length) 51 I (lJ I) ?_));refine aO ?_;refine an.bw 6 I (an.bw 6 I (an.bw 6 I (an.bw 6 I (an.bw 6 I (an.bw 6 I ?_)))));cases h;exact hi ((g2.1.1,g2.1.2),(g2.2.1,g2.2.2)) 0
    cases h;exact gu ((g2.1.1,g2.1.2),(g2.2.1,g2.2.2)) 0
   refine aO ?_;refine bx (h0 (i:=11) (q:=0) (β:=dN) (γ:=fR) Bk (ah I) I I) ?_;refine aO ?_;refine ag.kg (α:=Bool) 1 [63,10] ⟨rfl,rfl,trivial⟩ I (aO λbp ev h=>?_);refine aA h λb4 p3 h=>iQ 12 underlying55 MQ R5 p3 λny dR=>?_;refine dV (cg alr.fd) ?_;refine ag.j3 (i:=11) (γ:=fR) (b':=({s1.2.2.2.2.2.2.1 with mm:=[]}:dN)) (os':=[(2,aP ny b4.length dR)]) ((aQ.id dN).comp zZ) Bk (ah I) (ah I) jo I I I I ?_;refine aO ?_;refine ag.bw 6 I (aA h λdH qP h=>eH 1 gO (gK qP) λJ2=>?_);refine dW Em (ch ?_);refine ay.freeze (α:=Bool) 1 11 I I (aA h λm1 bR h=>il (γ:=(aD Nat×Nat)) [0,1,4,5,6,7,9,10,11,30,31,32,33,45,46,47,70] (λg3=>[]) (λg3=>[(0,aJ bY m1.1),(8,⟨some bo,.cw m1.2.1 [(2,aP g3.1 m1.2.2.length g3.2)]⟩),(9,⟨g3.1,.row 160 m1.2.2 g3.2⟩)]) (λg3=>?_) (λhm ae=>?_) λhm ae=>?_)
   ·refine an.next (b5 (cS ?_))
    refine ag.bw 0 I (aA h λfH uA h=>eH 1 qG (qp uA) λtS=>ch ?_);refine aA h λm2 c6 h=>il (γ:=(aD Nat×Nat)) [0,1,4,5,6,7,9,10,11,30,31,32,33,45,46,47,70,86] (λg4=>[]) (λg4=>[(0,aJ bY m2.1),(5,⟨some b2,.cw m2.2.1 [(2,aP g4.1 m2.2.2.length g4.2)]⟩),(6,⟨g4.1,.row 160 m2.2.2 g4.2⟩)]) (λg4=>?_) (λhm ae=>?_) λhm ae=>?_
    ·refine aO ?_;refine an.bw 6 I (an.bw 6 I (an.bw 6 I (an.bw 6 I (an.bw 6 I (an.bw 6 I ?_)))));cases h;exact hi ((g4.1,g4.2),(g3.1,g3.2),(ny,dR)) 3
    ·have h:=fp ae c6;refine aA h λhl tt h=>aA h λhn Bj h=>aA h λz2 hj h=>aA h λgv w2 h=>er [0,1,4,5,6,7,9,10,11,30,31,32,33,45,46,47,70,85,86] ?_;refine ay.ck 13 (aC 87 [] [] _::aC 88 [0] [5] (J.eq (aP g1.1.1 s1.2.2.1.length g1.1.2))::aC 89 [] [] _::aC 90 [2] [3] _::aC 91 [] [] _::⟨some 92,[4],[0],[0],λ_=>J.of hl.1,λhd _=>aJ bY hl.2⟩::aC 93 [] [] _::⟨some 94,[5,6],[0],[0],λ_=>J.of hn.1,λhd _=>aJ bY hn.2⟩::aC 95 [] [] _::aC 96 [3,5,7,8] [] _::aC 97 [9] [] _::⟨some 98,[1,10],[6],[6],λhd=>J.eq (aP (hd 11 0) gv.length ((hd 11 1).getD 0)),λhd _=>⟨(hd 11 0),.row 160 gv ((hd 11 1).getD 0)⟩⟩::aC 99 [] [] _::fz [1,11,12] [5] [5] (λhd=>⟨some b2,.cw ({s1.2.1 with mm:=[]}:dN) [(2,aP (hd 11 0) gv.length ((hd 11 1).getD 0))]⟩)::[]) (dO ?_ (dO ?_ (dO ?_ (dO ?_ (dO ?_ h9))))) (λcR=>?_)
     ·exact gX.q (qg λhd E' L' aF av=>h0 (i:=5) (q:=0) (β:=dN) (γ:=fR) Bk (ah (aF _ _ I)) (av 5 _ I I) I)
     ·intro hd E' L' aF av cc;exact ag.bw 0 (av 0 _ I I) (ag.lK (Lin:=[aJ bY fH.2]) (Lr:=L'.eraseIdx 0) qG (qp tt) ⟨ah (aF _ _ I),trivial⟩ I λI9=>ag.nil (an.back 0 (av 0 _ I I) (an.fin (cX []) I I)))
     ·intro hd E' L' aF av cc;exact ag.bw 0 (av 0 _ I I) (ag.lK (Lin:=[aJ bY hl.2]) (Lr:=L'.eraseIdx 0) qG (qp Bj) ⟨ah (aF _ _ I),trivial⟩ I λacX=>ag.nil (an.back 0 (av 0 _ I I) (an.fin (cX []) I I)))
     ·intro hd E' L' aF av cc;refine ag.app (i:=6) underlying55 MQ R5 (bytes:=40) (by kernel_rfl) (ah (aF _ _ I)) (av 6 _ I I) (ah (aF _ _ I)) w2 I λsn mq=>?_;exact ag.nil (an.fin (cX [sn,some mq]) I I)
     ·intro hd E' L' aF av cc;refine ag.j3 (i:=5) (γ:=fR) (b':=({s1.2.1 with mm:=[]}:dN)) (os':=[(2,aP (hd 11 0) gv.length ((hd 11 1).getD 0))]) ((aQ.id dN).comp zZ) Bk (ah (aF _ _ I)) (ah (aF _ _ I)) jo (av 5 _ I I) I I I (ag.nil ?_);exact an.fin (cX []) I I
     refine an.dq (L2:=[aJ bY hn.2,⟨none,.dead⟩,⟨none,.dead⟩,aJ dc (ax ai aI:cy),⟨none,.row 160 ([]:aa fR) 0⟩,⟨some b2,.cw ({s1.2.1 with mm:=[]}:dN) [(2,aP (cR 11 0) gv.length ((cR 11 1).getD 0))]⟩,⟨(cR 11 0),.row 160 gv ((cR 11 1).getD 0)⟩,⟨none,.row 160 ([]:aa fR) 0⟩,⟨some bo,.cw m1.2.1 [(2,aP g3.1 m1.2.2.length g3.2)]⟩,⟨g3.1,.row 160 m1.2.2 g3.2⟩,⟨none,.row 160 ([]:aa fR) 0⟩,⟨some bk,.cw ({s1.2.2.2.2.2.2.1 with mm:=[]}:dN) [(2,aP ny b4.length dR)]⟩,⟨ny,.row 160 b4 dR⟩]) I (e8 ?_);cases h;exact dU 0 (hm ((cR 11 0),((cR 11 1).getD 0)))
    have h:=fq ae c6;refine ay.skip ?_;cases h;exact dU 0 (hm (g1.1.1,g1.1.2))
   ·have h:=fp ae bR;refine aA h λiX w3 h=>aA h λrM apL h=>aA h λz3 l2 h=>aA h λyY apM h=>er [0,1,4,5,6,7,9,10,11,30,31,32,33,45,46,47,59,61,62,63,64,65,66,67,68,69,70] ?_;refine ay.ck 13 (aC 71 [] [] _::aC 72 [0] [8] (J.eq (aP g1.2.1.1 s1.2.2.2.2.2.1.length g1.2.1.2))::aC 73 [] [] _::aC 74 [2] [3] _::aC 75 [] [] _::⟨some 76,[4],[0],[0],λ_=>J.of iX.1,λhd _=>aJ bY iX.2⟩::aC 77 [5] [] _::aC 78 [] [] _::⟨some 79,[5,7],[0],[0],λ_=>J.of rM.1,λhd _=>aJ bY rM.2⟩::aC 80 [] [] _::aC 81 [3,6,8,9] [] _::aC 82 [10] [] _::⟨some 83,[1,11],[9],[9],λhd=>J.eq (aP (hd 12 0) yY.length ((hd 12 1).getD 0)),λhd _=>⟨(hd 12 0),.row 160 yY ((hd 12 1).getD 0)⟩⟩::aC 84 [] [] _::fz [1,12,13] [8] [8] (λhd=>⟨some bo,.cw ({s1.2.2.2.2.1 with mm:=[]}:dN) [(2,aP (hd 12 0) yY.length ((hd 12 1).getD 0))]⟩)::[]) (dO ?_ (dO ?_ (dO ?_ (dO ?_ (dO ?_ h9))))) (λgw=>?_)
    ·exact gX.q (qg λhd E' L' aF av=>h0 (i:=8) (q:=0) (β:=dN) (γ:=fR) Bk (ah (aF _ _ I)) (av 8 _ I I) I)
    ·intro hd E' L' aF av cc;exact ag.bw 0 (av 0 _ I I) (ag.lK (Lin:=[aJ bY dH.2]) (Lr:=L'.eraseIdx 0) gO (gK w3) ⟨ah (aF _ _ I),dd 4,trivial⟩ I λacY=>ag.nil (an.back 0 (av 0 _ I I) (an.fin (cX []) I I)))
    ·intro hd E' L' aF av cc;exact ag.bw 0 (av 0 _ I I) (ag.lK (Lin:=[aJ bY iX.2]) (Lr:=L'.eraseIdx 0) qG (qp apL) ⟨ah (aF _ _ I),trivial⟩ I λauV=>ag.nil (an.back 0 (av 0 _ I I) (an.fin (cX []) I I)))
    ·intro hd E' L' aF av cc;refine ag.app (i:=9) underlying55 MQ R5 (bytes:=40) (by kernel_rfl) (ah (aF _ _ I)) (av 9 _ I I) (ah (aF _ _ I)) apM I λvJ rG=>?_;exact ag.nil (an.fin (cX [vJ,some rG]) I I)
    ·intro hd E' L' aF av cc;refine ag.j3 (i:=8) (γ:=fR) (b':=({s1.2.2.2.2.1 with mm:=[]}:dN)) (os':=[(2,aP (hd 12 0) yY.length ((hd 12 1).getD 0))]) ((aQ.id dN).comp zZ) Bk (ah (aF _ _ I)) (ah (aF _ _ I)) jo (av 8 _ I I) I I I (ag.nil ?_);exact an.fin (cX []) I I
    refine an.dq (L2:=[aJ bY rM.2,⟨none,.dead⟩,⟨none,.dead⟩,aJ dc (ax ai aI:cy),⟨none,.row 160 ([]:aa fR) 0⟩,⟨some b2,.cw s1.2.1 [(2,aP g1.1.1 s1.2.2.1.length g1.1.2)]⟩,⟨g1.1.1,.row 160 s1.2.2.1 g1.1.2⟩,⟨none,.row 160 ([]:aa fR) 0⟩,⟨some bo,.cw ({s1.2.2.2.2.1 with mm:=[]}:dN) [(2,aP (gw 12 0) yY.length ((gw 12 1).getD 0))]⟩,⟨(gw 12 0),.row 160 yY ((gw 12 1).getD 0)⟩,⟨none,.row 160 ([]:aa fR) 0⟩,⟨some bk,.cw ({s1.2.2.2.2.2.2.1 with mm:=[]}:dN) [(2,aP ny b4.length dR)]⟩,⟨ny,.row 160 b4 dR⟩]) I (e8 ?_);cases h;exact dU 0 (hm ((gw 12 0),((gw 12 1).getD 0)))
   have h:=fq ae bR;refine ay.skip ?_;cases h;exact dU 0 (hm (g1.2.1.1,g1.2.1.2))
  cases h;exact gu ((g1.1.1,g1.1.2),(g1.2.1.1,g1.2.1.2),(g1.2.2.1,g1.2.2.2)) 0
 refine an.lu (an.next (b5 (ag.nz (β:=dN) (γ:=fR) (b':=({ar.2.2.2.2.2.2.2.1 with mm:=ar.2.2.2.2.2.2.2.2}:dN)) ((aQ.id dN).comp zZ) 8 9 0 I I I I I I (ag.ti 8 I (aA h λz4 sv h=>qf sv (jb (i:=8) (aQ.id dN) (r:=({ar.2.2.2.2.2.2.2.1 with mm:=ar.2.2.2.2.2.2.2.2}:dN)) w1 (ah I) I I I) ?_)))));refine ag.nz (β:=dN) (γ:=fR) (b':=({ar.2.2.2.2.2.1 with mm:=ar.2.2.2.2.2.2.1}:dN)) ((aQ.id dN).comp zZ) 5 6 0 I I I I I I (ag.ti 5 I (oL 5 w1 ?_));exact ag.nz (β:=dN) (γ:=fR) (b':=({ar.2.2.1 with mm:=ar.2.2.2.1}:dN)) ((aQ.id dN).comp zZ) 1 2 0 I I I I I I (ag.ti 1 I go)
def V9{ab bY r}(h:xT ab=some r):nL prog 8 [J.cN bY] bY ab (J.of r.1) r.2:=by
 unfold xT at h;refine bN.of func8 I ntmps8 I λW A=>?_;refine aO λbk=>?_;refine ag.bw 1 I (aA h λao br h=>eH 1 gO (gK br) λaw=>?_);refine aO ?_;refine ag.bw 0 I (aA h λaE bZ h=>eH 1 gO (gK bZ) λcH=>?_);refine dW jS ?_;refine bx (ue (b:=({(default:aZ)with HE:=bm (2+ao.1),HQ:=bm (12+aE.1)}:aZ)) [5,7] XL I apN abK (.cons aeJ I (ah I) I (by rfl) (.cons aeU I (ah I) I (by rfl) (.nil)))) ?_;refine ag.own (α:=hX) 79 (ag.own (α:=fD) 81 (ag.sh (z:=(default:aZ)) [5,7] XL abK I λbo=>ag.own (α:=hX) 79 (ag.own (α:=fD) 81 (ag.wN (i:=2) pW (ah I) (ah I) I ?_))));refine aO λbp ev z2 hj z3 l2 z4 sv z5 xh oT I7 og EU kM Ny h=>?_;refine aA h λz9 Tw h=>ag.yn (i:=2) ((aQ.id aZ).comp VW) (v:=kM) (b':=z9) abL (ah I) (ah I) I I (dy Tw) (by rfl) ?_;refine aO λqN abG qO abH z12 II h=>?_;refine ag.yn (i:=2) ((aQ.id aZ).comp VO) (v:=([qN,qO,z12]:aa mN)) (b':=({z9 with pN:=[qN,qO,z12]}:aZ)) abM (ah I) (ah I) I I I (by rfl) ?_;refine aO ?_;refine ag.bw 5 I (aA h λbg dS h=>eH 1 apO (afr dS) λeJ=>?_);refine cS ?_;refine ag.bw 0 I (aA h λbt fa h=>eH 1 apP (afa fa) λht=>?_);refine cS ?_;refine ag.bw 0 I (aA h λb3 hC h=>eH 1 apQ (afs hC) λeA=>?_);refine dV (cg als.fd) ?_;refine aA h λn5 SO h=>ag.yn (i:=3) ((aQ.id aZ).comp VX) (v:=bg.1) (b':=n5) abN (ah I) (ah I) I I (dy SO) (by rfl) ?_;refine dV (cg alu.fd) ?_;refine ag.yn (i:=3) ((aQ.id aZ).comp VP) (v:=bt.1) (b':=({n5 with dY:=bt.1}:aZ)) abO (ah I) (ah I) I I I (by rfl) ?_;refine dV (cg Rk.fd) ?_;refine aA h λp4 SP h=>ag.yn (i:=3) ((aQ.id aZ).comp zW) (v:=b3.1) (b':=p4) Bl (ah I) (ah I) I I (dy SP) (by rfl) ?_;refine aO ?_;refine acZ 3 zW Bl ?_;refine ag.bw 0 I (aA h λcd im h=>eH 1 apR (afQ im) λec=>?_);refine dV (cg Rl.fd) ?_;refine ag.yn (i:=3) ((aQ.id aZ).comp KX) (v:=cd.1) (b':=({p4 with e0:=cd.1}:aZ)) EA (ah I) (ah I) I I I (by rfl) ?_;refine iy (uG Nc EB {bF:=1,k1:=1:hX} (ss Gy (ss O6 .nil)) ?_);refine uG Nc EB {bF:=2,k1:=2:hX} (ss Gy (ss O6 .nil)) ?_;refine uG Nc EB ({(default:hX)with bF:=3}:hX) (ss Gy .nil) ?_;refine uG Nc EB {bF:=4,k1:=3:hX} (ss Gy (ss O6 .nil)) ?_;refine aA h λuJ SQ h=>ag.abI (α:=hX) (r0:=[{bF:=1,k1:=1:hX},{bF:=2,k1:=2:hX},({(default:hX)with bF:=3}:hX),{bF:=4,k1:=3:hX}]) (r:=uJ) underlying28 SS EB I I (.cons (by simp) (ah I) (.cons (by simp) (ah I) (.cons (by simp) (ah I) (.cons (by simp) (ah I) (.nil))))) (dy SQ) I λei=>?_;refine dV (cg Rm.fd) ?_;refine ag.j3 (i:=4) (γ:=hX) (b':=({({p4 with e0:=cd.1}:aZ)with sb:=[]}:aZ)) (os':=[(5,aP ei uJ.length 4),(7,aP none ([]:aa fD).length 0)]) ((aQ.id aZ).comp KR) Nd (ah I) (ah I) jo I I I I ?_;refine aO ?_;refine ag.bw 1 I (aA h λcA lS h=>eH 1 qG (qp lS) λlD=>ch ?_);refine aA h λm1 bR h=>il (γ:=(aD Nat×Nat)) [0,2,3,51] (λg1=>[]) (λg1=>[(1,⟨g1.1,.row 79 m1 g1.2⟩),(4,⟨some bo,.cw ({({p4 with e0:=cd.1}:aZ)with sb:=[]}:aZ) [(5,aP g1.1 m1.length g1.2),(7,aP none ([]:aa fD).length 0)]⟩)]) (λg1=>?_) (λhm ae=>?_) λhm ae=>?_
 ·refine aO ?_;refine ag.bw 0 I (aA h λb4 p3 h=>eH 1 qG (qp p3) λJ2=>ch ?_);refine aA h λm2 c6 h=>il (γ:=(aD Nat×Nat)) [0,2,3,51,59] (λg2=>[]) (λg2=>[(4,⟨some bo,.cw m2.1 [(5,aP g1.1 m1.length g1.2),(7,aP g2.1 m2.2.length g2.2)]⟩),(5,⟨g2.1,.row 81 m2.2 g2.2⟩)]) (λg2=>?_) (λhm ae=>?_) λhm ae=>?_
  ·refine aO ?_;refine ag.bw 0 I (aA h λdH qP h=>eH 1 qG (qp qP) λtS=>?_);refine aO ?_;refine iU (λhb=>H0 (i:=4) ((aQ.id aZ).comp zW) (r:=m2.1.bL) Bl (cf I hb) I I I (by rfl)) ?_;refine aO λaI cQ h=>?_;refine aA h λm3 fZ h=>il (γ:=(aD Nat×Nat)) [0,2,3,51,59,76] (λg3=>[]) (λg3=>[(4,⟨some bo,.cw m3.1 [(5,aP g1.1 m1.length g1.2),(7,aP g3.1 m3.2.length g3.2)]⟩),(5,⟨g3.1,.row 81 m3.2 g3.2⟩)]) (λg3=>?_) (λhm ae=>?_) λhm ae=>?_
   ·refine aO ?_;refine ag.bw 0 I (aA h λfH uA h=>eH 1 qG (qp uA) λI9=>?_);refine aO ?_;refine iU (λhb=>H0 (i:=4) ((aQ.id aZ).comp zW) (r:=m3.1.bL) Bl (cf I hb) I I I (by rfl)) ?_;refine aO λbu c0 h=>?_;refine aA h λm4 Ja h=>il (γ:=(aD Nat×Nat)) [0,2,3,51,59,76,93] (λg4=>[]) (λg4=>[(4,⟨some bo,.cw m4.1 [(5,aP g1.1 m1.length g1.2),(7,aP g4.1 m4.2.length g4.2)]⟩),(5,⟨g4.1,.row 81 m4.2 g4.2⟩)]) (λg4=>?_) (λhm ae=>?_) λhm ae=>?_
    ·exact an.next (b5 (ag.nz (β:=aZ) (γ:=hX) (b':=({m4.1 with sb:=m1}:aZ)) ((aQ.id aZ).comp KR) 4 1 0 I I I I I I (ag.nz (β:=aZ) (γ:=fD) (b':=({({m4.1 with sb:=m1}:aZ)with di:=m4.2}:aZ)) ((aQ.id aZ).comp Gz) 4 5 0 I I I I I I (ag.ti 4 I go))))
    ·have h:=fp ae Ja;refine ay.fm (dV (cg D9.fd) ?_);refine bx (h0 (i:=4) (q:=1) (β:=aZ) (γ:=fD) Bm (ah I) I I) ?_;refine aO λz17 apK yX Na h=>?_;refine aA h λhl tt h=>iQ 5 underlying30 Nf SU tt λjU dR=>?_;refine dV (cg D9.fd) ?_;refine ag.j3 (i:=4) (γ:=fD) (b':=({m3.1 with di:=[]}:aZ)) (os':=[(5,aP g1.1 m1.length g1.2),(7,aP jU hl.length dR)]) ((aQ.id aZ).comp Gz) Bm (ah I) (ah I) jo I I I I (ag.nil ?_);cases h;exact dU 0 (hm (jU,dR))
    have h:=fq ae Ja;refine ay.skip ?_;cases h;exact dU 0 (hm (g3.1,g3.2))
   ·have h:=fp ae fZ;refine ay.fm (dV (cg D9.fd) ?_);refine bx (h0 (i:=4) (q:=1) (β:=aZ) (γ:=fD) Bm (ah I) I I) ?_;refine aO λxj IJ h=>?_;refine aA h λhn Bj h=>iQ 5 underlying30 Nf SU Bj λny mq=>?_;refine dV (cg D9.fd) ?_;refine ag.j3 (i:=4) (γ:=fD) (b':=({m2.1 with di:=[]}:aZ)) (os':=[(5,aP g1.1 m1.length g1.2),(7,aP ny hn.length mq)]) ((aQ.id aZ).comp Gz) Bm (ah I) (ah I) jo I I I I (ag.nil ?_);cases h;exact dU 0 (hm (ny,mq))
   have h:=fq ae fZ;refine ay.skip ?_;cases h;exact dU 0 (hm (g2.1,g2.2))
  ·have h:=fp ae c6;refine ay.fm (dV (cg D9.fd) ?_);refine bx (h0 (i:=4) (q:=1) (β:=aZ) (γ:=fD) Bm (ah I) I I) ?_;refine aO λz20 auH h=>?_;refine aA h λgv w2 h=>iQ 5 underlying30 Nf SU w2 λsn rG=>?_;refine dV (cg D9.fd) ?_;refine ag.j3 (i:=4) (γ:=fD) (b':=({({({p4 with e0:=cd.1}:aZ)with sb:=[]}:aZ)with di:=[]}:aZ)) (os':=[(5,aP g1.1 m1.length g1.2),(7,aP sn gv.length rG)]) ((aQ.id aZ).comp Gz) Bm (ah I) (ah I) jo I I I I (ag.nil ?_);cases h;exact dU 0 (hm (sn,rG))
  have h:=fq ae c6;refine ay.skip ?_;cases h;exact dU 0 (hm (none,0))
 ·have h:=fp ae bR;refine ay.fm (dV (cg Rm.fd) ?_);refine bx (h0 (i:=4) (q:=0) (β:=aZ) (γ:=hX) Nd (ah I) I I) ?_;refine aO ?_;refine aA h λiX w3 h=>iQ 1 underlying28 SS EB w3 λvJ IE=>?_;refine dV (cg Rm.fd) ?_;refine ag.j3 (i:=4) (γ:=hX) (b':=({({p4 with e0:=cd.1}:aZ)with sb:=[]}:aZ)) (os':=[(5,aP vJ iX.length IE),(7,aP none ([]:aa fD).length 0)]) ((aQ.id aZ).comp KR) Nd (ah I) (ah I) jo I I I I (ag.nil ?_);cases h;exact dU 0 (hm (vJ,IE))
 have h:=fq ae bR;refine ay.skip ?_;cases h;exact dU 0 (hm (ei,4))
instance abP:lW prog 152 _ _ wA J.of J.of:=.i func152 I ntmps152 I λab r h W A=>by
 unfold wA at h;refine aO ?_;refine aA h λar al h=>fh (γ:=Unit) (δ:=Unit) al [0,5,6] (λs1 g1=>[(2,J.of (0:Int)),(7,J.of s1)]) (λs1 g1=>[]) (λaw=>Sum.elim (λaw=>Exit.exit 0) (λaw=>Exit.ret) aw) (λaw g1=>Sum.elim (λaw=>[(2,J.of (0:Int)),(7,J.of aw.1),(8,J.of aw.2)]) (λaw=>[(2,J.of aw.1),(4,J.of aw.2.1),(7,J.of aw.2.2.1),(8,J.of aw.2.2.2.1),(12,J.of aw.2.2.2.2)]) aw) (λaw g1=>[]) () (λs1 r h g1=>?_) λg1=>?_
 ·exact go
 rcases ar with ar|ar
 ·simp only[Sum.elim_inl]at h;exact go
 simp only[Sum.elim_inr]at h;exact go
instance:lW prog 170 _ _ KF J.of J.of:=.i func170 I ntmps170 I λab r h W A=>by
 unfold KF at h;refine b5 (bx (dk (look_nil (α:=aN))) ?_);refine aO ?_;refine bx (Z8 underlying50 (ah I)) (ch ?_);refine ay.Z9 (ah I) (λau=>?_) ?_
 ·subst au;replace h:=Xh h;subst h;have h:some ([]:aa aN)=some []:=rfl;refine b5 (bx (dk (look_nil (α:=aN))) (ch (ay.ret (an.ret ?_))));replace h:=dy h;exact uH
 refine ly (b5 (ag.rF (α:=aN) (r:=([]:aa aN)) underlying50 fx si I I (.nil) I λei=>cS ?_));refine aA h λao br h=>iQ 0 underlying50 fx si br λjU dR=>?_;refine dg (ch (ay.ret ?_));exact an.kg (α:=aN) 0 [2,7] ⟨rfl,rfl,trivial⟩ I go
instance:fk prog 263 _ _ _ FT J.of J.of J.of:=.i func263 I ntmps263 I λab ai r h W A=>by
 unfold FT at h;refine aO (λh=>?_);refine aA h λar al h=>fh (γ:=Unit) (δ:=Unit) al [0,1,4,10,12] (λs1 g1=>[(13,J.of s1)]) (λs1 g1=>[]) (λaw=>Sum.elim (λaw=>Exit.exit 0) (λaw=>Exit.ret) aw) (λaw g1=>Sum.elim (λaw=>[(13,J.of aw.1),(14,J.of aw.2)]) (λaw=>[(5,J.of aw.1),(13,J.of aw.2.1),(14,J.of aw.2.2.1),(24,J.of aw.2.2.2)]) aw) (λaw g1=>[]) () (λs1 r h g1=>?_) λg1=>?_
 ·refine aO (λh=>?_);refine aA h λaI cQ h=>aA h λbu c0 h=>ay.fy 9 ?_;exact go
 rcases ar with ar|ar
 ·simp only[Sum.elim_inl]at h;exact go
 simp only[Sum.elim_inr]at h;exact go
def agv{hp ab r}(h:G2 hp ab=some r):hr prog 99 [J.of ab] hp (J.of r) hp:=by
 unfold G2 at h;refine bN.of func99 I ntmps99 I λW A=>?_;refine aO (λbA dn c1 dv h=>?_);refine aA h λcC e9 h=>aA h λc2 eW h=>bx (akk underlying193 (ll (ah I) e9) (jt (n:=0) I (uo eW) I)) ?_;exact go
def agw{hp ab ai aR r}(h:Lh hp ab ai aR=some r):hr prog 216 [J.of ab,J.of ai,J.of aR] hp (J.of r.1) r.2:=by
 unfold Lh at h;refine bN.of func216 I ntmps216 I λW A=>?_;refine aO (λbk h=>?_);refine aA h λbA dn h=>aA h λc1 dv h=>aA h λcC e9 h=>aA h λc2 eW h=>aA h λbp ev h=>er [0,1,2,4,6,9,10] ?_;refine ay.ck 1 (aC 12 [] [] _::aC 13 [0] [] _::aC 14 [1] [] _::aC 15 [2] [] _::aC 16 [] [0] _::aC 17 [3,4] [] (J.bT [J.of (bp.getD default),J.of bp.isSome])::aC 11 [5] [] _::aC 18 [6] [] _::aC 19 [6] [] _::aC 7 [7] [] _::aC 8 [8] [] _::[]) (dO ?_ h9) (λcR=>?_)
 ·intro hd E' L' aF av cc;refine bx (Qj (r:=bp) underlying229 ML su (ll (ah (aF _ _ I)) e9) (ah (aF _ _ I)) (jt (n:=1) (cc.trans I) (vw eW) I) (dy ev)) (ag.nil ?_);exact an.fin (cX []) I I
 refine an.dq (L2:=(aJ bk ai::a1 hp)) I (e8 ?_);refine aO (λh=>?_);refine aA h λgH p5 h=>aA h λeE k8 h=>ay.fy 6 ?_;refine aA h λmb yZ h=>aA h λiH tE h=>aA h λbQ hQ h=>ag.Ir (k':=Cell.rE (gP iH ai aR)) 1 I (by first|exact .inl I|exact .inr I) underlying229 ML (ll (ah I) yZ) (ah I) (ah I) (vw tE) I I I (dy hQ) ?_;exact go
def ahC{hp ab Q}(h:LJ hp ab Q):lB prog 228 [J.of ab] hp Q:=by
 unfold LJ at h;refine bN.of func228 I ntmps228 I λW A=>b5 (bx (dk o5) (iy ?_));refine cS ?_;refine dW aah ?_;refine dW aai ?_;refine aj.bH h λbp ev h=>qf ev (kC (b:=({(default:hY)with hA:=min (max 1 ab) 128}:hY)) I amQ amR (.cons C6 I (ah I) I (.nil))) ?_;refine ag.yG 0 I (Cell.lO bp) (λ_=>rfl) (ah I) I λbX qK=>?_;replace h:=aj.qu h bX qK;refine dg (ch (ay.ret ?_));exact an.eG (⟨⟨((some bX.1:Ref),bX.2),h⟩,()⟩: {r // _}×_) (.refl _) I I (du I)
def VQ{ab ai r}(h:zR ab ai=some r):dz prog 273 [J.of ab,J.ptr ai] (J.of r):=by
 unfold zR at h;refine dz.of func273 I ntmps273 I λW A=>?_;exact go
def U6{ab ai r}(h:zE ab ai=some r):dz prog 272 [J.of ab,J.Bw prog ai] (J.of r):=by
 unfold zE at h;refine dz.of func272 I ntmps272 I λW A=>?_;refine aO ?_;refine aA h λar al h=>fh (γ:=Unit) (δ:=Unit) al [0,1,7] (λs1 g1=>[(4,J.of (0:Int)),(8,J.of s1)]) (λs1 g1=>[]) (λaw=>Sum.elim (λaw=>Exit.exit 0) (λaw=>Exit.ret) aw) (λaw g1=>Sum.elim (λaw=>[(4,J.of (0:Int)),(8,J.of aw.1),(9,J.of aw.2)]) (λaw=>[(4,J.of aw.1),(5,J.of aw.2.1),(8,J.of aw.2.2.1),(9,J.of aw.2.2.2.1),(16,J.of aw.2.2.2.2)]) aw) (λaw g1=>[]) () (λs1 r h g1=>?_) λg1=>?_
 ·refine aO (λaI cQ h=>?_);refine aA h λao br h=>bx (LW (ah I) (ah I) br) ?_;exact go
 rcases ar with ar|ar
 ·simp only[Sum.elim_inl]at h;exact go
 simp only[Sum.elim_inr]at h;exact go
def aeo{ab ai aR r}(h:Fy ab ai aR=some r):dz prog 267 [J.of ab,J.of ai,J.By prog aR] (J.bT [J.of r.1,J.of r.2]):=by
 unfold Fy at h;refine dz.of func267 I ntmps267 I λW A=>?_;refine aO λbk=>?_;refine aA h λar al h=>fh (γ:=Unit) (δ:=Unit) al [0,1,2,4,6,7,8] (λs1 g1=>[(9,J.of s1.1),(10,J.of s1.2)]) (λs1 g1=>[]) (λaw=>Exit.exit 0) (λaw g1=>[(9,J.of aw.1),(10,J.of aw.2.1),(17,J.of aw.2.2)]) (λaw g1=>[]) () (λs1 r h g1=>?_) λg1=>?_
 ·refine aO (λh=>?_);refine aA h λaI cQ h=>aA h λao br h=>ay.jM mixed 8 (rg 24 8) [[],[],[],[1,2],[3],[],[0,4,5],[6]] [_,_,_,_,_,_,_,_] ⟨ey,ey,ey,Jb cQ underlying43 eC,H1 (iw eC),rK 0 eC,fA λav=>LX (ah I) (ah I) (ah I) br,lC pR,trivial⟩ (ch ?_);refine aA h λm1 bR h=>il (γ:=Unit) [0,1,2,4,6,7,8,11,17,31] (λg2=>[(9,J.of m1.1),(10,J.of m1.2)]) (λg2=>[]) (λg2=>?_) (λhm ae=>?_) λhm ae=>?_
  ·exact go
  ·have h:=fp ae bR;exact go
  have h:=fq ae bR;exact go
 refine an.lu (an.next (ay.seq (aA h λbu c0 h=>aA h λaE bZ h=>er [0,1,2,4,8,9,10,17] ?_)));refine ay.ck 1 (aC 35 [] [] _::aC 36 [] [] _::aC 37 [] [] _::aC 38 [1,2] [] _::aC 39 [3] [] _::aC 40 [4] [] _::aC 41 [4] [] _::aC 42 [4] [] _::aC 43 [4,6,7] [] _::aC 44 [4,8] [] _::aC 45 [4] [0] _::aC 46 [4,5,9,10] [] (J.cond ((decide (ar.1<(ab.length:Int)))=true) (J.of aE))::aC 47 [4,11] [] _::aC 48 [4,12] [] _::aC 6 [0] [] _::aC 7 [13] [] _::[]) (dO ?_ h9) (λcR=>?_)
 ·exact gX.q (abQ I I I I (λhd=>rfl) λhd E' L' aF av hb=>LX (cf (aF _ _ I) hb) (cf (aF _ _ I) hb) (cf (aF _ _ I) hb) (fe bZ hb))
 refine an.dq (L2:=[aJ bk ai]) I (e8 ?_);exact go
instance:lW prog 140 _ _ Ha J.of J.of:=.i func140 I ntmps140 I λab r h W A=>by
 unfold Ha at h;exact go
def aeA{ab ai r}(h:FJ ab ai=some r):dz prog 282 [J.of ab,J.Bw prog ai] (J.of r):=by
 unfold FJ at h;refine dz.of func282 I ntmps282 I λW A=>?_;refine aO ?_;refine aA h λar al h=>fh (γ:=Unit) (δ:=Unit) al [0,1,7] (λs1 g1=>[(4,J.of (0:Int)),(8,J.of s1)]) (λs1 g1=>[]) (λaw=>Sum.elim (λaw=>Exit.exit 0) (λaw=>Exit.ret) aw) (λaw g1=>Sum.elim (λaw=>[(4,J.of (0:Int)),(8,J.of aw.1),(9,J.of aw.2)]) (λaw=>[(4,J.of aw.1),(5,J.of aw.2.1),(8,J.of aw.2.2.1),(9,J.of aw.2.2.2.1),(16,J.of aw.2.2.2.2)]) aw) (λaw g1=>[]) () (λs1 r h g1=>?_) λg1=>?_
 ·refine aO (λaI cQ h=>?_);refine aA h λao br h=>bx (LW (ah I) (ah I) br) ?_;exact go
 rcases ar with ar|ar
 ·simp only[Sum.elim_inl]at h;exact go
 simp only[Sum.elim_inr]at h;exact go
def agb{ab r}(h:Pt ab=some r):dz prog 283 [J.of ab] (J.of r):=by
 unfold Pt at h;refine dz.of func283 I ntmps283 I λW A=>?_;exact go
instance:fk prog 90 _ _ _ Aj J.of J.of J.of:=.i func90 I ntmps90 I λab ai r h W A=>by
 unfold Aj at h;refine aO λbk bo=>?_;refine ag.share (α:=Int) 0 3 I I (bx (Mp (F:=(λa0=>K6 a0 ai)) (τs:=[J.ptr ai]) amS ⟨ah I,trivial⟩ (λ_ _ h=>afL h)) ?_);refine aA h λao br h=>qM amT (aex br) ?_;exact go
instance:fk prog 93 _ _ _ Dv J.of J.of J.of:=.i func93 I ntmps93 I λab ai r h W A=>by
 unfold Dv at h;refine aO λbk bo=>?_;refine ag.share (α:=Int) 0 3 I I (bx (Mp (F:=(λa0=>K7 a0 ai)) (τs:=[J.ptr ai]) amU ⟨ah I,trivial⟩ (λ_ _ h=>afM h)) ?_);refine aA h λao br h=>qM amV (aey br) ?_;exact go
def afS{hp ab ai r}(h:GO hp ab ai=some r):hr prog 210 [J.of ab,J.of ai] hp (J.bT [J.of r.1,J.of r.2]) hp:=by
 unfold GO at h;refine bN.of func210 I ntmps210 I λW A=>?_;refine aO λbk bo=>?_;refine aA h λao br h=>aA h λaE bZ h=>er [0,1,2,3] ?_;refine ay.ck 2 (aC 6 [] [] _::aC 7 [0] [1] _::aC 8 [] [0] _::aC 9 [2] [] _::aC 10 [1,3] [] (J.bT [J.of aE.1,J.of aE.2])::aC 11 [4] [] _::aC 12 [4] [] _::aC 4 [5] [] _::aC 5 [6] [] _::[]) (dO ?_ h9) (λcR=>?_)
 ·intro hd E' L' aF av cc;exact ag.fb (dL.fS 2 (cc.trans I) R2 (PC bZ) ⟨ah (aF _ _ I),ah (aF _ _ I),trivial⟩) I I I (ag.nil (an.fin (cX []) I I))
 refine an.dq (L2:=(aJ bo ai::aJ bk ab::a1 hp)) I (e8 ?_);exact go
instance:fk prog 222 _ _ _ zS J.of J.of (λr=>J.bT [J.of r.1,J.of r.2.1,J.of r.2.2]):=.i func222 I ntmps222 I λab ai r h W A=>by
 unfold zS at h;refine aO λbk bo b2 dc=>?_;refine aA h λao br h=>aA h λaE bZ h=>ay.mW 2 (er [0,1,2,3,4,5,6] ?_);refine ay.rT 6 (aC 10 [] [3] _::aC 11 [] [2] _::aC 12 [1] [] _::aC 13 [0,2] [] _::aC 9 [3] [] _::aC 14 [4] [] _::aC 15 [4] [] _::p2 7 [] 4 7 _::p2 8 [] 5 8 _::fz [5,7] [4] [4] (λhd=>aJ ((hd 7 0).getD 0) aE.1)::fz [6,8] [5] [5] (λhd=>aJ ((hd 8 0).getD 0) aE.2)::[]) (λcR=>?_);refine an.dq (L2:=[aJ dc (default:aN),aJ b2 (default:Vector aN 4),aJ bo ai,aJ bk ab,aJ ((cR 7 0).getD 0) aE.1,aJ ((cR 8 0).getD 0) aE.2]) I (e8 ?_);refine an.bw 4 I (an.bw 5 I (go2 (λh=>?_) (λh=>?_)))
 ·refine er [0,1,2,3,4,5,7,8,9,10,11,12,13,14,15,16,17,18,19,20,21] ?_;refine ay.rT 6 (aC 22 [] [1] _::aC 23 [] [0] _::fz [0] [3] [3] (λhd=>aJ b2 aE.1)::fz [1] [2] [2] (λhd=>aJ dc aE.2)::aC 6 [] [] _::[]) (λgw=>?_);refine an.dq (L2:=[aJ ((cR 8 0).getD 0) aE.2,aJ ((cR 7 0).getD 0) aE.1,aJ dc aE.2,aJ b2 aE.1,aJ bo ai,aJ bk ab]) I (e8 (an.next (ay.ret (an.ret ?_))));cases h;exact an.abR I (EW 3 MR) (EW 2 fx) (IK I)
 refine aA h λaI cQ h=>er [0,1,2,3,4,5,7,8,9,10,11,12,13,14,15,16,17,18,19,20,21] ?_;refine ay.rT 6 (aC 24 [] [1] _::aC 25 [] [0] _::aC 26 [] [] _::aC 27 [2] [4] _::aC 28 [] [] _::aC 29 [4] [5] _::aC 30 [3,5] [] _::aC 31 [6] [] _::aC 32 [7] [] _::fz [0] [3] [3] (λhd=>aJ b2 aE.1)::fz [1] [2] [2] (λhd=>aJ dc aE.2)::aC 6 [8] [] _::[]) (λxk=>?_);refine an.dq (L2:=[aJ ((cR 8 0).getD 0) aE.2,aJ ((cR 7 0).getD 0) aE.1,aJ dc aE.2,aJ b2 aE.1,aJ bo ai,aJ bk ab]) I (e8 (an.next (ay.ret ?_)));cases h;exact an.abR I (EW 3 MR) (EW 2 fx) (IK I)
instance:lW prog 227 _ _ Ap J.of J.of:=.i func227 I ntmps227 I λab r h W A=>by
 unfold Ap at h;exact go
instance Ng:fk prog 243 _ _ _ Av J.of J.of J.of:=.i func243 I ntmps243 I λab ai r h W A=>by
 unfold Av at h;refine aO λbk ao br h=>?_;refine iU (λhb=>QF lk YH lr I (cf I hb) I I) ?_;exact go
instance:lW prog 145 _ _ LC J.of J.of:=.i func145 I ntmps145 I λab r h W A=>by
 unfold LC at h;refine aO λbk bo=>?_;refine aA h λao br h=>aA h λaE bZ h=>ay.fy 7 ?_;refine I8 1 wm w4 ?_;refine dV (cg Ic.fd) ?_;refine aA h λbp ev h=>I5 1 C7 EC (hb:=by exact ev) ?_;exact go
instance:fk prog 258 _ _ _ Hb J.of J.of J.of:=.i func258 I ntmps258 I λab ai r h W A=>by
 unfold Hb at h;exact go
def agc{hp ab ai r}(h:GY hp ab ai=some r):hr prog 212 [J.of ab,J.of ai] hp (J.bT []) r:=by
 unfold GY at h;refine bN.of func212 I ntmps212 I λW A=>?_;refine aO λbk bo=>?_;refine aA h λao br h=>ay.fy 7 ?_;refine aA h λaE bZ h=>ag.ek 2 0 I amW (agw bZ) I I ⟨ah I,ah I,ah I,trivial⟩ I λaw=>ag.dr (ag.nil ?_);exact an.lv go
def afb{ab ai r}(h:O7 ab ai=some r):dz prog 265 [J.ptr ab,J.of ai] (J.of r):=by
 unfold O7 at h;refine dz.of func265 I ntmps265 I λW A=>?_;refine aO λbk=>?_;refine bx (akl underlying205 (ah I)) (ch ?_);refine ay.wT (ah I) I (aO ?_);refine ag.share (α:=Int) 0 3 I I (bx (Mp (F:=(λa0=>zR a0 ai)) (τs:=[J.ptr ai]) aaj ⟨ah I,trivial⟩ (λ_ _ h=>VQ h)) ?_);refine aA h λao br h=>qM aak (U6 br) ?_;exact go
instance ED:fk prog 115 _ _ _ rh J.of J.of J.of:=.i func115 I ntmps115 I λab ai r h W A=>by
 unfold rh at h;exact go
end Go.Proofs.YtppgfphgdogpeaaGreat
