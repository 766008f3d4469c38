/-
  Each function meets its functional program. Conditions: none.
-/
import Derived.Test.YtppgfphgdogpeaaGreatUc0
import Derived.Test.YtppgfphgdogpeaaGreatUc1
set_option linter.defProp false
set_option linter.unusedVariables false
set_option linter.unusedSimpArgs false
set_option maxRecDepth 100000
set_option maxHeartbeats 2000000
namespace Go.Proofs.YtppgfphgdogpeaaGreat
open Go Gv Go.Proofs.Tryz
attribute [local irreducible] ag ay an bj aU ea eO eV J.of J.ptr J.eq J.cond J.bT
def afw{hp ab ai Q}(h:GC hp ab ai Q):BF prog 220 [J.of ab,J.of ai] hp Q:=by
 unfold GC at h;refine bN.of func220 I ntmps220 I λW A=>?_;refine aO λbk bo ao br b2 dc h=>?_;refine aj.bH h λbA dn h=>aj.bH h λc1 dv h=>aj.bH h λbp ev h=>bx (vu (r:=bp) underlying202 yC Ep (ll (ah I) dn) (ah I) (jt (n:=4) I (pa dv) I) (dy ev)) ?_;refine bx (AJ underlying314 (ah I)) (ch ?_);refine y0 (γ:=Unit) h 4 [2,3,4,5,6] (λm1 g1=>[]) (λm1 g1=>[]) (λm1 g1=>a1 m1) (λm1 g1 h=>?_) (λhm ae h=>?_) (λhm ae h=>?_)
 ·refine an.next (aj.bH h λc2 eW h=>aj.bH h λz2 hj h=>ay.jM mixed 8 (rg 26 8) [[],[0],[],[1,2],[],[],[],[6]] [_,_,_,_,_,_,_,_] ⟨H1 (cg YM.fd),iR 3 FP Sb,rK 1 MR,fA λav=>vu (r:=z2) underlying202 yC Ep (ll (ah I) dn) (ah I) (pf (λi e q=>av i e q I) (jt (n:=4) I (pa eW) I)) (dy hj),rK 0 fx,ey,H1 (cg Zv.fd),iR 2 KA cm,trivial⟩ ?_)
  refine ag.ek 4 0 I anG (agJ h) I I ⟨ah I,ah I,ah I,ah I,trivial⟩ I λ⟨⟨aE,h⟩,aw⟩=>ag.dr (ag.nil ?_);exact an.lv (an.nu (⟨⟨aE.2,h⟩,()⟩: {r // _}×_) (fO 4) I I)
 ·obtain⟨ass,ap8,ap9⟩:=aj.ex h;refine er [2,3,4,5,6] ?_;refine ay.xl mixed [5,6] [(0,20,J.nh bk FP),(1,21,J.of ab.uk),(2,22,J.of ao.1),(3,23,J.nh bk OP),(4,24,J.of ab.hA)] ?_;refine gQ.md [] [0,1,2,3,4] [5] ⟨?_,trivial⟩;refine ir.of (ks:=[]) (λx:Subtype ass=>[(25,J.of x.1.1)]) (λx=>[]) (λx=>(aJ dc ao.2.1::aJ b2 ao.1::aJ bo ai::aJ bk ab::a1 x.1.2)) (λ⟨bg,S0⟩=>?_) (λo a6 dW ji aF k=>?_)
  ·have h:=ap9 bg S0;refine gQ.md [4,3] [0,1,2] [6] ⟨ir.tail [5,4,3,2,1,0] ?_,trivial⟩;refine ag.dq (L2:=(aJ dc ao.2.1::aJ b2 ao.1::aJ bo ai::aJ bk ab::a1 bg.2)) I (ag.le (E':=[(2,J.cN bk),(3,J.cN bo),(4,J.cN b2),(5,J.cN dc),(6,J.of ao.2.2),(21,J.of ab.uk),(22,J.of ao.1),(25,J.of bg.1)]) .all (aj.bH h λeE k8 h=>aj.bH h λbQ hQ h=>?_));refine ag.Ir (k':=Cell.oG (gP eE ao.1 bg.1)) 4 I (by first|exact .inl I|exact .inr I) underlying202 yC (ll (ah I) dn) (ah I) (ah I) (pa k8) I I I (dy hQ) ?_;exact ag.nil (dU 0 (hm bQ () h))
  cases a6;refine ag.ek 4 0 I anH (ahC ap8) I I ⟨ah (aF I),trivial⟩ I λ⟨⟨bg,S0⟩,_⟩=>ag.dr (ag.nil ?_);exact k ⟨bg,S0⟩
 exact ay.skip (dU 0 (hm hp () h))
def aeZ{ab ai bY iO iP r}(h:Ge ab ai=some r):bN prog 260 [J.cN bY,J.of ai] [⟨some bY,.cw ({ab with cz:=[]}:eh) [(10,aP iO ab.cz.length iP)]⟩,⟨iO,.row 54 ab.cz iP⟩] (δ:=(aD Nat×Nat)) (λd=>J.of r.1) (λd=>[⟨some bY,.cw ({r.2 with cz:=[]}:eh) [(10,aP d.1 r.2.cz.length d.2)]⟩,⟨d.1,.row 54 r.2.cz d.2⟩]):=by
 unfold Ge at h;refine bN.of func260 I ntmps260 I λW A=>?_;refine aO λbk=>?_;refine bx (Ib underlying205 (ah I)) ?_;refine aO ?_;refine aA h λao br h=>iU (λhb=>bj.anI (β:=eh) (γ:=aH) (b':=ab) ((aQ.id eh).comp C3) 1 2 0 I I I I I I yh (bj.aaF 1 I yh (bj.Sc (z:=(ab:eh)) 1 11 I (Ty hb) I yh (j4 aan (afb (fe br hb)) ⟨ah I,cf I hb,trivial⟩)))) ?_;refine go2 (λh=>?_) (λh=>?_)
 ·refine an.bw 2 I (an.bw 2 I ?_);cases h;exact sr (iO,iP)
 refine bx (anJ (ah I)) ?_;refine dg (hh ?_);refine aA h λaE bZ h=>er [0,1,3,4,5,8,9,10,11,12,13,14,15,16,17,18] ?_;refine ay.ck 3 (aC 20 [] [] _::aC 21 [0] [] _::aC 22 [1] [] _::aC 23 [2] [1] (J.eq (aP iO ab.cz.length iP))::aC 24 [] [0] _::aC 25 [] [] _::aC 26 [3,4,5] [1,2] (J.bT [J.of aE.1,J.of aE.2])::aC 19 [6] [] _::aC 27 [7] [] _::aC 28 [7] [] _::aC 6 [8] [] _::aC 7 [9] [] _::[]) (dO ?_ (dO ?_ h9)) (λcR=>?_)
 ·exact gX.q (qg λhd E' L' aF av=>h0 (i:=1) (q:=0) (β:=eh) (γ:=aH) pY (ah (aF _ _ I)) (av 1 _ I I) I)
 ·exact gX.q (qg λhd E' L' aF av=>bj.alC (β:=eh) (γ:=aH) (b':=ab) ((aQ.id eh).comp C3) 1 2 0 23 I (av 1 _ I I) (av 2 _ I I) I I I (aF _ _ I) (P7 yh HJ) (bj.aaF 1 (Tz (ac7 I (av 1 _ I I))) (P7 yh HJ) (bj.alD (F:=(λa0 bX=>CM ab a0 bX)) 1 25 (aF _ _ I) (Tz (Tz (ac7 I (av 1 _ I I)))) anK (λ_ _ _ h=>aeY h) (P7 yh HJ) (j4 anL (aeo bZ) ⟨ah I,ah (aF _ _ I),ah I,trivial⟩))))
 refine an.dq (L2:=[aJ bk ai,⟨some bY,.cw ({ab with cz:=[]}:eh) [(10,aP iO ab.cz.length iP)]⟩,⟨iO,.row 54 ab.cz iP⟩]) I (e8 (an.next (ay.seq ?_)));refine aA h λbg dS h=>aA h λbt fa h=>ay.mW 1 (er [0,1,3,4,5,6,7,8,9,10,11,12,13,14,15,16,17,18,19,20,21,22,23,24,25,26,27,28] ?_);refine ay.ck 4 (aC 29 [] [] _::aC 30 [] [] _::aC 31 [1] [] _::aC 32 [2] [] _::aC 33 [3] [1] (J.eq (aP iO ab.cz.length iP))::aC 34 [] [] _::aC 35 [] [0] _::aC 36 [6] [] _::⟨some 37,[7],[3],[3],λhd=>J.eq (aP (hd 8 0) [bg].length 1),λhd _=>⟨(hd 8 0),.row 54 ([bg]:aa aH) 1⟩⟩::⟨some 38,[4,5,8],[2,3],[2,3],λhd=>J.eq (aP (hd 9 0) bt.length ((hd 9 1).getD 0)),λhd j=>bif Nat.beq j 2 then⟨(hd 9 0),.row 54 bt ((hd 9 1).getD 0)⟩else⟨none,.dead⟩⟩::aC 39 [0] [] _::aC 40 [10] [] _::fz [4,9,11] [1] [1] (λhd=>⟨some bY,.cw ({ab with cz:=[]}:eh) [(10,aP (hd 9 0) bt.length ((hd 9 1).getD 0))]⟩)::[]) (dO ?_ (dO ?_ (dO ?_ (dO ?_ h9)))) (λgw=>?_)
 ·exact gX.q (qg λhd E' L' aF av=>h0 (i:=1) (q:=0) (β:=eh) (γ:=aH) pY (ah (aF _ _ I)) (av 1 _ I I) I)
 ·intro hd E' L' aF av cc;refine ag.rF (α:=aH) (r:=[bg]) underlying43 eC k4 I I (.cons (by simp) (ah (aF _ _ I)) (.nil)) I λei=>?_;exact ag.nil (an.place 3 (av 3 _ I I) (an.fin (cX [ei]) I I))
 ·intro hd E' L' aF av cc;refine ag.alE (λq=>⟨q.1,.row 54 bt q.2⟩) 2 3 anM (aep fa) ⟨ah (aF _ _ I),ah (aF _ _ I),ah (aF _ _ I),trivial⟩ I (av 2 _ I I) (av 3 _ I I) (λ_=>rfl) I λ⟨jU,dR⟩=>?_;exact ag.nil (an.fin (cX [jU,some dR]) I I)
 ·intro hd E' L' aF av cc;refine ag.j3 (i:=1) (γ:=aH) (b':=({ab with cz:=[]}:eh)) (os':=[(10,aP (hd 9 0) bt.length ((hd 9 1).getD 0))]) ((aQ.id eh).comp C3) pY (ah (aF _ _ I)) (ah (aF _ _ I)) jo (av 1 _ I I) I I I (ag.nil ?_);exact an.fin (cX []) I I
 refine an.dq (L2:=[aJ bk ai,⟨some bY,.cw ({ab with cz:=[]}:eh) [(10,aP (gw 9 0) bt.length ((gw 9 1).getD 0))]⟩,⟨(gw 9 0),.row 54 bt ((gw 9 1).getD 0)⟩,⟨none,.dead⟩]) I (e8 ?_);refine an.bw 3 I (aO ?_);refine an.bw 3 I (an.bw 3 I ?_);cases h;exact sr ((gw 9 0),((gw 9 1).getD 0))
def age{hp ab ai aR r}(h:Dg hp ab ai aR=some r):hr prog 230 [J.of ab,J.of ai,J.of aR] hp (J.of r.1) r.2:=by
 unfold Dg at h;refine bN.ofM func230 I ntmps230 I λW A=>aO λbk=>?_;refine aA h λao br h=>ag.fb (dL.fS 1 I aaB (Wx br) ⟨ah I,ah I,ah I,trivial⟩) I I I (cS ?_);refine ac8 ?_;refine ac8 ?_;refine dg ?_;refine dg (iy ?_);refine cS ?_;refine dV qD (ch ?_);refine kI h (λh=>?_) λh=>?_
 ·refine aO ?_;cases h;exact an.IM (an.eG () (fO 1) I I (du I))
 refine ly (b5 (cS ?_));refine aA h λbA dn h=>bx (l0 (j2 (ah I) dn)) ?_;refine dV (cg aks.fd) ?_;refine aA h λc1 dv h=>bx (o8 ((aQ.id hY).comp La) (r:=c1.eQ) kD (ah I) (jt (n:=1) I (wP dv) I) I I) ?_;refine ag.rF (α:=Ref) (r:=[c1.eQ]) underlying336 kD aaG I I (.cons (by simp) (ah I) (.nil)) I λei=>?_;refine ag.sh (z:=(default:aa Ref)) [0] akt anN I λbo=>ag.own (α:=Ref) 326 (ag.sh (z:=(default:aa Int)) [0] alF aqa I λb2=>ag.own (α:=Int) 3 (ag.j3 (i:=3) (γ:=Ref) (b':=([]:aa Ref)) (os':=[(0,aP ei [c1.eQ].length 1)]) (aQ.id (aa Ref)) yD (ah I) (ah I) jo I I I I (ag.own (α:=Int) 3 (ag.j3 (i:=2) (γ:=Int) (b':=([]:aa Int)) (os':=[(0,aP none ([]:aa Int).length 0)]) (aQ.id (aa Int)) lN (ah I) ml jo I I I I ?_))));refine aO ?_;refine aA h λaE bZ h=>qM MW (Lk bZ) (ch (ay.block ?_));refine aA h λar al h=>P6 (hp:=hp) (γ:=(aD Nat×Nat)×(aD Nat×Nat)) (g0:=((none,0),(ei,1))) (Ls:=λs1 g1=>(⟨g1.1.1,.row 3 s1.1 g1.1.2⟩::⟨none,.row 3 ([]:aa Int) 0⟩::⟨some b2,.cw ([]:aa Int) [(0,aP g1.1.1 s1.1.length g1.1.2)]⟩::⟨none,.row 326 ([]:aa Ref) 0⟩::⟨some bo,.cw ([]:aa Ref) [(0,aP g1.2.1 s1.2.length g1.2.2)]⟩::⟨g1.2.1,.row 326 s1.2 g1.2.2⟩::aJ bk ai::a1 hp)) (Lx:=λaw g1=>Empty.elim aw) (λs1 g1=>[⟨g1.1.1,.row 3 s1.1 g1.1.2⟩,⟨none,.row 3 ([]:aa Int) 0⟩,⟨some b2,.cw ([]:aa Int) [(0,aP g1.1.1 s1.1.length g1.1.2)]⟩,⟨none,.row 326 ([]:aa Ref) 0⟩,⟨some bo,.cw ([]:aa Ref) [(0,aP g1.2.1 s1.2.length g1.2.2)]⟩,⟨g1.2.1,.row 326 s1.2 g1.2.2⟩,aJ bk ai]) (λaw=>Empty.elim aw) I MX I O8 al (λ_ _=>rfl) I I (λtF s1 r h g1 nD nM nE l D rec xm=>?_) (λs1 aG g1 D=>?_) (λaw aG g1 D=>?_)
 ·refine ay.fm (dg (ag.nil ?_));refine an.begin 0 I xm (ay.block ?_);refine aA h λaI cQ h=>aA h λcC e9 h=>aA h λbu c0 h=>aA h λc2 eW h=>aA h λbg dS h=>aA h λbt fa h=>er [0,1,2,4,6,7,8,9,10,11,14,15,16,17,18,19,20,21,22,23,24,25,26,28,29,30,31,32] ?_;refine ay.ck 9 (aC 33 [] [6] (J.eq (aP g1.2.1 s1.2.length g1.2.2))::aC 34 [] [6] (J.eq (aP g1.2.1 s1.2.length g1.2.2))::aC 35 [] [6] (J.eq (aP g1.2.1 s1.2.length g1.2.2))::aC 36 [2] [7] (J.of (s1.2.length:Int))::aC 37 [3] [] _::aC 38 [1,3,4] [7] (J.eq (.pointer (some ⟨g1.2.1.getD 0,aI*1,none⟩)))::aC 39 [3,5] [7] (J.of (ax s1.2 aI))::aC 40 [] [] _::aC 41 [3,5,6] [] _::aC 42 [3,5,6,8] [] _::aC 43 [3,5,6,7,9] [] _::aC 44 [3,5,6,10] [] _::aC 45 [3,5,6,11] [] _::⟨some 46,[0,3,5,6,12],[7],[7],λhd=>J.eq (aP (hd 13 0) bg.length ((hd 13 1).getD 0)),λhd _=>⟨(hd 13 0),.row 326 bg ((hd 13 1).getD 0)⟩⟩::aC 47 [] [4] (J.eq (aP g1.1.1 s1.1.length g1.1.2))::aC 48 [] [] _::aC 49 [15] [] _::⟨some 50,[14,16],[2],[2],λhd=>J.eq (aP (hd 17 0) bt.length ((hd 17 1).getD 0)),λhd _=>⟨(hd 17 0),.row 3 bt ((hd 17 1).getD 0)⟩⟩::fz [0,1,2,13] [6] [6] (λhd=>⟨some bo,.cw ([]:aa Ref) [(0,aP (hd 13 0) bg.length ((hd 13 1).getD 0))]⟩)::fz [14,17] [4] [4] (λhd=>⟨some b2,.cw ([]:aa Int) [(0,aP (hd 17 0) bt.length ((hd 17 1).getD 0))]⟩)::[]) (dO ?_ (dO ?_ (dO ?_ (dO ?_ (dO ?_ (dO ?_ (dO ?_ (dO ?_ (dO ?_ (dO ?_ (dO ?_ h9))))))))))) (λcR=>?_)
  ·exact gX.q (qg λhd E' L' aF av=>h0 (i:=6) (q:=0) (β:=aa Ref) (γ:=Ref) yD (ah (aF _ _ I)) (av 6 _ I I) I)
  ·exact gX.q (qg λhd E' L' aF av=>h0 (i:=6) (q:=0) (β:=aa Ref) (γ:=Ref) yD (ah (aF _ _ I)) (av 6 _ I I) I)
  ·exact gX.q (qg λhd E' L' aF av=>h0 (i:=6) (q:=0) (β:=aa Ref) (γ:=Ref) yD (ah (aF _ _ I)) (av 6 _ I I) I)
  ·exact gX.q (qg λhd E' L' aF av=>qy (i:=7) underlying336 (ah (aF _ _ I)) I (av 7 _ I I))
  ·exact gX.q (qg λhd E' L' aF av=>mo (i:=7) (k:=aI) (xs:=(s1.2:aa Ref)) underlying336 kD (ah (aF _ _ I)) (ah (aF _ _ I)) (av 7 _ I I) (cK cQ))
  ·exact gX.q (qg λhd E' L' aF av=>qv (i:=7) (k:=aI) (aQ.id Ref) (r:=(ax s1.2 aI)) kD (ah (aF _ _ I)) (av 7 _ I I) (cK cQ).1 I I)
  ·intro hd E' L' aF av cc;refine ag.app (i:=7) underlying336 kD aaG (bytes:=8) (by kernel_rfl) (ah (aF _ _ I)) (av 7 _ I I) (ah (aF _ _ I)) dS I λjU dR=>?_;exact ag.nil (an.fin (cX [jU,some dR]) I I)
  ·exact gX.q (qg λhd E' L' aF av=>h0 (i:=4) (q:=0) (β:=aa Int) (γ:=Int) lN (ah (aF _ _ I)) (av 4 _ I I) I)
  ·intro hd E' L' aF av cc;refine ag.app (i:=2) underlying56 cm su (bytes:=8) (by kernel_rfl) (ah (aF _ _ I)) (av 2 _ I I) (ah (aF _ _ I)) fa I λny mq=>?_;exact ag.nil (an.fin (cX [ny,some mq]) I I)
  ·intro hd E' L' aF av cc;refine ag.j3 (i:=6) (γ:=Ref) (b':=([]:aa Ref)) (os':=[(0,aP (hd 13 0) bg.length ((hd 13 1).getD 0))]) (aQ.id (aa Ref)) yD (ah (aF _ _ I)) (ah (aF _ _ I)) jo (av 6 _ I I) I I I (ag.nil ?_);exact an.fin (cX []) I I
  ·intro hd E' L' aF av cc;refine ag.j3 (i:=4) (γ:=Int) (b':=([]:aa Int)) (os':=[(0,aP (hd 17 0) bt.length ((hd 17 1).getD 0))]) (aQ.id (aa Int)) lN (ah (aF _ _ I)) (ah (aF _ _ I)) jo (av 4 _ I I) I I I (ag.nil ?_);exact an.fin (cX []) I I
  refine an.dq (L2:=(⟨some l,.is (.loop {rec with state:=.busy})⟩::⟨some D,.fI⟩::⟨(cR 17 0),.row 3 bt ((cR 17 1).getD 0)⟩::⟨none,.row 3 ([]:aa Int) 0⟩::⟨some b2,.cw ([]:aa Int) [(0,aP (cR 17 0) bt.length ((cR 17 1).getD 0))]⟩::⟨none,.row 326 ([]:aa Ref) 0⟩::⟨some bo,.cw ([]:aa Ref) [(0,aP (cR 13 0) bg.length ((cR 13 1).getD 0))]⟩::⟨(cR 13 0),.row 326 bg ((cR 13 1).getD 0)⟩::aJ bk ai::a1 hp)) I (e8 ?_);refine an.mT ?_;cases h;exact an.Tx (((cR 17 0),((cR 17 1).getD 0)),((cR 13 0),((cR 13 1).getD 0))) 0 I
 ·clear al;subst aG;simp only[Sum.elim_inl]at h;refine an.dr ?_;refine an.mT (an.next (b5 (bx (h0 (i:=5) (q:=0) (β:=aa Ref) (γ:=Ref) yD (ah I) I I) ?_)));refine cS ?_;refine aA h λcB gr h=>bx (mo (i:=6) (k:=cB) (xs:=(s1.2:aa Ref)) underlying336 kD (ah I) (ah I) I (cK gr)) ?_;refine bx (qv (i:=6) (k:=cB) (aQ.id Ref) (r:=(ax s1.2 cB)) kD (ah I) I (cK gr).1 I I) ?_;refine aO λgH p5 h=>?_;refine aA h λeE k8 h=>aA h λbQ hQ h=>ag.qz (k':=Cell.h3 ({eE with gM:=false}:fc)) 8 I ((aQ.id fc).comp GK) (v:=false) k7 (ah I) (iL false) (sg k8) I I I I (dy hQ) (aO ?_);refine aA h λiH tE h=>aA h λcZ Bn h=>ag.qz (k':=Cell.h3 ({iH with j6:=0}:fc)) 8 I ((aQ.id fc).comp Lg) (v:=(0:Int)) cm (ah I) (dd 0) (sg tE) I I I I (dy Bn) (aO ?_);refine aA h λaS al h=>tC (σ:=Int×(aL Cell)) (ε:=(Int×Bool×(aL Cell))) (γ:=Unit) (δ:=Unit) al 8 [0,1,2,4,6,8,9,10,12,22,31] (λs2 g2=>[(13,J.of s2.1)]) (λs2 g2=>[]) (λs2 g2=>a1 s2.2) (λcH=>Exit.exit 2) (λcH g2=>[(13,J.of cH.1),(72,J.of cH.2.1)]) (λcH g2=>[]) (λcH g2=>a1 cH.2.2) () (λs2 r h g2=>?_) (λg2=>?_)
  ·refine aO ?_;refine iU (λhb=>h0 (i:=5) (q:=0) (β:=aa Ref) (γ:=Ref) yD (ah I) I I) ?_;refine aO ?_;refine aA h λe2 jw h=>iU (λhb=>mo (i:=6) (k:=e2) (xs:=(s1.2:aa Ref)) underlying336 kD (cf I hb) (cf I hb) I (cK (fe jw hb))) ?_;refine iU (λhb=>qv (i:=6) (k:=e2) (aQ.id Ref) (r:=(ax s1.2 e2)) kD (cf I hb) I (cK (fe jw hb)).1 I I) ?_;refine aA h λb3 hC h=>ag.xB (λhb=>dL.fS 8 I aaH (Wo (fe hC hb)) ⟨cf I hb,trivial⟩) I I I I I (aO (λh=>?_));refine aA h λrU NB h=>aA h λJ3 ac9 h=>aA h λmE BD h=>er [0,1,2,4,6,8,9,10,12,13,22,31,63,64,65,66,67,68,69,70,71,72] ?_;refine ay.ad0 10 8 mixed (aC 75 [] [5] _::aC 76 [] [] _::aC 77 [0,1] [6] _::aC 78 [2] [6] _::aC 79 [] [3] _::aC 80 [] [] _::aC 81 [4,5] [1] _::aC 82 [6] [1] _::aC 83 [3] [] _::aC 84 [8] [] _::[]) ⟨gX.q (gU λaF av=>h0 (i:=5) (q:=0) (β:=aa Ref) (γ:=Ref) yD (ah (aF _ _ I)) (av 5 _ I I) I),gX.q iY,gX.q (gU λaF av=>mo (i:=6) (k:=rU) (xs:=(s1.2:aa Ref)) underlying336 kD (ah (aF _ _ I)) (ah (aF _ _ I)) (av 6 _ I I) (cK NB)),gX.q (gU λaF av=>qv (i:=6) (k:=rU) (aQ.id Ref) (r:=(ax s1.2 rU)) kD (ah (aF _ _ I)) (av 6 _ I I) (cK NB).1 I I),gX.q (gU λaF av=>h0 (i:=3) (q:=0) (β:=aa Int) (γ:=Int) lN (ah (aF _ _ I)) (av 3 _ I I) I),gX.q iY,gX.q (gU λaF av=>mo (i:=1) (k:=J3) (xs:=(s1.1:aa Int)) underlying56 cm (ah (aF _ _ I)) (ah (aF _ _ I)) (av 1 _ I I) (cK ac9)),gX.q (gU λaF av=>qv (i:=1) (k:=J3) (aQ.id Int) (r:=(ax s1.1 J3)) cm (ah (aF _ _ I)) (av 1 _ I I) (cK ac9).1 I I),gX.q (gU λaF av=>l0 (j2 (ah (aF _ _ I)) BD)),gX.q (hU (cg Mc.fd)),trivial⟩ λgw=>?_;refine ag.dq (L2:=(⟨some D,.fI⟩::⟨g1.1.1,.row 3 s1.1 g1.1.2⟩::⟨none,.row 3 ([]:aa Int) 0⟩::⟨some b2,.cw ([]:aa Int) [(0,aP g1.1.1 s1.1.length g1.1.2)]⟩::⟨none,.row 326 ([]:aa Ref) 0⟩::⟨some bo,.cw ([]:aa Ref) [(0,aP g1.2.1 s1.2.length g1.2.2)]⟩::⟨g1.2.1,.row 326 s1.2 g1.2.2⟩::aJ bk ai::a1 s2.2)) I (ada ?_);refine aA h λJd ab2 h=>bx (hB (k:=Jd) R6 (ah I) (ah I) (cK ab2)) ?_;exact aA h λkN vS h=>aA h λiS IL h=>ag.qz (k':=Cell.h3 ({kN with dF:=dK kN.dF Jd (none:Ref)}:fc)) 8 I (((aQ.id fc).comp CG).comp (aQ.idx (α:=Ref) 2 Jd (cK ab2).1)) (v:=(none:Ref)) kD (ah I) o5 (sg vS) I I I I (dy IL) go
  refine aO λkb vT h=>?_;refine aA h λcd im h=>ag.fb (dL.fS 8 I aaH (Wo im) ⟨ah I,trivial⟩) I I I (ch (aA h λm1 bR h=>qL (γ:=Unit) 8 [0,1,2,4,6,8,9,10,12,13,22,31,72,90] (λg3=>[]) (λg3=>[]) (λg3=>a1 m1) (λg3=>?_) (λhm ae=>?_) (λhm ae=>?_)))
  ·refine aO ?_;cases h;refine an.yK 0 I I ?_;exact an.eG () (fO 8) I I (du I)
  ·have h:=fp ae bR;refine aO ?_;exact aA h λvU SZ h=>ag.qz (k':=Cell.lO ({kb with eQ:=(none:Ref)}:hY)) 8 I ((aQ.id hY).comp La) (v:=(none:Ref)) kD (ah I) o5 (wP vT) I I I I (dy SZ) go
  have h:=fq ae bR;exact go
 exact Empty.elim aw
def Wr{ab ai bY r}(h:Dl ab ai=some r):nL prog 79 [J.cN bY,J.of ai] bY ab (J.bT []) r:=by
 unfold Dl at h;refine bN.of func79 I ntmps79 I λW A=>?_;refine aO λbk=>?_;refine aA h λar al h=>fh (γ:=Unit) (δ:=Unit) al [0,1,3] (λs1 g1=>[(4,J.of s1)]) (λs1 g1=>[]) (λaw=>Exit.exit 0) (λaw g1=>[(4,J.of aw.1),(13,J.of aw.2)]) (λaw g1=>[]) () (λs1 r h g1=>?_) λg1=>?_
 ·refine aO (λh=>?_);refine aA h λaI cQ h=>aA h λao br h=>aA h λaE bZ h=>er [0,1,3,4,7,8,9,10,11,12,13] ?_;refine ay.ck 2 (aC 14 [] [] _::aC 15 [] [] _::aC 16 [1] [] _::aC 17 [2] [] _::aC 18 [3] [1] _::aC 19 [] [] _::aC 20 [4,5] [] _::aC 21 [6] [] _::aC 22 [7] [] _::aC 23 [0,8] [1] (J.of ao)::aC 24 [] [] _::aC 25 [] [] _::aC 26 [11] [0] _::aC 27 [10,12] [1] (J.of aE)::aC 5 [9] [] _::aC 6 [13] [] _::[]) (dO ?_ (dO ?_ h9)) (λcR=>?_)
  ·intro hd E' L' aF av cc;exact ag.fb (dL.call [1] IN (GP br) ⟨ah (aF _ _ I),ah (aF _ _ I),trivial⟩ I ⟨(av 1 _ I I),trivial⟩ I) I I I (ag.nil (an.fin (cX []) I I))
  ·intro hd E' L' aF av cc;exact ag.fb (dL.call [1] IN (GP bZ) ⟨ah (aF _ _ I),ah (aF _ _ I),trivial⟩ I ⟨(av 1 _ I I),trivial⟩ I) I I I (ag.nil (an.fin (cX []) I I))
  refine an.dq (L2:=[aJ bk ai,aJ bY ab]) I (e8 (an.next (ay.seq (ay.seq ?_))));refine aA h λbu c0 h=>aA h λbg dS h=>ay.jM mixed 22 (rg 28 22) [[],[],[0,1],[2],[3],[3],[3,4,5],[3,6],[7],[7,8],[7,9],[7,10],[7],[7,11,12],[7,13],[7,14],[7],[7,16],[7,15,17],[7,18],[3,7,19],[3,20]] [_,_,_,_,_,_,_,_,_,_,_,_,_,_,_,_,_,_,_,_,_,_] ⟨ey,ey,lC Em,ey,dI λL' av=>λhb=>cY (ah I),dI λL' av=>λhb=>cY (ah I),dI λL' av=>λhb=>pS (cf I hb) (cf I hb),dI λL' av=>λhb=>cY (cf I hb),λL' av=>ia.gg (λhb=>cY (ah I)) I I I,λL' av=>ia.gg (λhb=>l0 (cf I hb)) I I I,λL' av=>ia.gg (λhb=>cg Mw.fd (cf I hb)) I I I,λL' av=>ia.gg (λhb=>jb (i:=1) ((aQ.id cn).comp xX) (r:=ab.bE) pY (cf I hb) (av _ _ I I) I I) I I I,λL' av=>ia.gg (λhb=>cY (ah I)) I I I,λL' av=>ia.gg (λhb=>tl (k:=bu) underlying43 eC (cf I hb) (cf I hb) (cK (fe c0 (re hb)))) I I I,λL' av=>ia.gg (λhb=>tm zP Ii.fd (cf I hb) I I) I I I,λL' av=>ia.gg (λhb=>iw pX (cf I hb)) I I I,λL' av=>ia.gg (λhb=>cg Ii.fd (ah I)) I I I,λL' av=>ia.gg (λhb=>jb (i:=0) ((aQ.id aH).comp zP) (r:=ai.aX) pX (cf I hb) (av _ _ I I) I I) I I I,λL' av=>ia.gg (λhb=>j4 anO (Ww (fe dS (re hb))) ⟨cf I hb,cf I hb,trivial⟩) I I I,λL' av=>ia.gg (λhb=>Em (cf I hb) (dd 0)) I I I,dI λL' av=>λhb=>wV (cf I hb) (ah I) (λh=>⟨hb,h⟩),fA λav=>tu (ah I) (ah I) (λh=>h),trivial⟩ ?_;exact go
 refine an.lu (an.next (aA h λbt fa h=>aA h λb3 hC h=>aA h λcd im h=>aA h λcA lS h=>aA h λb4 p3 h=>ay.mW 1 (er [0,1,3,4,13] ?_)));refine ay.ck 3 (aC 52 [] [] _::⟨some 53,[],[2],[2],λhd=>J.eq (aP (hd 1 0) ([]:aa aH).length 0),λhd _=>⟨(hd 1 0),.row 54 ([]:aa aH) 0⟩⟩::aC 54 [] [] _::aC 55 [2] [] _::aC 56 [3] [] _::aC 57 [4] [1] _::aC 58 [] [] _::aC 59 [5,6] [] (J.of bt)::⟨some 60,[1,7],[2],[2],λhd=>J.eq (aP (hd 8 0) b3.length ((hd 8 1).getD 0)),λhd _=>⟨(hd 8 0),.row 54 b3 ((hd 8 1).getD 0)⟩⟩::aC 61 [] [0] _::aC 62 [9] [] _::⟨some 63,[1,8,10],[2],[2],λhd=>J.eq (aP (hd 11 0) cd.length ((hd 11 1).getD 0)),λhd _=>⟨(hd 11 0),.row 54 cd ((hd 11 1).getD 0)⟩⟩::aC 64 [] [] _::aC 65 [12] [] _::aC 66 [13] [] _::aC 67 [14] [1] _::aC 68 [] [] _::aC 69 [15,16] [] (J.of cA)::⟨some 70,[1,8,11,17],[2],[2],λhd=>J.eq (aP (hd 18 0) b4.length ((hd 18 1).getD 0)),λhd _=>⟨(hd 18 0),.row 54 b4 ((hd 18 1).getD 0)⟩⟩::aC 71 [0] [] _::aC 72 [19] [] _::⟨none,[1,5,8,11,15,18,20],[1,2],[1,2],λ_=>J.any,λhd j=>bif Nat.beq j 1 then(aJ bY ({ab with bE:=b4}:cn))else⟨none,.dead⟩⟩::[]) (dO ?_ (dO ?_ (dO ?_ (dO ?_ (dO ?_ (dO ?_ (dO ?_ h9))))))) (λgw=>?_)
 ·intro hd E' L' aF av cc;exact ag.rF (α:=aH) (r:=([]:aa aH)) underlying43 eC k4 I I (.nil) I λei=>ag.nil (an.place 2 (av 2 _ I I) (an.fin (cX [ei]) I I))
 ·exact gX.q (qg λhd E' L' aF av=>AN underlying43 eC (ah (aF _ _ I)) .none (.some (ah (aF _ _ I))) fa)
 ·intro hd E' L' aF av cc;refine ag.app (i:=2) underlying43 eC k4 (bytes:=88) (by kernel_rfl) (ah (aF _ _ I)) (av 2 _ I I) (ah (aF _ _ I)) hC I λjU dR=>?_;exact ag.nil (an.fin (cX [jU,some dR]) I I)
 ·intro hd E' L' aF av cc;refine ag.app (i:=2) underlying43 eC k4 (bytes:=88) (by kernel_rfl) (ah (aF _ _ I)) (av 2 _ I I) (ah (aF _ _ I)) im I λny mq=>?_;exact ag.nil (an.fin (cX [ny,some mq]) I I)
 ·exact gX.q (qg λhd E' L' aF av=>AN underlying43 eC (ah (aF _ _ I)) (.some (ah (aF _ _ I))) .none lS)
 ·intro hd E' L' aF av cc;refine ag.app (i:=2) underlying43 eC k4 (bytes:=88) (by kernel_rfl) (ah (aF _ _ I)) (av 2 _ I I) (ah (aF _ _ I)) p3 I λsn rG=>?_;exact ag.nil (an.fin (cX [sn,some rG]) I I)
 ·intro hd E' L' aF av cc;refine ag.aku (i:=1) (j:=2) (xs:=b4) (b':=({ab with bE:=b4}:cn)) ((aQ.id cn).comp xX) pY (aF _ _ I) I (aF _ _ I) (av 1 _ I I) (av 2 _ I I) I I I (ag.nil ?_);exact an.fin (cX []) I I
 refine an.dq (L2:=[aJ bk ai,aJ bY ({ab with bE:=b4}:cn),⟨none,.dead⟩]) I (e8 ?_);exact an.bw 2 I (an.lv go)
def Wm{ab ai bY r}(h:Dh ab ai=some r):nL prog 78 [J.cN bY,J.of ai] bY ab (J.bT []) r:=by
 unfold Dh at h;refine bN.of func78 I ntmps78 I λW A=>b5 (mv λbk=>iy ?_);refine ag.own (α:=aH) 54 (bx (dk ml) ?_);refine aO ?_;refine aA h λar al h=>fh (γ:=(aD Nat×Nat)) (δ:=(aD Nat×Nat)) al [0,1,3,10,11] (λs1 g1=>[(4,J.eq (aP g1.1 s1.2.length g1.2)),(12,J.of s1.1)]) (λs1 g1=>[(0,⟨g1.1,.row 54 s1.2 g1.2⟩)]) (λaw=>Exit.exit 0) (λaw g1=>[(4,J.eq (aP g1.1 aw.2.2.length g1.2)),(12,J.of aw.1),(13,J.of aw.2.1)]) (λaw g1=>[(0,⟨g1.1,.row 54 aw.2.2 g1.2⟩)]) (none,0) (λs1 r h g1=>?_) λg1=>?_
 ·refine go2 (λaI cQ bo ao br h=>?_) (λh=>?_)
  ·refine aA h λm1 bR h=>il (γ:=(aD Nat×Nat)) [0,1,3,6,10,11,12,13,20] (λg2=>[(4,J.eq (aP g2.1 m1.length g2.2))]) (λg2=>[(1,⟨g2.1,.row 54 m1 g2.2⟩)]) (λg2=>?_) (λhm ae=>?_) λhm ae=>?_
   ·refine aO ?_;cases h;exact hi (g2.1,g2.2) 1
   ·have h:=fp ae bR;refine aO ?_;refine aA h λaE bZ h=>iQ 1 underlying43 eC k4 bZ λei dR=>?_;refine dg (ag.nil ?_);cases h;exact dU 0 (hm (ei,dR))
   have h:=fq ae bR;refine ay.skip ?_;cases h;exact dU 0 (hm (g1.1,g1.2))
  cases h;exact gu (g1.1,g1.2) 0
 refine aO ?_;refine ag.kg (α:=aH) 0 [27,4] ⟨rfl,rfl,trivial⟩ I (I8 2 xX pY (ag.nil ?_));exact an.lv go
def afx{ab ai aR bY r}(h:CY ab ai aR=some r):nL prog 72 [J.cN bY,J.of ai,J.of aR] bY ab (J.bT [J.of r.1,J.of r.2.1]) r.2.2:=by
 unfold CY at h;refine bN.of func72 I ntmps72 I λW A=>?_;refine aO λbk=>?_;refine aA h λao br h=>ag.fb (dL.call [1] IN (GP br) ⟨ah I,ah I,trivial⟩ I ⟨rfl,trivial⟩ I) I I I (aO (λh=>?_));refine aA h λaE bZ h=>ag.fb (dL.call [1] S1 (Pu bZ) ⟨ah I,ah I,trivial⟩ I ⟨rfl,trivial⟩ I) I I I (aO (λbo h=>?_));refine aA h λbg dS h=>aA h λaI cQ h=>er [0,1,2,4,6,7,8,9,10,11,12,13,14,15,16,17,18,19,20,21,22] ?_;refine ay.ck 3 (aC 23 [] [] _::aC 24 [] [] _::aC 25 [1] [1] _::aC 26 [0,2] [2] (J.of bg)::aC 27 [3] [] _::aC 28 [] [] _::aC 29 [5] [] _::aC 30 [6] [] _::aC 31 [7] [] _::aC 32 [8] [2] _::aC 33 [] [] _::aC 34 [9,10] [] _::aC 35 [11] [] _::aC 36 [12] [] _::aC 37 [4,13] [] _::[]) (dO ?_ h9) (λcR=>?_)
 ·intro hd E' L' aF av cc;exact ag.fb (dL.call [2] S2 (afO dS) ⟨ah (aF _ _ I),ah (aF _ _ I),trivial⟩ I ⟨(av 2 _ I I),trivial⟩ I) I I I (ag.nil (an.fin (cX []) I I))
 refine an.dq (L2:=[aJ bo aE.1,aJ bk ai,aJ bY ab]) I (e8 ?_);refine aO (λh=>?_);refine aA h λbt fa h=>er [0,1,2,4,6,7,8,9,10,11,12,13,14,15,16,17,18,19,20,21,22,23,24,25,26,27,28,29,30,31,32,33,34,35,36,37] ?_;refine ay.ck 3 (aC 38 [] [] _::aC 39 [] [1] _::aC 40 [] [] _::aC 41 [2] [] _::aC 42 [3] [] _::aC 43 [4] [2] _::aC 44 [] [] _::aC 45 [1,5,6] [] _::⟨some 46,[0,5,7],[2],[2],λ_=>J.bT [],λhd _=>aJ bY bt⟩::[]) (dO ?_ h9) (λgw=>?_)
 ·intro hd E' L' aF av cc;exact ag.bw 2 (av 2 _ I I) (ag.lK (Lin:=[aJ bY ab]) (Lr:=L'.eraseIdx 2) ab3 (Wr fa) ⟨ah (aF _ _ I),ah (aF _ _ I),trivial⟩ I λaw=>ag.nil (an.back 2 (av 2 _ I I) (an.fin (cX []) I I)))
 refine an.dq (L2:=[aJ bo aE.1,aJ bk ai,aJ bY bt]) I (e8 ?_);exact go
def afy{ab ai bY r}(h:xU ab ai=some r):nL prog 35 [J.cN bY,J.of ai] bY ab (J.bT [J.of r.1,J.of r.2.1]) r.2.2:=by
 unfold xU at h;refine bN.of func35 I ntmps35 I λW A=>?_;refine aO λbk bo=>?_;refine aA h λao br h=>ag.fb (dL.call [2] IN (GP br) ⟨ah I,ah I,trivial⟩ I ⟨rfl,trivial⟩ I) I I I (aO (λh=>?_));refine aA h λaE bZ h=>ag.fb (dL.call [2] S1 (Pu bZ) ⟨ah I,ah I,trivial⟩ I ⟨rfl,trivial⟩ I) I I I (aO (λb2 h=>?_));refine ag.bw 3 I (aA h λbg dS h=>eH 1 ab4 (Wm dS) λaw=>?_);refine aO λbp ev h=>?_;refine ag.bw 0 I (aA h λbt fa h=>eH 1 ab3 (Wr fa) λcH=>?_);exact go
def afz{ab ai bY r}(h:xV ab ai=some r):nL prog 37 [J.cN bY,J.of ai] bY ab (J.bT [J.of r.1,J.of r.2.1]) r.2.2:=by
 unfold xV at h;refine bN.of func37 I ntmps37 I λW A=>?_;refine aO λbk bo=>?_;refine aA h λao br h=>ag.fb (dL.call [2] IN (GP br) ⟨ah I,ah I,trivial⟩ I ⟨rfl,trivial⟩ I) I I I (aO (λh=>?_));refine aA h λaE bZ h=>ag.fb (dL.call [2] S1 (Pu bZ) ⟨ah I,ah I,trivial⟩ I ⟨rfl,trivial⟩ I) I I I (aO (λb2 h=>?_));refine ag.bw 3 I (aA h λbg dS h=>eH 1 ab4 (Wm dS) λaw=>?_);exact go
def Wj{hp ab ai Q}(h:wu hp ab ai Q):lB prog 82 [J.of ab,J.of ai] hp Q:=by
 unfold wu at h;refine bN.of func82 I ntmps82 I λW A=>b5 (bx (dk (look_nil (α:=aH))) ?_);refine aO ?_;refine aj.bH h λao br h=>ag.fb (dL.fS 0 I EE (C4 br) ⟨ah I,ah I,trivial⟩) I I I (ag.ek 0 0 I anP (agx h) I I ⟨ah I,trivial⟩ I λ⟨⟨aE,h⟩,aw⟩=>ag.dr ?_);refine dg (ch (ay.ret ?_));exact an.eG (⟨⟨(aE.1,aE.2),h⟩,()⟩: {r // _}×_) (.refl _) I I (du I)
def agZ{ab ai r}(h:ud ab ai=some r):dz prog 56 [J.of ab,J.of ai] (J.of r):=by
 unfold ud at h;refine dz.of func56 I ntmps56 I λW A=>?_;exact go
instance:fk prog 56 _ _ _ ud J.of J.of J.of:=
 ⟨⟨_,func56,rfl,by kernel_rfl⟩,λ_ _ _ h=>agZ h⟩
def aeI{ab ai bY iO iP r}(h:CB ab ai=some r):bN prog 259 [J.cN bY,J.of ai] [⟨some bY,.cw ({ab with cz:=[]}:eh) [(10,aP iO ab.cz.length iP)]⟩,⟨iO,.row 54 ab.cz iP⟩] (δ:=Unit) (λd=>J.bT [J.of r.1,J.of r.2]) (λd=>[⟨some bY,.cw ({ab with cz:=[]}:eh) [(10,aP iO ab.cz.length iP)]⟩,⟨iO,.row 54 ab.cz iP⟩]):=by
 unfold CB at h;refine bN.ofM func259 I ntmps259 I λW A=>aO λbk bo b2=>?_;refine bx (Ib underlying205 (ah I)) (ch ?_);refine ay.wT (ah I) I (aO ?_);refine aA h λao br h=>qM anQ (aeL br) (ch (ay.block ?_));refine ay.bw 4 I (ay.bw 4 I (aA h λar al h=>ajl (γ:=Unit) (g0:=()) (Lin:=[⟨some bY,.cw ({ab with cz:=[]}:eh) [(10,aP iO ab.cz.length iP)]⟩,⟨iO,.row 54 ab.cz iP⟩]) (Ls:=λs1 g1=>[aJ b2 (default:Bool),aJ bo (default:aH),aJ bk ai]) (Lx:=λaw g1=>[aJ b2 aw.1,aJ bo aw.2,aJ bk ai]) (λaw=>.ret) I anR I aes al I I (λtF s1 r h g1 nD nM nE l D rec xm=>?_) (λs1 aG g1 D=>?_) (λaw aG g1 D=>?_)))
 ·refine aO λdc=>?_;refine an.begin 1 I xm ?_;refine aO λaE bZ h=>?_;cases h;exact an.Rp () 1 I I I
 ·clear al;subst aG;simp only[Sum.elim_inl]at h;refine an.dr ?_;refine aO ?_;refine an.bw 2 I (an.bw 2 I ?_);cases h;refine an.yK 2 I I ?_;exact an.rz () (.cons_cons _ (.cons_cons _ (q9 _))) I I (nv (i:=4) eC I I) (nv (i:=3) k7 I I)
 clear al;subst aG;simp only[Sum.elim_inr]at h;refine ay.ret (an.dr ?_);refine an.kF (an.ret (an.bw 2 I (an.bw 2 I ?_)));cases h;refine an.yK 2 I I ?_;exact an.rz () (.cons_cons _ (.cons_cons _ (q9 _))) I I (nv (i:=4) eC I I) (nv (i:=3) k7 I I)
def ae0{ab ai aR r}(h:O0 ab ai aR=some r):dz prog 54 [J.ptr ab,J.of ai,J.of aR] (J.bT [J.of r.1,J.of r.2]):=by
 unfold O0 at h;refine dz.of func54 I ntmps54 I λW A=>?_;refine aO λbk bo=>?_;refine aA h λao br h=>aA h λaE bZ h=>ay.jM mixed 11 (rg 8 11) [[],[0],[1],[2],[],[],[4,5],[],[3,6,7],[8],[8]] [_,_,_,_,_,_,_,_,_,_,_] ⟨ey,H1 ta,BG Ad Ij.fd,H1 (iw pW),ey,ey,mY S2 (V1 br),rK 1 Eo,mY ac3.ck (ac3.m _ _ _ _ bZ),adb,adb,trivial⟩ ?_;exact go
def Wa{hp y ab r}(h:K3 hp y ab=some r):mQ prog "matchguard/index.find" (J.of y) [J.of ab] ([]++a1 hp) (δ:=Unit) (fun _=>J.bT [J.of r.1,J.of r.2]) (fun _=>[]++a1 hp):=by
 cases y with
 |nil=>cases h
 |pg z=>exact mQ.of aic (λA W u hu=>LN hu) (afS h)
 |ph z=>exact mQ.of aid (λA W u hu=>LO hu) (afh h)
 |pj z=>exact mQ.of aie (λA W u hu=>LP hu) (afW h)
def agf{hp ab ai Q}(h:G0 hp ab ai Q):BF prog 255 [J.of ab,J.of ai] hp Q:=by
 unfold G0 at h;refine bN.of func255 I ntmps255 I λW A=>?_;refine aO λbk bo=>?_;refine aj.bH h λbA dn h=>aj.bH h λc1 dv h=>aj.bH h λao br h=>ag.qe (eD.obj 2 (λq:aD Nat×Nat=>Cell.vL ao.2 q.1 q.2) I (yp dv) anS (aeZ br) I (λ_=>rfl) ⟨j2 (ah I) dn,ah I,trivial⟩) I I I λaw=>?_;replace h:=aj.any_bind h aw;refine aj.bH h λbQ hQ h=>ag.dq (L2:=(aJ bo ai::aJ bk ab::a1 bQ)) (by rw[<-dy hQ];rfl) ?_;exact ag.nil (an.lv (an.nu (⟨⟨bQ,h⟩,()⟩: {r // _}×_) (fO 2) I I))
def aeP{hp ab ai r}(h:F3 hp ab ai=some r):hr prog 221 [J.of ab,J.of ai] hp (J.bT []) r:=by
 unfold F3 at h;refine bN.of func221 I ntmps221 I λW A=>?_;refine aO λbk bo ao br b2 dc h=>?_;refine aA h λbA dn h=>aA h λc1 dv h=>aA h λbp ev h=>ay.jM mixed 6 (rg 15 6) [[],[0],[],[1,2],[],[]] [_,_,_,_,_,_] ⟨H1 (cg YM.fd),iR 3 FP Sb,rK 1 MR,fA λav=>vu (r:=bp) underlying202 yC Ep (ll (ah I) dn) (ah I) (pf (λi e q=>av i e q I) (jt (n:=4) I (pa dv) I)) (dy ev),rK 0 fx,ey,trivial⟩ ?_;refine aA h λaE bZ h=>ag.ek 4 0 I anT (age bZ) I I ⟨ah I,ah I,ah I,trivial⟩ I λaw=>ag.dr ?_;refine aO ?_;refine aA h λc2 eW h=>aA h λz2 hj h=>bx (vu (r:=z2) underlying202 yC Ep (ll (ah I) dn) (ah I) (jt (n:=4) I (pa eW) I) (dy hj)) ?_;refine aA h λbg dS h=>ag.fb (dL.fS 4 I anU (agI dS) ⟨ah I,trivial⟩) I I I (dW pS (ch ?_));refine aA h λm1 bR h=>qL (γ:=Unit) 4 [0,1,2,3,4,5,6,27] (λg1=>[]) (λg1=>[]) (λg1=>a1 m1) (λg1=>?_) (λhm ae=>?_) (λhm ae=>?_)
 ·exact an.lv go
 ·have h:=fp ae bR;refine aO ?_;exact aA h λbQ hQ h=>ag.MS (k':=Cell.oG (ju c2 ao.1)) 4 I underlying202 yC (ll (ah I) dn) (ah I) (pa eW) I I I (dy hQ) go
 have h:=fq ae bR;exact go
def agQ{ab ai aR bY r}(h:x6 ab ai aR=some r):nL prog 33 [J.cN bY,J.of ai,J.of aR] bY ab (J.of r.1) r.2:=by
 unfold x6 at h;refine bN.of func33 I ntmps33 I λW A=>?_;refine aO λbk=>?_;refine ag.bw 1 I (aA h λao br h=>eH 1 S3 (Pp br) λaw=>?_);refine aO ?_;refine ag.bw 1 I (aA h λaE bZ h=>eH 1 aqb (afx bZ) λcH=>?_);refine aO (λbg dS h=>?_);refine aA h λbt fa h=>aA h λaI cQ h=>aA h λbp ev h=>er [0,1,2,4,6,7,8,9,10,11,12,13,14,15,16,17,18,19,20,21,23,24,25,26,27,28] ?_;refine ay.ck 3 (aC 29 [] [] _::aC 30 [0] [] _::aC 31 [1] [] _::aC 32 [2] [] _::aC 33 [2] [] _::aC 34 [2,3,4] [1] (J.cond ((decide (bg<0))=false) (J.of bt))::aC 35 [2] [] _::aC 36 [2,6] [] _::aC 37 [2,7] [] _::aC 38 [2,8] [] _::aC 39 [2,9] [1] _::aC 40 [2] [] _::aC 41 [2,10,11] [] _::aC 42 [2,12] [] _::aC 43 [2,13] [] _::aC 44 [2,5,14] [] _::aC 45 [2,15] [] _::[]) (dO ?_ h9) (λcR=>?_)
 ·exact gX.q (abQ I I I I (λhd=>rfl) λhd E' L' aF av hb=>bj.Sc (z:=(ab:cn)) 1 32 (aF _ _ I) (Ty hb) (av 1 _ I I) yh (j4 ab5 (Wu (fe fa hb)) ⟨ah I,cf (aF _ _ I) hb,trivial⟩))
 refine an.dq (L2:=[aJ aw aE.2.2,aJ bY ab,aJ bk ai]) I (e8 ?_);exact go
def agy{hp ab Q}(h:G4 hp ab Q):lB prog 39 [J.of ab] hp Q:=by
 unfold G4 at h;refine bN.of func39 I ntmps39 I λW A=>b5 (bx (dk (look_nil (α:=aH))) (hh (b5 ?_)));refine cS ?_;refine bx (AJ underlying85 (ah I)) (ch ?_);refine y1 h (λh=>?_) λh=>?_
 ·refine b5 (bx (dk (look_nil (α:=aH))) (ch (ay.ret (an.ret ?_))));exact an.eG (⟨⟨(([]:aa aH),hp),h⟩,()⟩: {r // _}×_) (.refl _) I I (du I)
 refine ly (b5 (ag.own (α:=aH) 54 (bx (dk ml) ?_)));refine aO λbA dn c1 dv h=>?_;refine BE (σ:=Int×(aa aH)×(aL Cell)) (ε:=(Int×Bool×(aa aH)×(aL Cell))) (γ:=(aD Nat×Nat)) (δ:=(aD Nat×Nat)) h 1 [0,2,7,12,13] (λs1 g1=>[(3,J.eq (aP g1.1 s1.2.1.length g1.2)),(14,J.of s1.1)]) (λs1 g1=>[(0,⟨g1.1,.row 54 s1.2.1 g1.2⟩)]) (λs1 g1=>a1 s1.2.2) (λaw=>Exit.exit 0) (λaw g1=>[(3,J.eq (aP g1.1 aw.2.2.1.length g1.2)),(14,J.of aw.1),(15,J.of aw.2.1)]) (λaw g1=>[(0,⟨g1.1,.row 54 aw.2.2.1 g1.2⟩)]) (λaw g1=>a1 aw.2.2.2) (none,0) (λs1 R h g1=>?_) (λar h g1=>?_)
 ·refine go2 (λaI cQ bk h=>?_) (λh=>?_)
  ·refine ag.ek 2 0 I ab6 (Wj h) I I ⟨ah I,ah I,trivial⟩ I λ⟨⟨ao,h⟩,cH⟩=>ag.dr ?_;refine aj.bH h λaE bZ h=>iQ 1 underlying43 eC k4 bZ λei dR=>?_;refine aO ?_;exact an.yo h (ei,dR) 1 I .all
  exact an.uq h (g1.1,g1.2) 0 I (by simp) I .all
 refine aO ?_;exact an.kg (α:=aH) 0 [2,3,25] ⟨rfl,rfl,rfl,trivial⟩ I (an.eG (⟨⟨(ar.2.2.1,ar.2.2.2),h⟩,()⟩: {r // _}×_) (fO 1) I I (du I))
instance NC:fk prog 42 _ _ _ wy J.of J.of J.of:=.i func42 I ntmps42 I λab ai r h W A=>by
 unfold wy at h;refine aO (λh=>?_);refine aA h λar al h=>fh (γ:=Unit) (δ:=Unit) al [0,1,4,10,12] (λs1 g1=>[(13,J.of s1)]) (λs1 g1=>[]) (λaw=>Sum.elim (λaw=>Exit.exit 0) (λaw=>Exit.ret) aw) (λaw g1=>Sum.elim (λaw=>[(13,J.of aw.1),(14,J.of aw.2)]) (λaw=>[(5,J.of aw.1),(13,J.of aw.2.1),(14,J.of aw.2.2.1),(25,J.of aw.2.2.2)]) aw) (λaw g1=>[]) () (λs1 r h g1=>?_) λg1=>?_
 ·refine aO (λh=>?_);refine aA h λaI cQ h=>aA h λbu c0 h=>aA h λao br h=>ay.fy 10 ?_;exact go
 rcases ar with ar|ar
 ·simp only[Sum.elim_inl]at h;exact go
 simp only[Sum.elim_inr]at h;exact go
def afi{hp ab ai Q}(h:CR hp ab ai Q):lB prog 43 [J.of ab,J.of ai] hp Q:=by
 unfold CR at h;refine bN.of func43 I ntmps43 I λW A=>b5 (bx (dk (look_nil (α:=aH))) ?_);refine aO ?_;refine aj.bH h λao br h=>ag.fb (dL.fS 0 I IH (FZ br) ⟨ah I,trivial⟩) I I I (cS ?_);refine ag.ek 0 0 I ab6 (Wj h) I I ⟨ah I,ah I,trivial⟩ I λ⟨⟨aE,h⟩,aw⟩=>ag.dr ?_;refine dg (ch (ay.ret ?_));exact an.eG (⟨⟨(aE.1,aE.2),h⟩,()⟩: {r // _}×_) (.refl _) I I (du I)
def afj{hp ab ai r}(h:Gp hp ab ai=some r):hr prog 254 [J.of ab,J.of ai] hp (J.bT [J.of r.1,J.of r.2]) hp:=by
 unfold Gp at h;refine bN.of func254 I ntmps254 I λW A=>?_;refine aO λbk bo=>?_;refine aA h λbA dn h=>aA h λc1 dv h=>aA h λao br h=>ag.fb (dL.obj 2 I (yp dv) anV (aeI br) I ⟨j2 (ah I) dn,ah I,trivial⟩) I I I ?_;exact go
def Pv{hp ab ai r}(h:Ae hp ab ai=some r):hr prog 98 [J.of ab,J.of ai] hp (J.bT [J.of r.1,J.of r.2]) hp:=by
 unfold Ae at h;refine bN.of func98 I ntmps98 I λW A=>?_;refine aO (λbk bo h=>?_);refine aA h λbA dn h=>aA h λc1 dv h=>aA h λao br h=>er [0,1,3,4,5,8,9] ?_;refine ay.ck 2 (aC 12 [] [] _::aC 13 [0] [] _::aC 14 [1] [] _::aC 15 [2] [] _::aC 16 [] [1] _::aC 17 [3,4] [] (J.bT [J.of ao.1,J.of ao.2])::aC 11 [5] [] _::aC 18 [6] [] _::aC 19 [6] [] _::aC 6 [7] [] _::aC 7 [8] [] _::[]) (dO ?_ h9) (λcR=>?_)
 ·intro hd E' L' aF av cc;refine ag.fb (dL.EF 2 (cc.trans I) (Wa br) ⟨ah (aF _ _ I),ah (aF _ _ I),trivial⟩) I I I (ag.nil ?_);exact an.fin (cX []) I I
 refine an.dq (L2:=(aJ bo (default:aH)::aJ bk ai::a1 hp)) I (e8 ?_);refine aO ?_;exact aA h λaE bZ h=>ag.fb (dL.fS 2 I aaI (Wh bZ) ⟨ah I,ah I,ah I,trivial⟩) I I I go
def afX{hp y ab Q}(h:Pk hp y ab Q):mQ prog "matchguard/index.put" (J.of y) [J.of ab] ([]++a1 hp) (δ:= {r:(aL Cell) // Q r}×Unit) (fun d=>J.bT []) (fun d=>[]++a1 d.1.1):=by
 cases y with
 |nil=>exact h.elim
 | pg z=>
   obtain⟨r,h1,ad⟩:=h
   exact mQ.of aif (λA W u hu=>LN hu) (bN.map (λd=>(⟨r,ad⟩,d)) (λ_=>rfl) (λ_=>rfl) (agc h1))
 |ph z=>exact mQ.of aih (λA W u hu=>LO hu) (afw h)
 |pj z=>exact mQ.of aii (λA W u hu=>LP hu) (agf h)
def ae1{hp y ab Q}(h:O1 hp y ab Q):mQ prog "matchguard/index.remove" (J.of y) [J.of ab] ([]++a1 hp) (δ:= {r:(aL Cell) // Q r}×Unit) (fun d=>J.bT []) (fun d=>[]++a1 d.1.1):=by
 cases y with
 |nil=>exact h.elim
 | pg z=>
   obtain⟨r,h1,ad⟩:=h
   exact mQ.of aij (λA W u hu=>LN hu) (bN.map (λd=>(⟨r,ad⟩,d)) (λ_=>rfl) (λ_=>rfl) (afc h1))
 | ph z=>
   obtain⟨r,h1,ad⟩:=h
   exact mQ.of aik (λA W u hu=>LO hu) (bN.map (λd=>(⟨r,ad⟩,d)) (λ_=>rfl) (λ_=>rfl) (aeP h1))
 |pj z=>exact mQ.of ail (λA W u hu=>LP hu) (aff h)
def GU{hp ab Q}(h:Dd hp ab Q):lB prog 13 [J.of ab] hp Q:=by
 unfold Dd at h;refine bN.of func13 I ntmps13 I λW A=>b5 (bx (dk (look_nil (α:=aH))) ?_);refine aO ?_;refine aj.bH h λao br h=>ag.fb (dL.fS 0 I IH (FZ br) ⟨ah I,trivial⟩) I I I (ag.ek 0 0 I aqc (agy h) I I ⟨ah I,trivial⟩ I λ⟨⟨aE,h⟩,aw⟩=>ag.dr ?_);refine dg (ch (ay.ret ?_));exact an.eG (⟨⟨(aE.1,aE.2),h⟩,()⟩: {r // _}×_) (.refl _) I I (du I)
def ae2{hp y ab r}(h:O2 hp y ab=some r):mQ prog "matchguard/index.lookup" (J.of y) [J.of ab] ([]++a1 hp) (δ:=Unit) (fun _=>J.bT [J.of r.1,J.of r.2]) (fun _=>[]++a1 hp):=by
 cases y with
 |nil=>cases h
 |pg z=>exact mQ.of aim (λA W u hu=>LN hu) (ae9 h)
 |ph z=>exact mQ.of ain (λA W u hu=>LO hu) (aeO h)
 |pj z=>exact mQ.of aio (λA W u hu=>LP hu) (afj h)
def PE{hp ab ai Q}(h:Ah hp ab ai Q):lB prog 101 [J.of ab,J.of ai] hp Q:=by
 unfold Ah at h;refine bN.of func101 I ntmps101 I λW A=>?_;refine go2 (λbk h=>?_) (λbk h=>?_)
 ·exact an.eG (⟨⟨(false,hp),h⟩,()⟩: {r // _}×_) (fO 1) I I (du I)
 refine aj.bH h λbA dn h=>aj.bH h λc1 dv h=>aj.bH h λcC e9 h=>aj.bH h λc2 eW h=>aj.bH h λbp ev h=>ay.A9 1 1 (er [0,1,3,4,9,10] ?_);refine ay.ck 2 (aC 12 [] [] _::aC 13 [0] [] _::aC 14 [1] [] _::aC 15 [2] [] _::aC 16 [] [] _::aC 17 [4] [0] _::aC 18 [3,5] [] (J.bT [J.of (bp.getD default),J.of bp.isSome])::aC 11 [6] [] _::aC 19 [7] [] _::aC 20 [7] [] _::p2 5 [] 1 10 _::fz [8,10] [1] [1] (λhd=>aJ ((hd 10 0).getD 0) (bp.getD default:aH))::aC 6 [9] [] _::[]) (dO ?_ h9) (λcR=>?_)
 ·intro hd E' L' aF av cc;refine bx (Qj (r:=bp) underlying193 Bx k4 (ll (ah (aF _ _ I)) e9) (ah (aF _ _ I)) (jt (n:=2) (cc.trans I) (uo eW) I) (dy ev)) (ag.nil ?_);exact an.fin (cX []) I I
 refine an.dq (L2:=(aJ bk ai::aJ ((cR 10 0).getD 0) (bp.getD default:aH)::a1 hp)) I (e8 ?_);refine an.bw 1 I (an.next (ay.seq (ay.seq (aj.bH h λgH p5 h=>aj.bH h λeE k8 h=>aj.bH h λao br h=>er [0,1,3,4,5,6,9,10,11,12,13,14,15,16,17,18,19,20] ?_))));refine ay.ck 2 (aC 22 [] [] _::aC 23 [0] [] _::aC 24 [1] [] _::aC 25 [2] [] _::aC 26 [] [] _::aC 27 [4] [1] _::aC 28 [3,5] [] (J.bT [J.of ao.1,J.of ao.2])::aC 21 [6] [] _::aC 29 [7] [] _::aC 30 [7] [] _::aC 7 [8] [] _::aC 8 [9] [] _::[]) (dO ?_ h9) (λgw=>?_)
 ·intro hd E' L' aF av cc;refine ag.fb (dL.EF 2 (cc.trans I) (Wa br) ⟨ah (aF _ _ I),ah (aF _ _ I),trivial⟩) I I I (ag.nil ?_);exact an.fin (cX []) I I
 refine an.dq (L2:=(aJ ((cR 10 0).getD 0) (bp.getD default:aH)::aJ bk ai::a1 hp)) I (e8 ?_);refine go2 (λh=>?_) (λh=>?_)
 ·exact an.eG (⟨⟨(false,hp),h⟩,()⟩: {r // _}×_) (fO 2) I I (du I)
 refine aj.bH h λmb yZ h=>aj.bH h λiH tE h=>aj.bH h λaE bZ h=>ay.fy 8 ?_;refine aj.bH h λmE BD h=>aj.bH h λkN vS h=>aj.bH h λbQ hQ h=>ag.Ir (k':=Cell.mr (gP kN ai.b0 aE)) 2 I (by first|exact .inl I|exact .inr I) underlying193 Bx (ll (ah I) BD) (ah I) (ah I) (uo vS) I I I (dy hQ) ?_;refine hh (aj.bH h λkb vT h=>ay.fy 5 ?_);refine ag.EF 2 0 I (afX h) I I ⟨ah I,ah I,trivial⟩ I λ⟨⟨bg,h⟩,aw⟩=>?_;refine ag.dr ?_;refine aO ?_;exact an.eG (⟨⟨(true,bg),h⟩,()⟩: {r // _}×_) (fO 2) I I (du I)
def agR{hp ab ai Q}(h:Lq hp ab ai Q):lB prog 20 [J.of ab,J.ptr ai] hp Q:=by
 unfold Lq at h;refine bN.of func20 I ntmps20 I λW A=>b5 (dg (hh (ay.seq ?_)));obtain⟨lT,oH,tw⟩:=aj.ex h;refine ay.anW mixed 17 (jd 17 0) I I (dm.jy (γ:=Subtype lT) [0,1,4] 0 0 11 (jd 17 63) (λEa=>[(18,J.of Ea.1.1),(22,J.of ai.bE)]) (λEa=>[]) (λEa=>a1 Ea.1.2) (λEa=>?_) (λaaJ=>?_))
 ·obtain⟨ao,gY⟩:=Ea;have h:=tw ao gY;refine dm.dq (L2:=(a1 ao.2)) I (dm.le (E':=[(0,J.of ab),(1,J.ptr ai),(4,J.of false),(18,J.of ao.1),(22,J.of ai.bE)]) .all (aj.bH h λaE bZ h=>aj.bH h λbg dS h=>?_));refine dm.jy (γ:=Unit) [0,1,4] 0 0 0 (jd 17 131071) (λRs=>[(33,J.of ((!aE)||(bg !=ai.h6)))]) (λRs=>[]) (λRs=>a1 ao.2) (λRs=>?_) (λanX=>?_)
  ·refine dm.last (by kernel_rfl) ?_;refine an.next (y1 h (λh=>?_) λh=>?_)
   ·refine b5 (dg (ch (ay.ret (an.ret ?_))));exact an.eG (⟨⟨(false,ao.2),h⟩,()⟩: {r // _}×_) (.refl _) I I (du I)
   refine ly (ay.seq (b5 (dg (ch (ay.block ?_)))));refine BE (σ:=Int×(aL Cell)) (ε:=(Int×Bool×(aL Cell))⊕(Int×Bool×Bool×(aL Cell))) (γ:=Unit) (δ:=Unit) h 0 [0,1,4,33] (λs1 g1=>[(5,J.of s1.1)]) (λs1 g1=>[]) (λs1 g1=>a1 s1.2) (λaw=>Sum.elim (λaw=>Exit.exit 0) (λaw=>Exit.ret) aw) (λaw g1=>Sum.elim (λaw=>[(5,J.of aw.1),(35,J.of aw.2.1)]) (λaw=>[(5,J.of aw.1),(35,J.of aw.2.1),(45,J.of aw.2.2.1)]) aw) (λaw g1=>[]) (λaw g1=>Sum.elim (λaw=>a1 aw.2.2) (λaw=>a1 aw.2.2.2) aw) () (λs1 R h g1=>?_) (λar h g1=>?_)
   ·refine ay.seq (b5 (cS ?_));refine dW Iu (ch ?_);refine y1 h (λh=>?_) λh=>?_
    ·refine ly (ay.seq (ay.block (b5 (cS ?_))));refine cS ?_;refine ag.ek 0 0 I aqd (afi h) I I ⟨ah I,ah I,trivial⟩ I λ⟨⟨bt,h⟩,cH⟩=>ag.dr ?_;refine cS ?_;refine cS ?_;refine aj.bH h λb3 hC h=>qM S2 (V1 hC) ?_;refine aj.bH h λcd im h=>qM NC.ck (NC.m _ _ _ im) ?_;refine dV qD (ch ?_);refine y1 h (λh=>?_) λh=>?_
     ·refine b5 (dg (ch (ay.ret ?_)));exact an.kF (an.ret (an.uq h () 0 I (by simp) I .all))
     refine ay.skip (an.mT (an.next (ay.fm (cS ?_))));refine dW jS ?_;refine dg (ag.nil ?_);exact an.yo h () 0 I .all
    exact ay.exit (an.exit (an.uq h () 0 I (by simp) I .all))
   rcases ar with ar|ar
   ·simp only[Sum.elim_inl]at h;refine an.lu (an.next (b5 (cS ?_)));refine ag.ek 0 0 I aqe (aeW h) I I ⟨ah I,trivial⟩ I λ⟨⟨cA,h⟩,eJ⟩=>ag.dr ?_;refine cS ?_;refine ag.ek 0 0 I aqf (aeK h) I I ⟨ah I,trivial⟩ I λ⟨⟨b4,h⟩,ht⟩=>ag.dr ?_;refine cS ?_;refine aj.bH h λdH qP h=>ag.fb (dL.fS 0 I aqg (afq qP) ⟨ah I,trivial⟩) I I I (dg ?_);refine dg ?_;refine dg (hh ?_);refine aj.bH h λfH uA h=>aj.bH h λhl tt h=>aj.bH h λhn Bj h=>ay.jM mixed 9 (rg 52 9) [[],[0],[],[2],[3],[4],[],[6],[5,7]] [_,_,_,_,_,_,_,_,_] ⟨ey,mY aqh (agD uA),ey,H1 ta,BG Ad Ij.fd,H1 (iw pW),ey,mY ab1 (Wn tt),mY ac2.ck (ac2.m _ _ _ Bj),trivial⟩ ?_;refine dg ?_;refine dg (hh (b5 ?_));refine cS ?_;refine dV (pT underlying113) ?_;refine cS ?_;refine dV (pT underlying117) ?_;refine dW wY ?_;refine cS ?_;refine jv cY ?_;refine jv (pT underlying115) ?_;refine jv cY ?_;refine jv (pT underlying119) ?_;refine Bz wY ?_;refine aj.bH h λbp ev h=>qf ev (tu (ah I) (ah I) (λh=>h)) ?_;refine cS ?_;refine jv cY ?_;refine jv (pT underlying45) ?_;refine jv cY ?_;refine iU (λhb=>ta (cf I hb)) ?_;refine iU (λhb=>tm Ad Ij.fd (cf I hb) I I) ?_;refine iU (λhb=>tm KX Rl.fd (cf I hb) I I) ?_;refine jv (iw EA) ?_;refine jv (pT underlying29) ?_;refine Bz wY ?_;refine Tv (ch ?_);refine y1 h (λh=>?_) λh=>?_
    ·refine b5 (dg (ch (ay.ret (an.ret ?_))));exact an.eG (⟨⟨(false,b4.2),h⟩,()⟩: {r // _}×_) (.refl _) I I (du I)
    refine ly (ay.seq (b5 (cS ?_)));refine dV (pT underlying113) ?_;refine cS (ch (ay.block ?_));refine aj.bH h λaS al h=>tC (σ:=Int) (ε:=(Int×Bool)⊕(Int×Int×Bool×Bool)) (γ:=Unit) (δ:=Unit) al 0 [0,1,4,5,6,7,8,9,10,33,35,83,84,85] (λs2 g2=>[(86,J.of s2)]) (λs2 g2=>[]) (λs2 g2=>a1 b4.2) (λeA=>Sum.elim (λeA=>Exit.exit 2) (λeA=>Exit.ret) eA) (λeA g2=>Sum.elim (λeA=>[(86,J.of eA.1),(87,J.of eA.2)]) (λeA=>[(11,J.of eA.1),(86,J.of eA.2.1),(87,J.of eA.2.2.1),(126,J.of eA.2.2.2)]) eA) (λeA g2=>[]) (λeA g2=>Sum.elim (λeA=>a1 b4.2) (λeA=>a1 b4.2) eA) () (λs2 r h g2=>?_) (λg2=>?_)
    ·refine b5 (dW pR (hh ?_));refine kI h (λh=>?_) λh=>?_
     ·refine ly (ay.seq (ay.block (b5 (cS ?_))));refine aA h λaI cQ h=>BA cQ underlying113 It ?_;refine dV (iw It) ?_;refine kH aav λbk=>?_;refine dg ?_;refine tD 0 It (hh ?_);refine aA h λz2 hj h=>aA h λbu c0 h=>aA h λcB gr h=>aA h λz3 l2 h=>aA h λe2 jw h=>ay.jM mixed 36 (rg 91 36) [[],[0],[1],[],[3],[4],[],[6],[7],[2,5,8],[],[],[10,11],[12],[13],[9,14],[15],[16],[16,17],[16],[16],[16,19,20],[16,21],[16,22],[16,18,23],[16,24],[25],[26],[26,27],[26],[26],[26,29,30],[26,31],[26,32],[26,28,33],[26,34]] [_,_,_,_,_,_,_,_,_,_,_,_,_,_,_,_,_,_,_,_,_,_,_,_,_,_,_,_,_,_,_,_,_,_,_,_] ⟨H1 (cg QK.fd),H1 (cg YN.fd),iR 0 (KT.comp CN) cm,H1 (cg QK.fd),H1 (cg YO.fd),iR 0 (KT.comp CZ) cm,H1 (cg QK.fd),H1 (cg YP.fd),iR 0 (KT.comp CO) fx,sH hj λL' av=>kC (b:= {bF:=((ax cA.1 aI).cP).bF,e6:=((ax cA.1 aI).cP).e6,b6:=((ax cA.1 aI).cP).b6:eT}) I aaK Ej (.cons F4 I (ah I) I (.cons Gq I (ah I) I (.cons F5 I (ah I) I (.nil)))),ey,ey,Jb c0 underlying117 pd,BG F0 QG.fd,H1 (iw pQ),lC (Sd Mt I Mu I),ey,dI λL' av=>λhb=>cg akv.fd (ah I),dI λL' av=>λhb=>jb (i:=0) ((aQ.id hW).comp VZ) (r:=(ax cA.1 aI).ih) cm (cf I hb) (av _ _ I I) I I,dI λL' av=>λhb=>cY (ah I),dI λL' av=>λhb=>cY (ah I),dI λL' av=>λhb=>tl (k:=cB) underlying117 pd (cf I hb) (cf I hb) (cK (fe gr hb)),dI λL' av=>λhb=>tm F1 QH.fd (cf I hb) I I,dI λL' av=>λhb=>iw cm (cf I hb),dI λL' av=>λhb=>wY (cf I hb) (cf I hb),sH l2 λL' av=>tu (ah I) (ah I) (λh=>h),ey,dI λL' av=>λhb=>cg akw.fd (ah I),dI λL' av=>λhb=>jb (i:=0) ((aQ.id hW).comp VD) (r:=(ax cA.1 aI).hy) cm (cf I hb) (av _ _ I I) I I,dI λL' av=>λhb=>cY (ah I),dI λL' av=>λhb=>cY (ah I),dI λL' av=>λhb=>tl (k:=e2) underlying117 pd (cf I hb) (cf I hb) (cK (fe jw hb)),dI λL' av=>λhb=>tm FQ QI.fd (cf I hb) I I,dI λL' av=>λhb=>iw cm (cf I hb),dI λL' av=>λhb=>wY (cf I hb) (cf I hb),fA λav=>tu (ah I) (ah I) (λh=>h),trivial⟩ (ch ?_);refine kI h (λh=>?_) λh=>?_
      ·refine b5 (dg (ch (ay.ret ?_)));refine an.kF (an.ret ?_);cases h;exact gu () 1
      refine ay.skip (an.mT (an.next (ay.fm (dW jS ?_))));refine cS (ag.nil ?_);cases h;exact hi () 1
     refine ay.exit (an.exit ?_);cases h;exact gu () 0
    rcases aS with aS|aS
    ·simp only[Sum.elim_inl]at h;refine an.lu (an.next (ay.seq (b5 (cS ?_))));refine dV (pT underlying115) ?_;refine cS (ch (ay.block ?_));refine aj.bH h λcE al h=>tC (σ:=Int) (ε:=(Int×Bool)⊕(Int×Int×Bool×Bool)) (γ:=Unit) (δ:=Unit) al 0 [0,1,4,5,6,7,8,9,10,33,35,83,84,85,86,87,128,129] (λfu g3=>[(130,J.of fu)]) (λfu g3=>[]) (λfu g3=>a1 b4.2) (λec=>Sum.elim (λec=>Exit.exit 4) (λec=>Exit.ret) ec) (λec g3=>Sum.elim (λec=>[(130,J.of ec.1),(131,J.of ec.2)]) (λec=>[(13,J.of ec.1),(130,J.of ec.2.1),(131,J.of ec.2.2.1),(146,J.of ec.2.2.2)]) ec) (λec g3=>[]) (λec g3=>Sum.elim (λec=>a1 b4.2) (λec=>a1 b4.2) ec) () (λfu r h g3=>?_) (λg3=>?_)
     ·refine b5 (dW pR (hh ?_));refine kI h (λh=>?_) λh=>?_
      ·refine ly (ay.seq (ay.block (b5 (cS ?_))));refine aA h λkW yV h=>BA yV underlying115 wW ?_;refine dV (iw wW) ?_;refine kH Is λbo=>?_;refine dg ?_;refine tD 0 wW (hh ?_);refine aA h λz4 sv h=>aA h λng yW h=>ay.jM mixed 12 (rg 135 12) [[],[0],[],[2],[],[4],[1,3,5],[],[],[7,8],[9],[6,10]] [_,_,_,_,_,_,_,_,_,_,_,_] ⟨H1 (cg YN.fd),iR 0 CN cm,H1 (cg YO.fd),iR 0 CZ cm,H1 (cg YP.fd),iR 0 CO fx,sH sv λL' av=>kC (b:= {bF:=(ax b4.1 kW).bF,e6:=(ax b4.1 kW).e6,b6:=(ax b4.1 kW).b6:eT}) I aaK Ej (.cons F4 I (ah I) I (.cons Gq I (ah I) I (.cons F5 I (ah I) I (.nil)))),ey,ey,Jb yW underlying119 pQ,H1 (iw pQ),lC (Sd Mt I Mu I),trivial⟩ (ch ?_);refine kI h (λh=>?_) λh=>?_
       ·refine b5 (dg (ch (ay.ret ?_)));refine an.kF (an.ret ?_);cases h;exact gu () 1
       refine ay.skip (an.mT (an.next (ay.fm (dW jS ?_))));refine cS (ag.nil ?_);cases h;exact hi () 1
      refine ay.exit (an.exit ?_);cases h;exact gu () 0
     rcases cE with cE|cE
     ·simp only[Sum.elim_inl]at h;refine an.lu (an.next (ay.seq (b5 (cS ?_))));refine dV (pT underlying45) ?_;refine cS (ch (ay.block ?_));refine aj.bH h λeK al h=>tC (σ:=Int) (ε:=(Int×Bool)⊕(Int×Int×Bool×Bool)) (γ:=Unit) (δ:=Unit) al 0 [0,1,4,5,6,7,8,9,10,33,35,83,84,85,86,87,128,129,130,131,148,149] (λhF g4=>[(150,J.of hF)]) (λhF g4=>[]) (λhF g4=>a1 b4.2) (λlD=>Sum.elim (λlD=>Exit.exit 6) (λlD=>Exit.ret) lD) (λlD g4=>Sum.elim (λlD=>[(150,J.of lD.1),(151,J.of lD.2)]) (λlD=>[(15,J.of lD.1),(150,J.of lD.2.1),(151,J.of lD.2.2.1),(175,J.of lD.2.2.2)]) lD) (λlD g4=>[]) (λlD g4=>Sum.elim (λlD=>a1 b4.2) (λlD=>a1 b4.2) lD) () (λhF r h g4=>?_) (λg4=>?_)
      ·refine b5 (dW pR (hh ?_));refine kI h (λh=>?_) λh=>?_
       ·refine ly (ay.seq (ay.block (b5 (cS ?_))));refine aA h λpC Nx h=>BA Nx underlying45 IG ?_;refine dV (iw IG) ?_;refine kH abE λb2=>?_;refine dg ?_;refine tD 0 IG (hh ?_);refine aA h λrU NB h=>aA h λgv w2 h=>aA h λz5 xh h=>ay.jM mixed 21 (rg 155 21) [[],[0],[],[2],[3],[4],[5],[],[6,7],[8],[9],[1,10],[11],[12],[12,13],[12],[12],[12,16],[12,15,17],[12,14,18],[12,19]] [_,_,_,_,_,_,_,_,_,_,_,_,_,_,_,_,_,_,_,_,_] ⟨H1 (cg Zw.fd),iR 0 Pf cm,ey,H1 ta,BG Ad Ij.fd,BG KX Rl.fd,H1 (iw EA),ey,Jb NB underlying29 w1,BG G8 alG.fd,H1 (iw cm),lC wY,ey,dI λL' av=>λhb=>cg alH.fd (ah I),dI λL' av=>λhb=>jb (i:=0) ((aQ.id jQ).comp V5) (r:=(ax dH pC).yj) cm (cf I hb) (av _ _ I I) I I,dI λL' av=>λhb=>cY (ah I),dI λL' av=>λhb=>cg Zw.fd (ah I),dI λL' av=>λhb=>jb (i:=0) ((aQ.id jQ).comp Pf) (r:=(ax dH pC).tb) cm (cf I hb) (av _ _ I I) I I,dI λL' av=>λhb=>j4 ab5 (Wu (fe w2 hb)) ⟨cf I hb,cf I hb,trivial⟩,dI λL' av=>λhb=>wY (cf I hb) (cf I hb),sH xh λL' av=>tu (ah I) (ah I) (λh=>h),trivial⟩ (ch ?_);refine kI h (λh=>?_) λh=>?_
        ·refine b5 (dg (ch (ay.ret ?_)));refine an.kF (an.ret ?_);cases h;exact gu () 1
        refine ay.skip (an.mT (an.next (ay.fm (dW jS ?_))));refine cS (ag.nil ?_);cases h;exact hi () 1
       refine ay.exit (an.exit ?_);cases h;exact gu () 0
      rcases eK with eK|eK
      ·simp only[Sum.elim_inl]at h;refine an.lu (an.next (b5 (dg (ch (ay.ret ?_)))));exact an.eG (⟨⟨(true,b4.2),h⟩,()⟩: {r // _}×_) (.refl _) I I (du I)
      simp only[Sum.elim_inr]at h;exact an.kF (an.ret (an.eG (⟨⟨(false,b4.2),h⟩,()⟩: {r // _}×_) (.refl _) I I (du I)))
     simp only[Sum.elim_inr]at h;exact an.kF (an.ret (an.eG (⟨⟨(false,b4.2),h⟩,()⟩: {r // _}×_) (.refl _) I I (du I)))
    simp only[Sum.elim_inr]at h;exact an.kF (an.ret (an.eG (⟨⟨(false,b4.2),h⟩,()⟩: {r // _}×_) (.refl _) I I (du I)))
   simp only[Sum.elim_inr]at h;exact an.kF (an.ret (an.eG (⟨⟨(false,ar.2.2.2),h⟩,()⟩: {r // _}×_) (.refl _) I I (du I)))
  refine dm.jy (γ:=Unit) [0,1,4] 0 0 1 (jd 17 65535) (λRt=>[(25,J.of (!aE)),(32,J.cond ((!aE)=false) (J.of (bg !=ai.h6)))]) (λRt=>[]) (λRt=>a1 ao.2) (λRt=>?_) (λanY=>?_)
  ·refine dm.s1 16 ?_
   ·refine Tv ?_;exact ag.fY (anX ())
  refine dm.jy (γ:=Unit) [0,1,4] 0 0 2 (jd 17 32767) (λRu=>[(25,J.of (!aE)),(27,J.cond ((!aE)=false) (J.of bg)),(31,J.cond ((!aE)=false) (J.of ai.h6))]) (λRu=>[]) (λRu=>a1 ao.2) (λRu=>?_) (λaaL=>?_)
  ·refine dm.s1 15 ?_
   ·refine Bz wY ?_;exact ag.fY (anY ())
  refine dm.jy (γ:=Unit) [0,1,4] 0 0 3 (jd 17 31743) (λRv=>[(25,J.of (!aE)),(26,J.cond ((!aE)=false) (J.of ab)),(31,J.cond ((!aE)=false) (J.of ai.h6))]) (λRv=>[]) (λRv=>a1 ao.2) (λRv=>?_) (λaaM=>?_)
  ·refine dm.s1 10 ?_
   ·exact ag.xB (λhb=>dL.fS 0 I EG (CV (fe dS hb)) ⟨cf I hb,trivial⟩) I I I I I (ag.fY (aaL ()))
  refine dm.jy (γ:=Unit) [0,1,4] 0 0 3 (jd 17 16383) (λRw=>[(25,J.of (!aE)),(27,J.cond ((!aE)=false) (J.of bg)),(30,J.cond ((!aE)=false) (J.ptr ai.h6))]) (λRw=>[]) (λRw=>a1 ao.2) (λRw=>?_) (λaaN=>?_)
  ·refine dm.s1 14 ?_
   ·refine jv (iw cm) ?_;exact ag.fY (aaL ())
  refine dm.jy (γ:=Unit) [0,1,4] 0 0 4 (jd 17 31231) (λRx=>[(25,J.of (!aE)),(31,J.cond ((!aE)=false) (J.of ai.h6))]) (λRx=>[]) (λRx=>a1 ao.2) (λRx=>?_) (λanZ=>?_)
  ·refine dm.s1 9 ?_
   ·refine jv cY ?_;exact ag.fY (aaM ())
  refine dm.jy (γ:=Unit) [0,1,4] 0 0 4 (jd 17 15359) (λRy=>[(25,J.of (!aE)),(26,J.cond ((!aE)=false) (J.of ab)),(30,J.cond ((!aE)=false) (J.ptr ai.h6))]) (λRy=>[]) (λRy=>a1 ao.2) (λRy=>?_) (λaaO=>?_)
  ·refine dm.s2 10 14 ?_ ?_
   ·exact ag.xB (λhb=>dL.fS 0 I EG (CV (fe dS hb)) ⟨cf I hb,trivial⟩) I I I I I (ag.fY (aaN ()))
   refine jv (iw cm) ?_;exact ag.fY (aaM ())
  refine dm.jy (γ:=Unit) [0,1,4] 0 0 4 (jd 17 8191) (λRz=>[(25,J.of (!aE)),(27,J.cond ((!aE)=false) (J.of bg)),(29,J.cond ((!aE)=false) (J.ptr ai))]) (λRz=>[]) (λRz=>a1 ao.2) (λRz=>?_) (λaaP=>?_)
  ·refine dm.s1 13 ?_
   ·refine iU (λhb=>tm GV RA.fd (cf I hb) I I) ?_;exact ag.fY (aaN ())
  refine dm.jy (γ:=Unit) [0,1,4] 0 0 5 (jd 17 14847) (λRB=>[(25,J.of (!aE)),(30,J.cond ((!aE)=false) (J.ptr ai.h6))]) (λRB=>[]) (λRB=>a1 ao.2) (λRB=>?_) (λan0=>?_)
  ·refine dm.s2 9 14 ?_ ?_
   ·refine jv cY ?_;exact ag.fY (aaO ())
   refine jv (iw cm) ?_;exact ag.fY (anZ ())
  refine dm.jy (γ:=Unit) [0,1,4] 0 0 5 (jd 17 7167) (λRC=>[(25,J.of (!aE)),(26,J.cond ((!aE)=false) (J.of ab)),(29,J.cond ((!aE)=false) (J.ptr ai))]) (λRC=>[]) (λRC=>a1 ao.2) (λRC=>?_) (λaaQ=>?_)
  ·refine dm.s2 10 13 ?_ ?_
   ·exact ag.xB (λhb=>dL.fS 0 I EG (CV (fe dS hb)) ⟨cf I hb,trivial⟩) I I I I I (ag.fY (aaP ()))
   refine iU (λhb=>tm GV RA.fd (cf I hb) I I) ?_;exact ag.fY (aaO ())
  refine dm.jy (γ:=Unit) [0,1,4] 0 0 5 (jd 17 4095) (λSe=>[(25,J.of (!aE)),(27,J.cond ((!aE)=false) (J.of bg)),(28,J.cond ((!aE)=false) (J.ptr ai))]) (λSe=>[]) (λSe=>a1 ao.2) (λSe=>?_) (λab7=>?_)
  ·refine dm.s1 12 ?_
   ·refine iU (λhb=>ta (cf I hb)) ?_;exact ag.fY (aaP ())
  refine dm.jy (γ:=Unit) [0,1,4] 0 0 6 (jd 17 6655) (λSf=>[(25,J.of (!aE)),(29,J.cond ((!aE)=false) (J.ptr ai))]) (λSf=>[]) (λSf=>a1 ao.2) (λSf=>?_) (λaqi=>?_)
  ·refine dm.s2 9 13 ?_ ?_
   ·refine jv cY ?_;exact ag.fY (aaQ ())
   refine iU (λhb=>tm GV RA.fd (cf I hb) I I) ?_;exact ag.fY (an0 ())
  refine dm.jy (γ:=Unit) [0,1,4] 0 0 6 (jd 17 3071) (λSg=>[(25,J.of (!aE)),(26,J.cond ((!aE)=false) (J.of ab)),(28,J.cond ((!aE)=false) (J.ptr ai))]) (λSg=>[]) (λSg=>a1 ao.2) (λSg=>?_) (λab8=>?_)
  ·refine dm.s2 10 12 ?_ ?_
   ·exact ag.xB (λhb=>dL.fS 0 I EG (CV (fe dS hb)) ⟨cf I hb,trivial⟩) I I I I I (ag.fY (ab7 ()))
   refine iU (λhb=>ta (cf I hb)) ?_;exact ag.fY (aaQ ())
  refine dm.jy (γ:=Unit) [0,1,4] 0 0 6 (jd 17 2047) (λSh=>[(25,J.of (!aE)),(27,J.cond ((!aE)=false) (J.of bg))]) (λSh=>[]) (λSh=>a1 ao.2) (λSh=>?_) (λaqj=>?_)
  ·refine dm.s1 11 ?_
   ·refine jv cY ?_;exact ag.fY (ab7 ())
  refine dm.jy (γ:=Unit) [0,1,4] 0 0 7 (jd 17 2559) (λSi=>[(25,J.of (!aE)),(28,J.cond ((!aE)=false) (J.ptr ai))]) (λSi=>[]) (λSi=>a1 ao.2) (λSi=>?_) (λaqk=>?_)
  ·refine dm.s2 9 12 ?_ ?_
   ·refine jv cY ?_;exact ag.fY (ab8 ())
   refine iU (λhb=>ta (cf I hb)) ?_;exact ag.fY (aqi ())
  refine dm.jy (γ:=Unit) [0,1,4] 0 0 7 (jd 17 1023) (λSj=>[(25,J.of (!aE)),(26,J.cond ((!aE)=false) (J.of ab))]) (λSj=>[]) (λSj=>a1 ao.2) (λSj=>?_) (λaql=>?_)
  ·refine dm.s2 10 11 ?_ ?_
   ·exact ag.xB (λhb=>dL.fS 0 I EG (CV (fe dS hb)) ⟨cf I hb,trivial⟩) I I I I I (ag.fY (aqj ()))
   refine jv cY ?_;exact ag.fY (ab8 ())
  refine dm.jy (γ:=Unit) [0,1,4] 0 0 8 (jd 17 511) (λSk=>[(25,J.of (!aE))]) (λSk=>[]) (λSk=>a1 ao.2) (λSk=>?_) (λaqm=>?_)
  ·refine dm.s2 9 11 ?_ ?_
   ·refine jv cY ?_;exact ag.fY (aql ())
   refine jv cY ?_;exact ag.fY (aqk ())
  refine dm.jy (γ:=Unit) [0,1,4] 0 0 9 (jd 17 255) (λSl=>[(24,J.of (!aE))]) (λSl=>[]) (λSl=>a1 ao.2) (λSl=>?_) (λaqn=>?_)
  ·refine dm.s1 8 ?_
   ·refine cS ?_;exact ag.fY (aqm ())
  refine dm.jy (γ:=Unit) [0,1,4] 0 0 10 (jd 17 127) (λSm=>[(23,J.of aE)]) (λSm=>[]) (λSm=>a1 ao.2) (λSm=>?_) (λaqo=>?_)
  ·refine dm.s1 7 ?_
   ·refine dV qD ?_;exact ag.fY (aqn ())
  refine dm.s1 6 ?_;refine qM NC.ck (NC.m _ _ _ bZ) ?_;exact ag.fY (aqo ())
 refine dm.jy (γ:=Unit) [0,1,4] 0 0 12 (jd 17 61) (λRD=>[(17,J.of ab),(22,J.of ai.bE)]) (λRD=>[]) (λRD=>a1 hp) (λRD=>?_) (λaaR=>?_)
 ·refine dm.s1 1 ?_
  ·refine ag.ek 0 0 I IP (GU oH) I I ⟨ah I,trivial⟩ I λ⟨⟨ao,gY⟩,_⟩=>ag.dr ?_;exact ag.fY (aaJ ⟨ao,gY⟩)
 refine dm.jy (γ:=Subtype lT) [0,1,4] 0 0 12 (jd 17 31) (λEb=>[(18,J.of Eb.1.1),(21,J.ptr ai.bE)]) (λEb=>[]) (λEb=>a1 Eb.1.2) (λEb=>?_) (λaaS=>?_)
 ·refine dm.s1 5 ?_
  ·refine dV (iw pY) ?_;exact ag.fY (aaJ Eb)
 refine dm.jy (γ:=Unit) [0,1,4] 0 0 13 (jd 17 60) (λRE=>[(22,J.of ai.bE)]) (λRE=>[]) (λRE=>a1 hp) (λRE=>?_) (λan1=>?_)
 ·refine dm.s1 0 ?_
  ·refine cS ?_;exact ag.fY (aaR ())
 refine dm.jy (γ:=Unit) [0,1,4] 0 0 13 (jd 17 29) (λRF=>[(17,J.of ab),(21,J.ptr ai.bE)]) (λRF=>[]) (λRF=>a1 hp) (λRF=>?_) (λaaT=>?_)
 ·refine dm.s2 1 5 ?_ ?_
  ·refine ag.ek 0 0 I IP (GU oH) I I ⟨ah I,trivial⟩ I λ⟨⟨ao,gY⟩,_⟩=>ag.dr ?_;exact ag.fY (aaS ⟨ao,gY⟩)
  refine dV (iw pY) ?_;exact ag.fY (aaR ())
 refine dm.jy (γ:=Subtype lT) [0,1,4] 0 0 13 (jd 17 15) (λEs=>[(18,J.of Es.1.1),(20,J.ptr ai)]) (λEs=>[]) (λEs=>a1 Es.1.2) (λEs=>?_) (λab9=>?_)
 ·refine dm.s1 4 ?_
  ·refine TA xX Mw.fd ?_;exact ag.fY (aaS Es)
 refine dm.jy (γ:=Unit) [0,1,4] 0 0 14 (jd 17 28) (λSn=>[(21,J.ptr ai.bE)]) (λSn=>[]) (λSn=>a1 hp) (λSn=>?_) (λaqp=>?_)
 ·refine dm.s2 0 5 ?_ ?_
  ·refine cS ?_;exact ag.fY (aaT ())
  refine dV (iw pY) ?_;exact ag.fY (an1 ())
 refine dm.jy (γ:=Unit) [0,1,4] 0 0 14 (jd 17 13) (λSp=>[(17,J.of ab),(20,J.ptr ai)]) (λSp=>[]) (λSp=>a1 hp) (λSp=>?_) (λaca=>?_)
 ·refine dm.s2 1 4 ?_ ?_
  ·refine ag.ek 0 0 I IP (GU oH) I I ⟨ah I,trivial⟩ I λ⟨⟨ao,gY⟩,_⟩=>ag.dr ?_;exact ag.fY (ab9 ⟨ao,gY⟩)
  refine TA xX Mw.fd ?_;exact ag.fY (aaT ())
 refine dm.jy (γ:=Subtype lT) [0,1,4] 0 0 14 (jd 17 7) (λEt=>[(18,J.of Et.1.1),(19,J.ptr ai)]) (λEt=>[]) (λEt=>a1 Et.1.2) (λEt=>?_) (λacb=>?_)
 ·refine dm.s1 3 ?_
  ·refine dV ta ?_;exact ag.fY (ab9 Et)
 refine dm.jy (γ:=Unit) [0,1,4] 0 0 15 (jd 17 12) (λSq=>[(20,J.ptr ai)]) (λSq=>[]) (λSq=>a1 hp) (λSq=>?_) (λaqq=>?_)
 ·refine dm.s2 0 4 ?_ ?_
  ·refine cS ?_;exact ag.fY (aca ())
  refine TA xX Mw.fd ?_;exact ag.fY (aqp ())
 refine dm.jy (γ:=Unit) [0,1,4] 0 0 15 (jd 17 5) (λSr=>[(17,J.of ab),(19,J.ptr ai)]) (λSr=>[]) (λSr=>a1 hp) (λSr=>?_) (λacd=>?_)
 ·refine dm.s2 1 3 ?_ ?_
  ·refine ag.ek 0 0 I IP (GU oH) I I ⟨ah I,trivial⟩ I λ⟨⟨ao,gY⟩,_⟩=>ag.dr ?_;exact ag.fY (acb ⟨ao,gY⟩)
  refine dV ta ?_;exact ag.fY (aca ())
 refine dm.jy (γ:=Subtype lT) [0,1,4] 0 0 15 (jd 17 3) (λEu=>[(18,J.of Eu.1.1)]) (λEu=>[]) (λEu=>a1 Eu.1.2) (λEu=>?_) (λaqr=>?_)
 ·refine dm.s1 2 ?_
  ·refine cS ?_;exact ag.fY (acb Eu)
 refine dm.jy (γ:=Unit) [0,1,4] 0 0 16 (jd 17 4) (λSs=>[(19,J.ptr ai)]) (λSs=>[]) (λSs=>a1 hp) (λSs=>?_) (λaqs=>?_)
 ·refine dm.s2 0 3 ?_ ?_
  ·refine cS ?_;exact ag.fY (acd ())
  refine dV ta ?_;exact ag.fY (aqq ())
 refine dm.jy (γ:=Unit) [0,1,4] 0 0 16 (jd 17 1) (λSt=>[(17,J.of ab)]) (λSt=>[]) (λSt=>a1 hp) (λSt=>?_) (λaqt=>?_)
 ·refine dm.s2 1 2 ?_ ?_
  ·refine ag.ek 0 0 I IP (GU oH) I I ⟨ah I,trivial⟩ I λ⟨⟨ao,gY⟩,_⟩=>ag.dr ?_;exact ag.fY (aqr ⟨ao,gY⟩)
  refine cS ?_;exact ag.fY (acd ())
 refine dm.s2 0 2 ?_ ?_
 ·refine cS ?_;exact ag.fY (aqt ())
 refine cS ?_;exact ag.fY (aqs ())
def Pw{hp ab ai r}(h:xZ hp ab ai=some r):hr prog 63 [J.of ab,J.of ai] hp (J.bT [J.of r.1,J.of r.2]) hp:=by
 unfold xZ at h;refine bN.of func63 I ntmps63 I λW A=>?_;refine aO λbk bo=>?_;refine aA h λao br h=>aA h λaE bZ h=>er [0,1,3,4] ?_;refine ay.ck 2 (aC 6 [] [] _::aC 7 [] [] _::aC 8 [1] [1] _::aC 9 [0,2] [] (J.of ao)::aC 10 [] [1] _::aC 11 [3,4] [] (J.bT [J.of aE.1,J.of aE.2])::aC 12 [5] [] _::aC 13 [5] [] _::fz [6] [0] [0] (λhd=>aJ bo aE.1)::aC 5 [7] [] _::[]) (dO ?_ (dO ?_ h9)) (λcR=>?_)
 ·intro hd E' L' aF av cc;exact ag.fb (dL.fS 2 (cc.trans I) EE (C4 br) ⟨ah (aF _ _ I),ah (aF _ _ I),trivial⟩) I I I (ag.nil (an.fin (cX []) I I))
 ·intro hd E' L' aF av cc;exact ag.fb (dL.fS 2 (cc.trans I) S4 (Pv bZ) ⟨ah (aF _ _ I),ah (aF _ _ I),trivial⟩) I I I (ag.nil (an.fin (cX []) I I))
 refine an.dq (L2:=(aJ bo aE.1::aJ bk ai::a1 hp)) I (e8 ?_);exact go
def afA{hp ab ai Q}(h:GD hp ab ai Q):bN prog 103 [J.of ab,J.of ai] ([]++a1 hp) (δ:= {r:aH×Bool×(aL Cell) // Q r}×Unit) (λd=>J.bT [J.of d.1.1.1,J.of d.1.1.2.1]) (λd=>[]++a1 d.1.1.2.2):=by
 unfold GD at h;refine bN.of func103 I ntmps103 I λW A=>?_;refine aO λbk bo=>?_;refine aj.bH h λao br h=>ag.fb (dL.fS 2 I S4 (Pv br) ⟨ah I,ah I,trivial⟩) I I I (aO λb2=>?_);refine y0 (γ:=Unit) h 3 [0,1,3,4,5,6,7,14] (λm1 g1=>[]) (λm1 g1=>[]) (λm1 g1=>a1 m1) (λm1 g1 h=>?_) (λhm ae h=>?_) (λhm ae h=>?_)
 ·refine aO ?_;exact an.rz (⟨⟨(ao.1,ao.2,m1),h⟩,()⟩: {r // _}×_) (fO 3) I I (nv (i:=1) eC I I) (du I)
 ·refine ay.seq (aj.bH h λbA dn h=>aj.bH h λc1 dv h=>ay.fy 5 ?_);refine ag.EF 3 0 I (ae1 h) I I ⟨ah I,ah I,trivial⟩ I λ⟨⟨aE,h⟩,aw⟩=>?_;refine ag.dr (ch ?_);refine aj.bH h λc2 eW h=>ay.fy 6 ?_;exact aj.bH h λcC e9 h=>aj.bH h λeE k8 h=>aj.bH h λbQ hQ h=>ag.MS (k':=Cell.mr (ju eE ao.1.b0)) 3 I underlying193 Bx (ll (ah I) e9) (ah I) (uo k8) I I I (dy hQ) (ag.nil (dU 0 (hm bQ () h)))
 exact ay.skip (dU 0 (hm hp () h))
def afB{hp ab ai r}(h:GF hp ab ai=some r):hr prog 120 [J.of ab,J.of ai] hp (J.bT [J.of r.1,J.of r.2]) hp:=by
 unfold GF at h;refine bN.of func120 I ntmps120 I λW A=>?_;refine aO (λbk bo h=>?_);refine aA h λar al h=>tC (σ:=Int×(Vector aN 4)) (ε:=(Int×Bool×(Vector aN 4))) (γ:=Unit) (δ:=Unit) al 2 [0,1,3,4,5,10] (λs1 g1=>[(12,J.of s1.1)]) (λs1 g1=>[(1,aJ bk s1.2)]) (λs1 g1=>a1 hp) (λaw=>Exit.exit 0) (λaw g1=>[(12,J.of aw.1),(13,J.of aw.2.1)]) (λaw g1=>[(1,aJ bk aw.2.2)]) (λaw g1=>a1 hp) () (λs1 r h g1=>?_) (λg1=>?_)
 ·refine aO (λbA dn c1 dv h=>?_);refine aA h λm1 bR h=>qL (γ:=Unit) 2 [0,1,3,4,5,6,10,12,13,20] (λg2=>[]) (λg2=>[(1,aJ bk m1)]) (λg2=>a1 hp) (λg2=>?_) (λhm ae=>?_) (λhm ae=>?_)
  ·exact go
  ·have h:=fp ae bR;exact go
  have h:=fq ae bR;exact go
 refine an.lu (an.next (ay.seq (aA h λcC e9 h=>aA h λc2 eW h=>aA h λao br h=>er [0,1,3,4,5,10,12,13] ?_)));refine ay.ck 2 (aC 26 [] [] _::aC 27 [0] [] _::aC 28 [1] [] _::aC 29 [2] [] _::aC 30 [] [1] _::aC 31 [3,4] [] (J.bT [J.of ao.1,J.of ao.2])::aC 25 [5] [] _::aC 32 [6] [] _::aC 33 [6] [] _::aC 7 [7] [] _::aC 8 [8] [] _::[]) (dO ?_ h9) (λcR=>?_)
 ·intro hd E' L' aF av cc;refine ag.fb (dL.EF 2 (cc.trans I) (ae2 br) ⟨ah (aF _ _ I),ah (aF _ _ I),trivial⟩) I I I (ag.nil ?_);exact an.fin (cX []) I I
 refine an.dq (L2:=(aJ bo (default:aH)::aJ bk ar.2.2::a1 hp)) I (e8 ?_);refine aO ?_;exact aA h λaE bZ h=>ag.fb (dL.fS 2 I aaI (Wh bZ) ⟨ah I,ah I,ah I,trivial⟩) I I I go
def Wb{hp ab ai aR Q}(h:C0 hp ab ai aR Q):bN prog 62 [J.of ab,J.of ai,J.of aR] ([]++a1 hp) (δ:= {r:Int×Int×(aL Cell) // Q r}×Unit) (λd=>J.bT [J.of d.1.1.1,J.of d.1.1.2.1]) (λd=>[]++a1 d.1.1.2.2):=by
 unfold C0 at h;refine bN.of func62 I ntmps62 I λW A=>?_;refine aO λbk=>?_;refine aj.bH h λao br h=>ag.fb (dL.fS 1 I EE (C4 br) ⟨ah I,ah I,trivial⟩) I I I (go2 (λh=>?_) (λh=>?_))
 ·exact an.rz (⟨⟨(0,6,hp),h⟩,()⟩: {r // _}×_) (fO 1) I I (du I) (du I)
 refine aj.bH h λaE bZ h=>ag.fb (dL.fS 1 I S4 (Pv bZ) ⟨ah I,ah I,trivial⟩) I I I (go2 (λbo h=>?_) (λbo h=>?_))
 ·exact an.rz (⟨⟨(0,17,hp),h⟩,()⟩: {r // _}×_) (fO 2) I I (du I) (du I)
 refine aj.bH h λbg dS h=>aj.bH h λbt fa h=>er [0,1,2,4,6,7,8,9,10,12,13,14,15,16,17,18,19,20,21,22,23,24] ?_;refine ay.ck 2 (aC 25 [] [] _::aC 26 [0] [] (J.of bg)::aC 27 [] [] _::aC 28 [] [] _::aC 29 [3] [1] _::aC 30 [2,4] [] (J.of bt)::aC 31 [1,5] [] _::[]) (dO ?_ (dO ?_ h9)) (λcR=>?_)
 ·intro hd E' L' aF av cc;exact ag.fb (dL.fS 2 (cc.trans I) aqu (agv dS) ⟨ah (aF _ _ I),trivial⟩) I I I (ag.nil (an.fin (cX []) I I))
 ·intro hd E' L' aF av cc;exact ag.fb (dL.fS 2 (cc.trans I) an2 (agd fa) ⟨ah (aF _ _ I),ah (aF _ _ I),trivial⟩) I I I (ag.nil (an.fin (cX []) I I))
 refine an.dq (L2:=(aJ bo aE.1::aJ bk ai::a1 hp)) I (e8 ?_);refine go2 (λh=>?_) (λbA dn c1 dv bp ev h=>?_)
 ·exact an.rz (⟨⟨(0,18,hp),h⟩,()⟩: {r // _}×_) (fO 2) I I (du I) (du I)
 refine ag.ek 2 0 I Su (PE h) I I ⟨ah I,ah I,trivial⟩ I λ⟨⟨b3,h⟩,aw⟩=>ag.dr ?_;refine aO λc2 eW h=>?_;refine aj.bH h λbQ hQ h=>ag.qz (k':=Cell.rH ({c2 with oC:=bm (c2.oC+1)}:lI)) 2 I ((aQ.id lI).comp KY) (v:=(bm (c2.oC+1):Int)) cm (ah I) (ah I) (wQ eW) I I I I (dy hQ) (aO ?_);exact an.rz (⟨⟨(c1.oC,0,bQ),h⟩,()⟩: {r // _}×_) (fO 2) I I (du I) (du I)
def GG{hp ab ai Q}(h:vl hp ab ai Q):bN prog 65 [J.of ab,J.of ai] ([]++a1 hp) (δ:= {r:aH×Int×(aL Cell) // Q r}×Unit) (λd=>J.bT [J.of d.1.1.1,J.of d.1.1.2.1]) (λd=>[]++a1 d.1.1.2.2):=by
 unfold vl at h;refine bN.of func65 I ntmps65 I λW A=>?_;refine aO λbk bo=>?_;refine aj.bH h λao br h=>ag.fb (dL.fS 2 I EE (C4 br) ⟨ah I,ah I,trivial⟩) I I I (go2 (λh=>?_) (λh=>?_))
 ·exact an.rz (⟨⟨((default:aH),6,hp),h⟩,()⟩: {r // _}×_) (fO 2) I I (nv (i:=0) eC I I) (du I)
 refine ag.ek 2 0 I an3 (afA h) I I ⟨ah I,ah I,trivial⟩ I λ⟨⟨aE,h⟩,aw⟩=>?_;refine ag.dr ?_;refine go2 (λb2 h=>?_) (λb2 h=>?_)
 ·exact an.rz (⟨⟨((default:aH),16,aE.2.2),h⟩,()⟩: {r // _}×_) (fO 3) I I (nv (i:=1) eC I I) (du I)
 exact an.rz (⟨⟨(aE.1,0,aE.2.2),h⟩,()⟩: {r // _}×_) (fO 3) I I (nv (i:=1) eC I I) (du I)
def afC{hp ab ai aR r}(h:GH hp ab ai aR=some r):hr prog 87 [J.of ab,J.of ai,J.of aR] hp (J.bT [J.of r.1,J.of r.2]) hp:=by
 unfold GH at h;refine bN.of func87 I ntmps87 I λW A=>?_;refine aO λbk bo=>?_;refine aA h λao br h=>aA h λaE bZ h=>er [0,1,2,5,6] ?_;refine ay.ck 2 (aC 8 [] [] _::aC 9 [] [] _::aC 10 [0,1] [] (J.of ao)::aC 11 [] [1] _::aC 12 [2,3] [] (J.bT [J.of aE.1,J.of aE.2])::aC 13 [4] [] _::aC 14 [4] [] _::fz [5] [0] [0] (λhd=>aJ bo aE.1)::aC 7 [6] [] _::[]) (dO ?_ (dO ?_ h9)) (λcR=>?_)
 ·intro hd E' L' aF av cc;exact ag.fb (dL.fS 2 (cc.trans I) EE (C4 br) ⟨ah (aF _ _ I),ah (aF _ _ I),trivial⟩) I I I (ag.nil (an.fin (cX []) I I))
 ·intro hd E' L' aF av cc;exact ag.fb (dL.fS 2 (cc.trans I) an4 (afB bZ) ⟨ah (aF _ _ I),ah (aF _ _ I),trivial⟩) I I I (ag.nil (an.fin (cX []) I I))
 refine an.dq (L2:=(aJ bo aE.1::aJ bk aR::a1 hp)) I (e8 ?_);exact go
def afD{hp ab ai r}(h:C1 hp ab ai=some r):hr prog 55 [J.of ab,J.of ai] hp (J.bT [J.of r.1,J.of r.2]) hp:=by
 unfold C1 at h;refine bN.of func55 I ntmps55 I λW A=>?_;refine aO λbk bo=>?_;refine aA h λao br h=>aA h λaE bZ h=>er [0,1,3,4] ?_;refine ay.ck 2 (aC 6 [] [] _::aC 7 [0] [] (J.of ao)::aC 8 [] [1] _::aC 9 [1,2] [] (J.bT [J.of aE.1,J.of aE.2])::aC 10 [3] [] _::aC 11 [3] [] _::fz [4] [0] [0] (λhd=>aJ bo aE.1)::aC 5 [5] [] _::[]) (dO ?_ (dO ?_ h9)) (λcR=>?_)
 ·intro hd E' L' aF av cc;exact ag.fb (dL.fS 2 (cc.trans I) IH (FZ br) ⟨ah (aF _ _ I),trivial⟩) I I I (ag.nil (an.fin (cX []) I I))
 ·intro hd E' L' aF av cc;exact ag.fb (dL.fS 2 (cc.trans I) S5 (Pw bZ) ⟨ah (aF _ _ I),ah (aF _ _ I),trivial⟩) I I I (ag.nil (an.fin (cX []) I I))
 refine an.dq (L2:=(aJ bo aE.1::aJ bk ai::a1 hp)) I (e8 ?_);exact go
def afk{hp ab ai Q}(h:Gr hp ab ai Q):lB prog 81 [J.of ab,J.of ai] hp Q:=by
 unfold Gr at h;refine bN.of func81 I ntmps81 I λW A=>?_;refine aO λbk=>?_;refine aj.bH h λaE bZ h=>er [0,1,3,4] ?_;refine ay.ad0 6 1 mixed (aC 5 [] [] _::aC 6 [] [] _::aC 7 [1] [] _::aC 8 [2] [0] _::aC 9 [0,3] [] (J.of aE)::aC 10 [] [0] _::[]) ⟨gX.q iY,gX.q (hU (cg Ii.fd)),gX.q (hU (cg Mq.fd)),gX.q (rL 0 (zP.comp CX) cm),?_,gX.q (xi 0 eC),trivial⟩ λcR=>?_
 ·intro hd E' L' aF av cc;exact ag.fb (dL.fS 1 (cc.trans I) EE (C4 bZ) ⟨ah (aF _ _ I),ah (aF _ _ I),trivial⟩) I I I (ag.nil (an.fin (cX []) I I))
 refine ag.dq (L2:=(aJ bk ai::a1 hp)) I (ada ?_);refine ag.ek 1 0 I Su (PE h) I I ⟨ah I,ah I,trivial⟩ I λ⟨⟨bg,h⟩,aw⟩=>ag.dr ?_;refine dg (ch (ay.ret ?_));exact an.eG (⟨⟨(bg.1,bg.2),h⟩,()⟩: {r // _}×_) (fO 1) I I (du I)
def ae3{hp ab ai Q}(h:xQ hp ab ai Q):lB prog 36 [J.of ab,J.of ai] hp Q:=by
 unfold xQ at h;refine bN.of func36 I ntmps36 I λW A=>?_;refine go2 (λbk bo h=>?_) (λbk bo h=>?_)
 ·exact an.eG (⟨⟨(6,hp),h⟩,()⟩: {r // _}×_) (fO 2) I I (du I)
 refine aj.bH h λgH p5 h=>aj.bH h λeE k8 h=>?_;obtain⟨lT,oH,tw⟩:=aj.ex h;refine er [2,3,4] ?_;refine ay.xl mixed [5,9,10,11] [(0,10,J.of ab),(1,11,J.cN gH),(2,12,J.nh gH FV),(3,13,J.of eE.1.mP),(4,14,J.of ai)] ?_;refine gQ.cut (γ:=(Subtype lT)×Nat) (pe':=[5,9]) (λg=>[(6,9,J.bT [J.of g.1.1.1,J.of g.1.1.2.1]),(7,16,J.of g.1.1.1),(8,17,J.of g.1.1.2.1)]) (λg=>[(15,J.bT [J.of g.1.1.1,J.of g.1.1.2.1]),(5,J.cN g.2),(2,J.cN bk),(3,J.cN bo),(4,J.of (0:Int))]) (λg=>(aJ g.2 (default:aH)::aJ bo ai::aJ bk ab::a1 g.1.1.2.2)) (λ⟨⟨ao,gY⟩,b2⟩=>?_) λyL=>?_
 ·refine gQ.md [4,3,2,1,0] [6,7,8] [10] ⟨?_,trivial⟩
  ·refine ir.of (ks:=[]) (λx:Unit=>[]) (λx=>[]) (λx=>(aJ b2 ao.1::aJ bo ai::aJ bk ab::a1 ao.2.2)) (λ_=>?_) (λo a6 dW ji aF k=>?_)
   ·have h:=tw ao gY;refine gQ.md [7,6,4,3,2,1,0] [8] [11] ⟨ir.tail [10,9,8,7,6,5,4,3,2,1,0] ?_,trivial⟩;refine ag.dq (L2:=(aJ b2 ao.1::aJ bo ai::aJ bk ab::a1 ao.2.2)) I (ag.le (E':=[(2,J.cN bk),(3,J.cN bo),(4,J.of (0:Int)),(5,J.cN b2),(17,J.of ao.2.1)]) .all ?_);refine go2 (λh=>?_) (λh=>?_)
    ·exact an.eG (⟨⟨(ao.2.1,ao.2.2),h⟩,()⟩: {r // _}×_) (fO 3) I I (du I)
    refine aj.bH h λmb yZ h=>aj.bH h λiH tE h=>ay.fy 6 ?_;refine aj.bH h λaE bZ h=>ag.ek 3 0 I S6 (Pe bZ) I I ⟨ah I,ah I,trivial⟩ I λaw=>ag.dr (hh ?_);refine aj.bH h λkN vS h=>ay.fy 6 ?_;refine aj.bH h λbg dS h=>ag.ek 3 0 I ace (V8 dS) I I ⟨ah I,ah I,trivial⟩ I λcH=>ag.dr ?_;refine aO ?_;refine ag.share (α:=Ref) 2 2 I I (ag.share (α:=aH) 0 5 I I (bx (RG (Ip (f:=80) (τs:=[J.ptr ab,J.ptr ao.1]) ⟨ah I,ah I,trivial⟩) (λ_ _ _ h=>alI h)) ?_));refine aj.bH h λkb vT h=>aj.bH h λbt fa h=>ag.qe (eD.obj 3 (λq:aD Nat×Nat=>Cell.oM bt q.1 q.2) I (rA vT) S7 (ON fa) I (λ_=>rfl) ⟨j2 (ah I) yZ,ah I,trivial⟩) I I I λeJ=>?_;replace h:=aj.any_bind h eJ;refine aj.bH h λbQ hQ h=>ag.dq (L2:=(⟨none,.dead⟩::aJ bo ai::⟨none,.dead⟩::a1 bQ)) (by rw[<-dy hQ];rfl) ?_;refine aO ?_;exact an.eG (⟨⟨(0,bQ),h⟩,()⟩: {r // _}×_) (fO 3) I I (du I)
   cases a6;refine ag.store (i:=0) (aQ.id aH) (v:=ao.1) (b':=ao.1) eC (ah (aF I)) (ah (aF I)) I I I (ag.nil ?_);exact k ()
 refine gQ.md [] [0,1,2,3,4] [5,9] ⟨?_,?_,trivial⟩
 ·refine ir.of (ks:=[6,7,8]) (λx:Subtype lT=>[(15,J.bT [J.of x.1.1,J.of x.1.2.1])]) (λx=>[(6,9,J.bT [J.of x.1.1,J.of x.1.2.1]),(7,16,J.of x.1.1),(8,17,J.of x.1.2.1)]) (λx=>(aJ bo ai::aJ bk ab::a1 x.1.2.2)) (λ⟨ao,gY⟩=>?_) (λo a6 dW ji aF k=>?_)
  ·refine gQ.md [4,3,2,1,0] [6,7,8] [9] ⟨?_,trivial⟩
   ·refine ir.to [] (λx:Nat=>[(5,J.cN x)]) (λx:Nat=>yL (⟨ao,gY⟩,x)) (λo a6 dW ji aF k=>?_);cases a6;refine kH k4 λb2=>ag.nil ?_;exact k b2
  cases a6;refine ag.ek 2 0 I IQ (GG oH) I I ⟨ah (aF I),ah (aF I),trivial⟩ I λ⟨⟨ao,gY⟩,_⟩=>?_;refine ag.dr (ag.nil ?_);exact k ⟨ao,gY⟩
 refine ir.of (ks:=[]) (λx:Nat=>[(5,J.cN x)]) (λx=>[]) (λx=>(aJ x (default:aH)::aJ bo ai::aJ bk ab::a1 hp)) (λb2=>?_) (λo a6 dW ji aF k=>?_)
 ·refine gQ.md [] [0,1,2,3,4] [5] ⟨?_,trivial⟩
  ·refine ir.to [6,7,8] (λx:Subtype lT=>[(15,J.bT [J.of x.1.1,J.of x.1.2.1])]) (λx:Subtype lT=>yL (x,b2)) (λo a6 dW ji aF k=>?_);cases a6;refine ag.ek 3 0 I IQ (GG oH) I I ⟨ah (aF I),ah (aF I),trivial⟩ I λ⟨⟨ao,gY⟩,_⟩=>?_;refine ag.dr (ag.nil ?_);exact k ⟨ao,gY⟩
 cases a6;refine kH k4 λb2=>ag.nil ?_;exact k b2
def ae4{hp ab ai aR r}(h:CP hp ab ai aR=some r):hr prog 53 [J.of ab,J.of ai,J.of aR] hp (J.bT [J.of r.1,J.of r.2]) hp:=by
 unfold CP at h;refine bN.of func53 I ntmps53 I λW A=>?_;refine aO λbk bo=>?_;refine aA h λao br h=>aA h λaE bZ h=>er [0,1,2,5,6] ?_;refine ay.ck 2 (aC 8 [] [] _::aC 9 [0] [] (J.of ao)::aC 10 [] [] _::aC 11 [] [1] _::aC 12 [1,2,3] [] (J.bT [J.of aE.1,J.of aE.2])::aC 13 [4] [] _::aC 14 [4] [] _::fz [5] [0] [0] (λhd=>aJ bo aE.1)::aC 7 [6] [] _::[]) (dO ?_ (dO ?_ h9)) (λcR=>?_)
 ·intro hd E' L' aF av cc;exact ag.fb (dL.fS 2 (cc.trans I) IH (FZ br) ⟨ah (aF _ _ I),trivial⟩) I I I (ag.nil (an.fin (cX []) I I))
 ·intro hd E' L' aF av cc;exact ag.fb (dL.fS 2 (cc.trans I) aqv (afC bZ) ⟨ah (aF _ _ I),ah (aF _ _ I),ah (aF _ _ I),trivial⟩) I I I (ag.nil (an.fin (cX []) I I))
 refine an.dq (L2:=(aJ bo aE.1::aJ bk aR::a1 hp)) I (e8 ?_);exact go
def aeD{hp ab ai aR cT Q}(h:FK hp ab ai aR cT Q):BF prog 69 [J.ptr ab,J.ptr ai,J.ptr aR,J.ptr cT] hp Q:=by
 unfold FK at h;refine bN.of func69 I ntmps69 I λW A=>ay.seq (aj.bH h λbA dn h=>aj.bH h λc1 dv h=>ay.fy 6 ?_);refine ag.ek 0 0 I IQ (GG h) I I ⟨ah I,ah I,trivial⟩ I λ⟨⟨ao,h⟩,aw⟩=>?_;refine ag.dr (hh ?_);refine aj.bH h λc2 eW h=>ay.fy 5 ?_;refine aj.bH h λaE bZ h=>ag.ek 0 0 I acf (VY bZ) I I ⟨ah I,ah I,trivial⟩ I λcH=>ag.dr (hh ?_);refine aj.bH h λeE k8 h=>ay.fy 6 ?_;refine aj.bH h λbg dS h=>ag.ek 0 0 I S6 (Pe dS) I I ⟨ah I,ah I,trivial⟩ I λeJ=>ag.dr (ch ?_);refine aj.bH h λiH tE h=>ay.fy 5 ?_;refine aj.bH h λbt fa h=>ag.ek 0 0 I ace (V8 fa) I I ⟨ah I,ah I,trivial⟩ I λht=>ag.dr (ag.nil ?_);exact an.lv (an.nu (⟨⟨bt.2,h⟩,()⟩: {r // _}×_) (.refl _) I I)
def aeE{hp ab ai Q}(h:Cz hp ab ai Q):BF prog 80 [J.ptr ab,J.ptr ai] hp Q:=by
 unfold Cz at h;refine bN.of func80 I ntmps80 I λW A=>ay.seq (aj.bH h λbA dn h=>aj.bH h λc1 dv h=>ay.fy 5 ?_);refine ag.ek 0 0 I aqw (afk h) I I ⟨ah I,ah I,trivial⟩ I λ⟨⟨ao,h⟩,aw⟩=>ag.dr (hh ?_);refine aj.bH h λc2 eW h=>ay.fy 6 ?_;refine aj.bH h λaE bZ h=>ag.ek 0 0 I S8 (PD bZ) I I ⟨ah I,ah I,trivial⟩ I λcH=>ag.dr (ch ?_);refine aj.bH h λeE k8 h=>ay.fy 6 ?_;refine aj.bH h λbg dS h=>ag.ek 0 0 I acg (Wd dS) I I ⟨ah I,ah I,trivial⟩ I λeJ=>ag.dr (ag.nil ?_);exact an.lv (an.nu (⟨⟨bg.2,h⟩,()⟩: {r // _}×_) (.refl _) I I)
def agK{hp ab ai aR iq r}(h:Lm hp ab ai aR=some r):bN prog 22 [J.of ab,J.ptr ai,J.cN iq] ([aJ iq aR]++a1 hp) (δ:=Unit) (λ_=>J.of r.1) (λ_=>[aJ iq r.2]++a1 hp):=by
 unfold Lm at h;refine bN.of func22 I ntmps22 I λW A=>?_;refine aO ?_;refine aA h λar al h=>tC (σ:=Int×dx) (ε:=(Int×Bool×dx)⊕(Bool×Bool×Bool×Int×Bool×Bool×dx)) (γ:=Unit) (δ:=Unit) al 1 [0,1,2,6,19,20] (λs1 g1=>[(21,J.of s1.1)]) (λs1 g1=>[(0,aJ iq s1.2)]) (λs1 g1=>a1 hp) (λaw=>Sum.elim (λaw=>Exit.exit 0) (λaw=>Exit.ret) aw) (λaw g1=>Sum.elim (λaw=>[(21,J.of aw.1),(22,J.of aw.2.1)]) (λaw=>[(11,J.of aw.1),(13,J.of aw.2.1),(15,J.of aw.2.2.1),(21,J.of aw.2.2.2.1),(22,J.of aw.2.2.2.2.1),(73,J.of aw.2.2.2.2.2.1)]) aw) (λaw g1=>Sum.elim (λaw=>[(0,aJ iq aw.2.2)]) (λaw=>[(0,aJ iq aw.2.2.2.2.2.2)]) aw) (λaw g1=>Sum.elim (λaw=>a1 hp) (λaw=>a1 hp) aw) () (λs1 r h g1=>?_) (λg1=>?_)
 ·refine aO (λaI cQ bk h=>?_);refine aA h λao br h=>aA h λaE bZ h=>ay.A9 1 2 (er [0,1,2,6,8,19,20,21,22,23,24] ?_);refine ay.ck 3 (aC 25 [] [] _::aC 26 [0] [0] _::aC 27 [] [] _::⟨some 28,[2],[1],[1],λ_=>J.of ao.1,λhd _=>aJ iq ao.2⟩::aC 29 [1,3] [] _::p2 9 [] 2 5 _::fz [4,5] [2] [2] (λhd=>aJ ((hd 5 0).getD 0) aE)::[]) (dO ?_ h9) (λcR=>?_)
  ·intro hd E' L' aF av cc;refine ag.bw 1 (av 1 _ I I) (ag.lK (Lin:=[aJ iq s1.2]) (Lr:=L'.eraseIdx 1) aqx (afU br) ⟨ah (aF _ _ I),trivial⟩ I λcH=>ag.nil (an.back 1 (av 1 _ I I) ?_));exact an.fin (cX []) I I
  refine an.dq (L2:=(aJ bk (ax ai.bE aI:aH)::aJ iq ao.2::aJ ((cR 5 0).getD 0) aE::a1 hp)) I (e8 ?_);refine an.bw 2 I (aO ?_);refine aA h λbg dS h=>ag.fb (dL.fS 3 I aqy (ae4 dS) ⟨ah I,ah I,ah I,trivial⟩) I I I (aO λb2=>?_);refine aA h λbt fa h=>qM aqz (ae0 fa) ?_;refine aO λdc=>?_;refine aA h λb3 hC h=>ag.fb (dL.fS 5 I aqA (afD hC) ⟨ah I,ah I,trivial⟩) I I I (go2 (λlg cd im cA lS h=>?_) (λlg cd im cA lS h=>?_))
  ·cases h;exact gu () 5
  cases h;exact hi () 5
 rcases ar with ar|ar
 ·simp only[Sum.elim_inl]at h;exact go
 simp only[Sum.elim_inr]at h;exact go
def afY{ab ai aR bY r}(h:z8 ab ai aR=some r):nL prog 31 [J.cN bY,J.of ai,J.of aR] bY ab (J.of r.1) r.2:=by
 unfold z8 at h;refine bN.of func31 I ntmps31 I λW A=>b5 (mv λbk=>?_);refine kH M9 λbo=>hh ?_;refine aA h λao br h=>aA h λaI cQ h=>ay.mW 1 (er [0,1,2,4,6] ?_);refine ay.tQ mixed (aC 13 [] [] _::aC 14 [0] [1] _::aC 15 [] [] _::aC 16 [] [] _::aC 17 [3] [1] _::aC 18 [4] [] _::aC 19 [2,5] [] _::aC 20 [1,6] [] _::aC 21 [7] [] _::⟨some 7,[],[3],[3],λhd=>J.cN ((hd 9 0).getD 0),λhd _=>aJ ((hd 9 0).getD 0) (default:cy)⟩::fz [8,9] [3] [3] (λhd=>aJ ((hd 9 0).getD 0) (ax ai.bL aI:cy))::[]) ⟨hU (cg Rk.fd),rL 1 zW Bl,iY,hU (cg Rk.fd),rL 1 zW Bl,hU (pT underlying27),gU λaF av=>j4 acQ.ck (acQ.m _ _ _ br) ⟨ah (aF _ _ I),ah (aF _ _ I),trivial⟩,gU λaF av=>tl (k:=aI) underlying27 qH (ah (aF _ _ I)) (ah (aF _ _ I)) (cK cQ),hU (iw qH),?_,?_,trivial⟩ λcR=>?_
 ·intro hd E' L' aF av;refine kH vK λb2=>ag.nil ?_;exact an.place 3 (av 3 _ I I) (an.fin (cX [some b2]) I I)
 ·intro hd E' L' aF av;refine ag.store (i:=3) (aQ.id cy) (v:=(ax ai.bL aI:cy)) (b':=(ax ai.bL aI:cy)) qH (ah (aF _ _ I)) (ah (aF _ _ I)) (av 3 _ I I) I I (ag.nil ?_);exact an.fin (cX []) I I
 refine an.dq (L2:=[aJ bo (default:bl),aJ bk ai,aJ bY ab,aJ ((cR 9 0).getD 0) (ax ai.bL aI:cy)]) I (e8 ?_);refine an.bw 3 I (an.next (b5 (dV (cg alJ.fd) ?_)));refine rJ 0 x1 cm ?_;refine bx (ue (b:=({(default:bl)with bF:=(ax ai.bL aI).cb}:bl)) [1,4] XP I aqB M9 (.cons CX I (ah I) I (by rfl) (.nil))) ?_;refine ag.own (α:=cG) 108 (ag.own (α:=aN) 106 (ag.sh (z:=(default:bl)) [1,4] XP M9 I λdc=>ag.own (α:=cG) 108 (ag.own (α:=aN) 106 (ag.wN (i:=2) pX (ah I) (ah I) I (hh (b5 (dV (cg AU.fd) ?_)))))));refine rJ 5 sU yI ?_;refine dV (pT underlying82) ?_;refine cS (ch (ay.block ?_));refine aA h λar al h=>fh (γ:=(aD Nat×Nat)) (δ:=(aD Nat×Nat)) al [0,1,2,4,6,7,8,26,27] (λs1 g1=>[(28,J.of s1.1)]) (λs1 g1=>[(2,⟨some dc,.cw s1.2.1 [(1,aP g1.1 s1.2.2.1.length g1.2),(4,aP none ([]:aa aN).length 0)]⟩),(4,⟨g1.1,.row 108 s1.2.2.1 g1.2⟩),(8,aJ bY s1.2.2.2)]) (λaw=>Exit.exit 0) (λaw g1=>[(28,J.of aw.1),(29,J.of aw.2.1)]) (λaw g1=>[(2,⟨some dc,.cw aw.2.2.1 [(1,aP g1.1 aw.2.2.2.1.length g1.2),(4,aP none ([]:aa aN).length 0)]⟩),(4,⟨g1.1,.row 108 aw.2.2.2.1 g1.2⟩),(8,aJ bY aw.2.2.2.2)]) (none,0) (λs1 r h g1=>?_) λg1=>?_
 ·refine b5 (dW pR (hh ?_));refine kI h (λh=>?_) λh=>?_
  ·refine ly (ay.seq (ay.block (b5 (aA h λbu c0 h=>BA c0 underlying82 tk ?_))));refine dV (iw tk) ?_;refine kH uv λlg=>?_;refine tD 0 tk (hh ?_);refine aA h λaE bZ h=>aA h λbg dS h=>er [0,1,2,4,6,7,8,10,26,27,28,29,30,31] ?_;refine ay.tQ mixed (aC 32 [] [] _::aC 33 [0] [3] _::aC 34 [] [] _::aC 35 [] [8] _::aC 36 [] [0] _::⟨some 37,[2,3,4],[9],[9],λ_=>J.of aE.1,λhd _=>aJ bY aE.2⟩::aC 38 [5] [] _::⟨some 39,[1,6],[5],[5],λhd=>J.eq (aP (hd 7 0) bg.length ((hd 7 1).getD 0)),λhd _=>⟨(hd 7 0),.row 108 bg ((hd 7 1).getD 0)⟩⟩::aC 40 [] [] _::fz [1,7,8] [3] [3] (λhd=>⟨some dc,.cw ({s1.2.1 with bP:=[]}:bl) [(1,aP (hd 7 0) bg.length ((hd 7 1).getD 0)),(4,aP none ([]:aa aN).length 0)]⟩)::[]) ⟨hU (cg AW.fd),gU λaF av=>h0 (i:=3) (q:=0) (β:=bl) (γ:=cG) w4 (ah (aF _ _ I)) (av 3 _ I I) I,iY,xi 8 pW,xi 0 tk,?_,gU λaF av=>yz (r:=[aE.1]) underlying49 vF Iq I I (.cons (by simp) (ah (aF _ _ I)) (.nil)),?_,hU (cg AW.fd),?_,trivial⟩ λgw=>?_
   ·intro hd E' L' aF av;refine ag.bw 9 (av 9 _ I I) (ag.lK (Lin:=[aJ bY s1.2.2.2]) (Lr:=L'.eraseIdx 9) aqC (afT bZ) ⟨ah (aF _ _ I),ah (aF _ _ I),ah (aF _ _ I),trivial⟩ I λcH=>ag.nil (an.back 9 (av 9 _ I I) ?_));exact an.fin (cX []) I I
   ·intro hd E' L' aF av;refine ag.app (i:=5) underlying49 vF Iq (bytes:=64) (by kernel_rfl) (ah (aF _ _ I)) (av 5 _ I I) (ah (aF _ _ I)) dS I λei dR=>?_;exact ag.nil (an.fin (cX [ei,some dR]) I I)
   ·intro hd E' L' aF av;refine ag.j3 (i:=3) (γ:=cG) (b':=({s1.2.1 with bP:=[]}:bl)) (os':=[(1,aP (hd 7 0) bg.length ((hd 7 1).getD 0)),(4,aP none ([]:aa aN).length 0)]) ((aQ.id bl).comp wm) w4 (ah (aF _ _ I)) (ah (aF _ _ I)) jo (av 3 _ I I) I I I (ag.nil ?_);exact an.fin (cX []) I I
   refine an.dq (L2:=[aJ lg (ax ((ax ai.bL aI).cr) bu:dC),⟨none,.row 106 ([]:aa aN) 0⟩,⟨none,.row 108 ([]:aa cG) 0⟩,⟨some dc,.cw ({s1.2.1 with bP:=[]}:bl) [(1,aP (gw 7 0) bg.length ((gw 7 1).getD 0)),(4,aP none ([]:aa aN).length 0)]⟩,⟨none,.row 106 ([]:aa aN) 0⟩,⟨(gw 7 0),.row 108 bg ((gw 7 1).getD 0)⟩,aJ ((cR 9 0).getD 0) (ax ai.bL aI:cy),aJ bo (default:bl),aJ bk ai,aJ bY aE.2]) I (e8 (an.next (b5 ?_)));refine dV (cg Me.fd) ?_;refine rJ 0 wv cm ?_;refine dW pS ?_;refine cS ?_;refine jv (cg Me.fd) ?_;refine iU (λhb=>jb (i:=0) ((aQ.id dC).comp wv) (r:=(ax ((ax ai.bL aI).cr) bu).dQ) cm (cf I hb) I I I) ?_;refine Bz pS ?_;refine aA h λbp ev h=>qf ev (tu (ah I) (ah I) (λh=>h)) (ch ?_);refine aA h λm1 bR h=>il (γ:=Unit) [0,1,2,4,6,7,8,10,26,27,28,29,48] (λg2=>[]) (λg2=>[(3,⟨some dc,.cw m1.1 [(1,aP (gw 7 0) bg.length ((gw 7 1).getD 0)),(4,aP none ([]:aa aN).length 0)]⟩),(9,aJ bY m1.2)]) (λg2=>?_) (λhm ae=>?_) λhm ae=>?_
   ·refine an.mT (an.next (ay.fm (dW jS ?_)));refine cS (ag.nil ?_);cases h;exact hi ((gw 7 0),((gw 7 1).getD 0)) 1
   ·have h:=fp ae bR;refine ay.fm (cS ?_);refine ag.bw 9 I (aA h λbt fa h=>eH 1 gO (gK fa) λeJ=>?_);refine dW jS ?_;refine dV (cg Ro.fd) ?_;refine aA h λz2 hj h=>ag.yn (i:=4) ((aQ.id bl).comp KN) (v:=(bm (1+bt.1):Int)) (b':=z2) cm (ah I) (ah I) I I (dy hj) (by rfl) ?_;refine ag.nil (an.bw 9 I (an.bw 9 I (an.bw 9 I (an.bw 9 I (an.bw 9 I (an.bw 9 I (an.bw 9 I (an.bw 9 I (an.bw 9 I ?_)))))))));cases h;exact dU 0 (hm ())
   have h:=fq ae bR;refine ay.skip ?_;cases h;exact dU 0 (hm ())
  refine ay.exit (an.exit ?_);cases h;exact gu (g1.1,g1.2) 0
 refine an.lu (an.next (ay.seq (aA h λb3 hC h=>aA h λcB gr h=>aA h λz3 l2 h=>er [0,1,2,4,6,7,8,26,27,28,29] ?_)));refine ay.tQ mixed (aC 54 [] [] _::aC 55 [0] [5] _::aC 56 [] [] _::aC 57 [] [] _::aC 58 [3] [5] _::aC 59 [4] [] _::⟨some 60,[2,5],[8],[8],λ_=>J.of b3.1,λhd _=>aJ bY b3.2⟩::aC 61 [1,6] [] _::aC 62 [7] [] _::aC 63 [] [] _::fz [8,9] [2] [2] (λhd=>⟨some dc,.cw z3 [(1,aP g1.1 ar.2.2.2.1.length g1.2),(4,aP none ([]:aa aN).length 0)]⟩)::[]) ⟨hU (cg Zx.fd),rL 5 zV lN,iY,hU (cg Zx.fd),rL 5 zV lN,hU (pT underlying56),?_,gU λaF av=>tl (k:=cB) underlying56 cm (ah (aF _ _ I)) (ah (aF _ _ I)) (cK gr),hU (iw cm),hU (cg Mr.fd),?_,trivial⟩ λxk=>?_
 ·intro hd E' L' aF av;exact ag.bw 8 (av 8 _ I I) (ag.lK (Lin:=[aJ bY ar.2.2.2.2]) (Lr:=L'.eraseIdx 8) gO (gK hC) ⟨ah (aF _ _ I),ah (aF _ _ I),trivial⟩ I λht=>ag.nil (an.back 8 (av 8 _ I I) (an.fin (cX []) I I)))
 ·intro hd E' L' aF av;refine ag.yn (i:=2) ((aQ.id bl).comp Gm) (v:=(ax ((ax ai.bL aI).dY) cB:Int)) (b':=z3) cm (ah (aF _ _ I)) (ah (aF _ _ I)) (av 2 _ I I) I (dy l2) (by rfl) ?_;exact ag.nil (an.fin (cX []) I I)
 refine an.dq (L2:=[⟨none,.row 106 ([]:aa aN) 0⟩,⟨none,.row 108 ([]:aa cG) 0⟩,⟨some dc,.cw z3 [(1,aP g1.1 ar.2.2.2.1.length g1.2),(4,aP none ([]:aa aN).length 0)]⟩,⟨none,.row 106 ([]:aa aN) 0⟩,⟨g1.1,.row 108 ar.2.2.2.1 g1.2⟩,aJ ((cR 9 0).getD 0) (ax ai.bL aI:cy),aJ bo (default:bl),aJ bk ai,aJ bY b3.2]) I (e8 (an.next (ay.seq (b5 ?_))));refine oL 7 pW ?_;refine dV (cg Mr.fd) ?_;refine acZ 2 Gm cm ?_;refine aA h λcd im h=>qM acU.ck (acU.m _ _ _ im) ?_;refine bx (QF V0 akx aaU I (ah I) I I) ?_;refine dV (pT underlying146) ?_;refine cS (ch (ay.block ?_));refine aA h λaS al h=>fh (γ:=(aD Nat×Nat)) (δ:=(aD Nat×Nat)) al [0,1,2,4,6,7,8,26,27,28,29,68,69] (λs2 g3=>[(70,J.of s2.1)]) (λs2 g3=>[(2,⟨some dc,.cw s2.2.1 [(1,aP g1.1 ar.2.2.2.1.length g1.2),(4,aP g3.1 s2.2.2.1.length g3.2)]⟩),(3,⟨g3.1,.row 106 s2.2.2.1 g3.2⟩),(8,aJ bY s2.2.2.2)]) (λeA=>Exit.exit 2) (λeA g3=>[(70,J.of eA.1),(71,J.of eA.2.1)]) (λeA g3=>[(2,⟨some dc,.cw eA.2.2.1 [(1,aP g1.1 ar.2.2.2.1.length g1.2),(4,aP g3.1 eA.2.2.2.1.length g3.2)]⟩),(3,⟨g3.1,.row 106 eA.2.2.2.1 g3.2⟩),(8,aJ bY eA.2.2.2.2)]) (none,0) (λs2 r h g3=>?_) λg3=>?_
 ·refine b5 (dW pR (hh ?_));refine kI h (λh=>?_) λh=>?_
  ·refine ly (ay.seq (ay.block (b5 (aA h λe2 jw h=>BA jw underlying146 M1 ?_))));refine dV (iw M1) ?_;refine kH an5 λpB=>?_;refine tD 0 M1 (ch ?_);refine aA h λcA lS h=>aA h λz4 sv h=>aA h λb4 p3 h=>aA h λdH qP h=>er [0,1,2,4,6,7,8,12,26,27,28,29,68,69,70,71,72,73] ?_;refine ay.tQ mixed (aC 74 [] [] _::aC 75 [0] [3] _::aC 76 [] [] _::⟨some 77,[2],[9],[9],λ_=>J.of cA.1,λhd _=>aJ bY cA.2⟩::aC 78 [3] [] _::aC 79 [4] [] _::aC 80 [] [] _::aC 81 [6] [0] _::aC 82 [5,7] [] _::aC 83 [8] [] _::⟨some 84,[1,9],[4],[4],λhd=>J.eq (aP (hd 10 0) dH.length ((hd 10 1).getD 0)),λhd _=>⟨(hd 10 0),.row 106 dH ((hd 10 1).getD 0)⟩⟩::aC 85 [] [] _::fz [1,10,11] [3] [3] (λhd=>⟨some dc,.cw ({s2.2.1 with fN:=[]}:bl) [(1,aP g1.1 ar.2.2.2.1.length g1.2),(4,aP (hd 10 0) dH.length ((hd 10 1).getD 0))]⟩)::[]) ⟨hU (cg Ic.fd),gU λaF av=>h0 (i:=3) (q:=1) (β:=bl) (γ:=aN) EC (ah (aF _ _ I)) (av 3 _ I I) I,iY,?_,hU (AR underlying3 underlying104),gU λaF av=>(kC (b:=({(default:aN)with cI:=BitVec.ofInt 64 cA.1}:aN)) I yA si (.cons lk I (ah (aF _ _ I)) I (.nil))).q1 (dy sv),hU (cg aky.fd),rL 0 Wk cm,gU λaF av=>j4 acS.ck (acS.m _ _ _ p3) ⟨ah (aF _ _ I),ah (aF _ _ I),trivial⟩,gU λaF av=>yz (r:=[b4]) underlying50 fx si I I (.cons (by simp) (ah (aF _ _ I)) (.nil)),?_,hU (cg Ic.fd),?_,trivial⟩ λEZ=>?_
   ·intro hd E' L' aF av;refine ag.bw 9 (av 9 _ I I) (ag.lK (Lin:=[aJ bY s2.2.2.2]) (Lr:=L'.eraseIdx 9) gO (gK lS) ⟨ah (aF _ _ I),dd 256,trivial⟩ I λec=>ag.nil (an.back 9 (av 9 _ I I) ?_));exact an.fin (cX []) I I
   ·intro hd E' L' aF av;refine ag.app (i:=4) underlying50 fx si (bytes:=16) (by kernel_rfl) (ah (aF _ _ I)) (av 4 _ I I) (ah (aF _ _ I)) qP I λjU mq=>?_;exact ag.nil (an.fin (cX [jU,some mq]) I I)
   ·intro hd E' L' aF av;refine ag.j3 (i:=3) (γ:=aN) (b':=({s2.2.1 with fN:=[]}:bl)) (os':=[(1,aP g1.1 ar.2.2.2.1.length g1.2),(4,aP (hd 10 0) dH.length ((hd 10 1).getD 0))]) ((aQ.id bl).comp C7) EC (ah (aF _ _ I)) (ah (aF _ _ I)) jo (av 3 _ I I) I I I (ag.nil ?_);exact an.fin (cX []) I I
   refine an.dq (L2:=[aJ pB (ax cd.mO e2:nn),⟨none,.row 106 ([]:aa aN) 0⟩,⟨none,.row 108 ([]:aa cG) 0⟩,⟨some dc,.cw ({s2.2.1 with fN:=[]}:bl) [(1,aP g1.1 ar.2.2.2.1.length g1.2),(4,aP (EZ 10 0) dH.length ((EZ 10 1).getD 0))]⟩,⟨(EZ 10 0),.row 106 dH ((EZ 10 1).getD 0)⟩,⟨g1.1,.row 108 ar.2.2.2.1 g1.2⟩,aJ ((cR 9 0).getD 0) (ax ai.bL aI:cy),aJ bo (default:bl),aJ bk ai,aJ bY cA.2]) I (e8 ?_);refine an.mT (an.next (ay.fm (dW jS ?_)));refine cS (ag.nil ?_);cases h;exact hi ((EZ 10 0),((EZ 10 1).getD 0)) 1
  refine ay.exit (an.exit ?_);cases h;exact gu (g3.1,g3.2) 0
 refine an.lu (an.next (b5 (ag.nz (β:=bl) (γ:=cG) (b':=({aS.2.2.1 with bP:=ar.2.2.2.1}:bl)) ((aQ.id bl).comp wm) 2 4 0 I I I I I I (ag.nz (β:=bl) (γ:=aN) (b':=({({aS.2.2.1 with bP:=ar.2.2.2.1}:bl)with fN:=aS.2.2.2.1}:bl)) ((aQ.id bl).comp C7) 2 3 0 I I I I I I (ag.ti 2 I (aA h λz5 xh h=>qf xh (jb (i:=2) (aQ.id bl) (r:=({({aS.2.2.1 with bP:=ar.2.2.2.1}:bl)with fN:=aS.2.2.2.1}:bl)) pX (ah I) I I I) ?_))))));refine tD 6 pX (ch (ay.ret ?_));refine an.bw 8 I ?_;cases h;exact an.eG () (.cons_cons _ (q9 _)) I I (nv (i:=7) pX I I)
def O3{hp ab ai aR Q}(h:tX hp ab ai aR Q):lB prog 32 [J.of ab,J.of ai,J.of aR] hp Q:=by
 unfold tX at h;refine bN.of func32 I ntmps32 I λW A=>?_;refine go2 (λbk bo b2 h=>?_) (λbk bo b2 h=>?_)
 ·exact an.eG (⟨⟨(6,hp),h⟩,()⟩: {r // _}×_) (fO 3) I I (du I)
 refine aj.bH h λgH p5 h=>aj.bH h λeE k8 h=>?_;obtain⟨lT,oH,tw⟩:=aj.ex h;refine er [3,4,5,6] ?_;refine ay.xl mixed [6,10,11,12] [(0,14,J.of ab),(1,15,J.cN gH),(2,16,J.nh gH FV),(3,17,J.of eE.1.mP),(4,18,J.of ai),(5,19,J.of aR)] ?_;refine gQ.cut (γ:=(Subtype lT)×Nat) (pe':=[6,10]) (λg=>[(7,13,J.bT [J.of g.1.1.1,J.of g.1.1.2.1]),(8,21,J.of g.1.1.1),(9,22,J.of g.1.1.2.1)]) (λg=>[(20,J.bT [J.of g.1.1.1,J.of g.1.1.2.1]),(7,J.cN g.2),(3,J.cN bk),(4,J.cN bo),(5,J.cN b2),(6,J.of (0:Int))]) (λg=>(aJ g.2 (default:Int)::aJ b2 aR::aJ bo ai::aJ bk ab::a1 g.1.1.2.2)) (λ⟨⟨ao,gY⟩,dc⟩=>?_) λyL=>?_
 ·refine gQ.md [5,4,3,2,1,0] [7,8,9] [11] ⟨?_,trivial⟩
  ·refine ir.of (ks:=[]) (λx:Unit=>[]) (λx=>[]) (λx=>(aJ dc ao.1::aJ b2 aR::aJ bo ai::aJ bk ab::a1 ao.2.2)) (λ_=>?_) (λo a6 dW ji aF k=>?_)
   ·have h:=tw ao gY;refine gQ.md [8,7,5,4,3,2,1,0] [9] [12] ⟨ir.tail [11,10,9,8,7,6,5,4,3,2,1,0] ?_,trivial⟩;refine ag.dq (L2:=(aJ dc ao.1::aJ b2 aR::aJ bo ai::aJ bk ab::a1 ao.2.2)) I (ag.le (E':=[(3,J.cN bk),(4,J.cN bo),(5,J.cN b2),(6,J.of (0:Int)),(7,J.cN dc),(22,J.of ao.2.1)]) .all ?_);refine go2 (λh=>?_) (λh=>?_)
    ·exact an.eG (⟨⟨(ao.2.1,ao.2.2),h⟩,()⟩: {r // _}×_) (fO 4) I I (du I)
    refine aj.bH h λmb yZ h=>aj.bH h λiH tE h=>aj.bH h λaE bZ h=>ay.A9 1 4 (er [3,4,5,6,7,8,22,23,24] ?_);refine ay.ck 5 (aC 27 [] [3] _::aC 28 [0] [] _::aC 29 [1] [] _::aC 30 [2] [] _::aC 31 [] [2] _::aC 32 [3,4] [] (J.bT [J.of aE.1,J.of aE.2])::aC 26 [5] [] _::aC 33 [6] [] _::aC 34 [6] [] _::p2 9 [] 4 9 _::fz [7,9] [4] [4] (λhd=>aJ ((hd 9 0).getD 0) aE.1)::aC 10 [8] [] _::[]) (dO ?_ h9) (λcR=>?_)
    ·intro hd E' L' aF av cc;exact ag.fb (dL.fS 5 (cc.trans I) S5 (Pw bZ) ⟨ah (aF _ _ I),ah (aF _ _ I),trivial⟩) I I I (ag.nil (an.fin (cX []) I I))
    refine an.dq (L2:=(aJ dc ao.1::aJ b2 aR::aJ bo ai::aJ bk ab::aJ ((cR 9 0).getD 0) aE.1::a1 ao.2.2)) I (e8 ?_);refine an.bw 4 I (an.next (ay.seq (ay.seq (aj.bH h λmE BD h=>aj.bH h λkN vS h=>ay.fy 5 ?_))));refine aj.bH h λbg dS h=>ag.ek 5 0 I acg (Wd dS) I I ⟨ah I,ah I,trivial⟩ I λaw=>ag.dr ?_;refine go2 (λh=>?_) (λh=>?_)
    ·refine aj.bH h λkb vT h=>ay.fy 6 ?_;refine ag.ek 5 0 I IQ (GG h) I I ⟨ah I,ah I,trivial⟩ I λ⟨⟨bt,h⟩,cH⟩=>?_;refine ag.dr (hh ?_);refine aj.bH h λFm ac5 h=>ay.fy 5 ?_;refine aj.bH h λb3 hC h=>ag.ek 5 0 I acf (VY hC) I I ⟨ah I,ah I,trivial⟩ I λeJ=>ag.dr ?_;refine aO ?_;exact an.eG (⟨⟨(19,b3),h⟩,()⟩: {r // _}×_) (fO 5) I I (du I)
    refine aj.bH h λzn ac6 h=>ay.fy 6 ?_;refine aj.bH h λcd im h=>ag.ek 5 0 I S8 (PD im) I I ⟨ah I,ah I,trivial⟩ I λht=>ag.dr ?_;refine aO ?_;refine ag.share (α:=Ref) 4 3 I I (ag.share (α:=aH) 0 9 I I (ag.share (α:=Int) 1 7 I I (ag.share (α:=Int) 2 5 I I (bx (RG (Ip (f:=69) (τs:=[J.ptr ab,J.ptr aE.1,J.ptr ao.1,J.ptr aR]) ⟨ah I,ah I,ah I,ah I,trivial⟩) (λ_ _ _ h=>alK h)) ?_))));refine aj.bH h λzo EY h=>aj.bH h λcA lS h=>ag.qe (eD.obj 5 (λq:aD Nat×Nat=>Cell.oM cA q.1 q.2) I (rA EY) S7 (ON lS) I (λ_=>rfl) ⟨j2 (ah I) BD,ah I,trivial⟩) I I I λeA=>?_;replace h:=aj.any_bind h eA;refine aj.bH h λbQ hQ h=>ag.dq (L2:=(⟨none,.dead⟩::⟨none,.dead⟩::⟨none,.dead⟩::aJ bo ai::⟨none,.dead⟩::a1 bQ)) (by rw[<-dy hQ];rfl) ?_;refine aO ?_;exact an.eG (⟨⟨(0,bQ),h⟩,()⟩: {r // _}×_) (fO 5) I I (du I)
   cases a6;refine ag.store (i:=0) (aQ.id Int) (v:=ao.1) (b':=ao.1) cm (ah (aF I)) (ah (aF I)) I I I (ag.nil ?_);exact k ()
 refine gQ.md [] [0,1,2,3,4,5] [6,10] ⟨?_,?_,trivial⟩
 ·refine ir.of (ks:=[7,8,9]) (λx:Subtype lT=>[(20,J.bT [J.of x.1.1,J.of x.1.2.1])]) (λx=>[(7,13,J.bT [J.of x.1.1,J.of x.1.2.1]),(8,21,J.of x.1.1),(9,22,J.of x.1.2.1)]) (λx=>(aJ b2 aR::aJ bo ai::aJ bk ab::a1 x.1.2.2)) (λ⟨ao,gY⟩=>?_) (λo a6 dW ji aF k=>?_)
  ·refine gQ.md [5,4,3,2,1,0] [7,8,9] [10] ⟨?_,trivial⟩
   ·refine ir.to [] (λx:Nat=>[(7,J.cN x)]) (λx:Nat=>yL (⟨ao,gY⟩,x)) (λo a6 dW ji aF k=>?_);cases a6;refine kH su λdc=>ag.nil ?_;exact k dc
  cases a6;refine ag.ek 3 0 I ach (Wb oH) I I ⟨ah (aF I),ah (aF I),ah (aF I),trivial⟩ I λ⟨⟨ao,gY⟩,_⟩=>?_;refine ag.dr (ag.nil ?_);exact k ⟨ao,gY⟩
 refine ir.of (ks:=[]) (λx:Nat=>[(7,J.cN x)]) (λx=>[]) (λx=>(aJ x (default:Int)::aJ b2 aR::aJ bo ai::aJ bk ab::a1 hp)) (λdc=>?_) (λo a6 dW ji aF k=>?_)
 ·refine gQ.md [] [0,1,2,3,4,5] [6] ⟨?_,trivial⟩
  ·refine ir.to [7,8,9] (λx:Subtype lT=>[(20,J.bT [J.of x.1.1,J.of x.1.2.1])]) (λx:Subtype lT=>yL (x,dc)) (λo a6 dW ji aF k=>?_);cases a6;refine ag.ek 4 0 I ach (Wb oH) I I ⟨ah (aF I),ah (aF I),ah (aF I),trivial⟩ I λ⟨⟨ao,gY⟩,_⟩=>?_;refine ag.dr (ag.nil ?_);exact k ⟨ao,gY⟩
 cases a6;refine kH su λdc=>ag.nil ?_;exact k dc
def Wc{hp ab ai Q}(h:C2 hp ab ai Q):bN prog 107 [J.of ab,J.of ai] ([]++a1 hp) (δ:= {r:aH×Int×(aL Cell) // Q r}×Unit) (λd=>J.bT [J.of d.1.1.1,J.of d.1.1.2.1]) (λd=>[]++a1 d.1.1.2.2):=by
 unfold C2 at h;refine bN.of func107 I ntmps107 I λW A=>?_;refine aO λbk bo=>?_;refine ag.ek 2 0 I IQ (GG h) I I ⟨ah I,ah I,trivial⟩ I λ⟨⟨ao,h⟩,aw⟩=>?_;refine ag.dr ?_;refine go2 (λb2 h=>?_) (λb2 h=>?_)
 ·exact an.rz (⟨⟨((default:aH),ao.2.1,ao.2.2),h⟩,()⟩: {r // _}×_) (fO 3) I I (nv (i:=1) eC I I) (du I)
 refine aj.bH h λbA dn h=>aj.bH h λc1 dv h=>aj.bH h λcC e9 h=>aj.bH h λc2 eW h=>aj.bH h λbp ev h=>aj.bH h λz2 hj h=>ay.jM mixed 13 (rg 18 13) [[],[0],[1],[2],[],[4],[3,5],[],[],[8],[],[10],[7,9,11]] [_,_,_,_,_,_,_,_,_,_,_,_,_] ⟨ey,fA λav=>l0 (j2 (ah I) dn),H1 (cg akz.fd),fA λav=>o8 ((aQ.id lI).comp KM) (r:=c1.ug) aaV (ah I) (pf (λi e q=>av i e q I) (jt (n:=3) I (wQ dv) I)) I I,H1 (cg Mq.fd),iR 2 CX cm,fA λav=>vu (r:=bp) underlying161 Bx Z7 (ll (ah I) e9) (ah I) (pf (λi e q=>av i e q I) (jt (n:=3) I (ym eW) I)) (dy ev),rK 2 pX,H1 (cg Zv.fd),iR 0 KA cm,H1 (cg alL.fd),iR 0 OQ cm,sH hj λL' av=>kC (b:= {aX:=ai,b0:=ao.1.b0,dJ:=ao.1.dJ:aH}) I aqD k4 (.cons zP I (ah I) I (.cons KA I (ah I) I (.cons OQ I (ah I) I (.nil)))),trivial⟩ ?_;refine ag.ek 3 0 I Su (PE h) I I ⟨ah I,ah I,trivial⟩ I λ⟨⟨aE,h⟩,cH⟩=>ag.dr ?_;refine aO ?_;exact an.rz (⟨⟨(ao.1,0,aE.2),h⟩,()⟩: {r // _}×_) (fO 3) I I (nv (i:=1) eC I I) (du I)
def VU{hp ab ai Q}(h:zT hp ab ai Q):bN prog 74 [J.of ab,J.of ai] ([]++a1 hp) (δ:= {r:bl×bl×Int×(aL Cell) // Q r}×Unit) (λd=>J.bT [J.of d.1.1.1,J.of d.1.1.2.1,J.of d.1.1.2.2.1]) (λd=>[]++a1 d.1.1.2.2.2):=by
 unfold zT at h;refine bN.of func74 I ntmps74 I λW A=>?_;refine aO λbk bo b2=>?_;refine aj.bH h λgH p5 h=>aj.bH h λeE k8 h=>?_;obtain⟨lT,oH,tw⟩:=aj.ex h;refine er [0,3,4,5,6] ?_;refine ay.xl mixed [5,9,10,11] [(0,11,J.of ab),(1,12,J.cN gH),(2,13,J.nh gH FV),(3,14,J.of eE.1.mP),(4,15,J.of ai)] ?_;refine gQ.cut (γ:=(Subtype lT)×Nat) (pe':=[5,9]) (λg=>[(6,10,J.bT [J.of g.1.1.1,J.of g.1.1.2.1]),(7,17,J.of g.1.1.1),(8,18,J.of g.1.1.2.1)]) (λg=>[(16,J.bT [J.of g.1.1.1,J.of g.1.1.2.1]),(7,J.cN g.2),(0,J.of ab),(3,J.cN bk),(4,J.cN bo),(5,J.cN b2),(6,J.of (0:Int))]) (λg=>(aJ g.2 (default:aH)::aJ b2 (default:bl)::aJ bo (default:bl)::aJ bk ai::a1 g.1.1.2.2)) (λ⟨⟨ao,gY⟩,dc⟩=>?_) λyL=>?_
 ·refine gQ.md [4,3,2,1,0] [6,7,8] [10] ⟨?_,trivial⟩
  ·refine ir.of (ks:=[]) (λx:Unit=>[]) (λx=>[]) (λx=>(aJ dc ao.1::aJ b2 (default:bl)::aJ bo (default:bl)::aJ bk ai::a1 ao.2.2)) (λ_=>?_) (λo a6 dW ji aF k=>?_)
   ·have h:=tw ao gY;refine gQ.md [7,6,4,3,2,1,0] [8] [11] ⟨ir.tail [10,9,8,7,6,5,4,3,2,1,0] ?_,trivial⟩;refine ag.dq (L2:=(aJ dc ao.1::aJ b2 (default:bl)::aJ bo (default:bl)::aJ bk ai::a1 ao.2.2)) I (ag.le (E':=[(0,J.of ab),(3,J.cN bk),(4,J.cN bo),(5,J.cN b2),(6,J.of (0:Int)),(7,J.cN dc),(18,J.of ao.2.1)]) .all ?_);refine go2 (λh=>?_) (λh=>?_)
    ·exact an.Iv (⟨⟨((default:bl),(default:bl),ao.2.1,ao.2.2),h⟩,()⟩: {r // _}×_) (fO 4) I I (nv (i:=2) pX I I) (nv (i:=1) pX I I) (du I)
    refine aj.bH h λmb yZ h=>aj.bH h λiH tE h=>aj.bH h λaE bZ h=>ay.A9 1 4 (er [0,3,4,5,6,7,18,19,20] ?_);refine ay.ck 5 (aC 25 [] [] _::aC 26 [0] [] _::aC 27 [1] [] _::aC 28 [2] [] _::aC 29 [] [3] _::aC 30 [3,4] [] (J.bT [J.of aE.1,J.of aE.2])::aC 24 [5] [] _::aC 31 [6] [] _::aC 32 [6] [] _::p2 8 [] 4 9 _::fz [7,9] [4] [4] (λhd=>aJ ((hd 9 0).getD 0) aE.1)::aC 9 [8] [] _::[]) (dO ?_ h9) (λcR=>?_)
    ·intro hd E' L' aF av cc;exact ag.fb (dL.fS 5 (cc.trans I) S5 (Pw bZ) ⟨ah (aF _ _ I),ah (aF _ _ I),trivial⟩) I I I (ag.nil (an.fin (cX []) I I))
    refine an.dq (L2:=(aJ dc ao.1::aJ b2 (default:bl)::aJ bo (default:bl)::aJ bk ai::aJ ((cR 9 0).getD 0) aE.1::a1 ao.2.2)) I (e8 ?_);refine an.bw 4 I (an.next (ay.seq (aj.bH h λmE BD h=>aj.bH h λkN vS h=>ay.fy 6 ?_)));refine aj.bH h λbg dS h=>ag.ek 5 0 I S6 (Pe dS) I I ⟨ah I,ah I,trivial⟩ I λaw=>ag.dr (hh ?_);refine aj.bH h λkb vT h=>ay.fy 6 ?_;refine aj.bH h λbt fa h=>ag.ek 5 0 I S8 (PD fa) I I ⟨ah I,ah I,trivial⟩ I λcH=>ag.dr (hh ?_);refine er [0,3,4,5,7,8,9,18,19,20,24,25,26,27,28,29,30,31,32,33,34,35,36,37,38,39,40,41,42,43,44,45,46] ?_;refine ay.rT 5 (aC 47 [] [] _::aC 48 [0] [1] _::aC 49 [] [] _::aC 50 [2] [0] _::fz [1] [3] [3] (λhd=>aJ bo ao.1.aX)::fz [3] [2] [2] (λhd=>aJ b2 aE.1.aX)::aC 6 [] [] _::[]) (λgw=>?_);refine an.dq (L2:=(aJ ((cR 9 0).getD 0) aE.1::aJ dc ao.1::aJ b2 aE.1.aX::aJ bo ao.1.aX::aJ bk ai::a1 bt)) I (e8 (an.next (ay.ret ?_)));exact an.Iv (⟨⟨(ao.1.aX,aE.1.aX,0,bt),h⟩,()⟩: {r // _}×_) (fO 5) I I (nv (i:=3) pX I I) (nv (i:=2) pX I I) (du I)
   cases a6;refine ag.store (i:=0) (aQ.id aH) (v:=ao.1) (b':=ao.1) eC (ah (aF I)) (ah (aF I)) I I I (ag.nil ?_);exact k ()
 refine gQ.md [] [0,1,2,3,4] [5,9] ⟨?_,?_,trivial⟩
 ·refine ir.of (ks:=[6,7,8]) (λx:Subtype lT=>[(16,J.bT [J.of x.1.1,J.of x.1.2.1])]) (λx=>[(6,10,J.bT [J.of x.1.1,J.of x.1.2.1]),(7,17,J.of x.1.1),(8,18,J.of x.1.2.1)]) (λx=>(aJ b2 (default:bl)::aJ bo (default:bl)::aJ bk ai::a1 x.1.2.2)) (λ⟨ao,gY⟩=>?_) (λo a6 dW ji aF k=>?_)
  ·refine gQ.md [4,3,2,1,0] [6,7,8] [9] ⟨?_,trivial⟩
   ·refine ir.to [] (λx:Nat=>[(7,J.cN x)]) (λx:Nat=>yL (⟨ao,gY⟩,x)) (λo a6 dW ji aF k=>?_);cases a6;refine kH k4 λdc=>ag.nil ?_;exact k dc
  cases a6;refine ag.ek 3 0 I aaW (Wc oH) I I ⟨ah (aF I),ah (aF I),trivial⟩ I λ⟨⟨ao,gY⟩,_⟩=>?_;refine ag.dr (ag.nil ?_);exact k ⟨ao,gY⟩
 refine ir.of (ks:=[]) (λx:Nat=>[(7,J.cN x)]) (λx=>[]) (λx=>(aJ x (default:aH)::aJ b2 (default:bl)::aJ bo (default:bl)::aJ bk ai::a1 hp)) (λdc=>?_) (λo a6 dW ji aF k=>?_)
 ·refine gQ.md [] [0,1,2,3,4] [5] ⟨?_,trivial⟩
  ·refine ir.to [6,7,8] (λx:Subtype lT=>[(16,J.bT [J.of x.1.1,J.of x.1.2.1])]) (λx:Subtype lT=>yL (x,dc)) (λo a6 dW ji aF k=>?_);cases a6;refine ag.ek 4 0 I aaW (Wc oH) I I ⟨ah (aF I),ah (aF I),trivial⟩ I λ⟨⟨ao,gY⟩,_⟩=>?_;refine ag.dr (ag.nil ?_);exact k ⟨ao,gY⟩
 cases a6;refine kH k4 λdc=>ag.nil ?_;exact k dc
def ae5{hp ab ai Q}(h:xR hp ab ai Q):lB prog 34 [J.of ab,J.of ai] hp Q:=by
 unfold xR at h;refine bN.of func34 I ntmps34 I λW A=>?_;refine go2 (λbk bo h=>?_) (λbk bo h=>?_)
 ·exact an.eG (⟨⟨(6,hp),h⟩,()⟩: {r // _}×_) (fO 2) I I (du I)
 refine ag.ek 2 0 I aci (VU h) I I ⟨ah I,ah I,trivial⟩ I λ⟨⟨ao,h⟩,aw⟩=>?_;refine ag.dr ?_;refine go2 (λb2 dc h=>?_) (λb2 dc h=>?_)
 ·exact an.eG (⟨⟨(ao.2.2.1,ao.2.2.2),h⟩,()⟩: {r // _}×_) (fO 4) I I (du I)
 refine ag.share (α:=Ref) 3 2 I I (ag.share (α:=bl) 1 5 I I (bx (RG (Ip (f:=75) (τs:=[J.ptr ab,J.ptr ao.1]) ⟨ah I,ah I,trivial⟩) (λ_ _ _ h=>alM h)) ?_));refine aj.bH h λbA dn h=>aj.bH h λc1 dv h=>aj.bH h λaE bZ h=>ag.qe (eD.obj 4 (λq:aD Nat×Nat=>Cell.oM aE q.1 q.2) I (rA dv) S7 (ON bZ) I (λ_=>rfl) ⟨j2 (ah I) dn,ah I,trivial⟩) I I I λcH=>?_;replace h:=aj.any_bind h cH;refine aj.bH h λbQ hQ h=>ag.dq (L2:=(aJ dc ao.2.1::⟨none,.dead⟩::aJ bo ai::⟨none,.dead⟩::a1 bQ)) (by rw[<-dy hQ];rfl) ?_;refine aO ?_;exact an.eG (⟨⟨(0,bQ),h⟩,()⟩: {r // _}×_) (fO 4) I I (du I)
def aeF{hp ab ai Q}(h:FL hp ab ai Q):BF prog 75 [J.ptr ab,J.ptr ai] hp Q:=by
 unfold FL at h;refine bN.of func75 I ntmps75 I λW A=>?_;refine aO ?_;refine ag.ek 0 0 I aci (VU h) I I ⟨ah I,ah I,trivial⟩ I λ⟨⟨ao,h⟩,aw⟩=>?_;refine ag.dr (ag.nil ?_);exact an.lv (an.nu (⟨⟨ao.2.2.2,h⟩,()⟩: {r // _}×_) (.refl _) I I)
def ag0{hp ab ai aR kn iq Q}(h:Hx hp ab ai aR Q):bN prog 12 [J.of ab,J.cN kn,J.cN iq] ([aJ kn ai,aJ iq aR]++a1 hp) (δ:= {r:Bool×Bool×cn×dx×(aL Cell) // Q r}×Unit) (λd=>J.bT [J.of d.1.1.1,J.of d.1.1.2.1]) (λd=>[aJ kn d.1.1.2.2.1,aJ iq d.1.1.2.2.2.1]++a1 d.1.1.2.2.2.2):=by
 unfold Hx at h;refine bN.of func12 I ntmps12 I λW A=>?_;refine aO ?_;refine aj.bH h λao br h=>aj.bH h λaE bZ h=>ay.A9 1 2 (er [0,1,2,6,7] ?_);refine ay.ck 3 (aC 13 [] [] _::aC 14 [] [] _::aC 15 [1] [] _::aC 16 [2] [] _::aC 17 [3] [0] _::aC 18 [] [] _::⟨some 19,[5],[1],[1],λ_=>J.of ao.1,λhd _=>aJ iq ao.2⟩::⟨some 20,[0,4,6],[1],[1],λ_=>J.of aE.1,λhd _=>aJ iq aE.2⟩::p2 8 [] 2 8 _::fz [7,8] [2] [2] (λhd=>aJ ((hd 8 0).getD 0) aE.1)::[]) (dO ?_ (dO ?_ h9)) (λcR=>?_)
 ·intro hd E' L' aF av cc;exact ag.bw 1 (av 1 _ I I) (ag.lK (Lin:=[aJ iq aR]) (Lr:=L'.eraseIdx 1) gO (gK br) ⟨ah (aF _ _ I),dd 4,trivial⟩ I λaw=>ag.nil (an.back 1 (av 1 _ I I) (an.fin (cX []) I I)))
 ·intro hd E' L' aF av cc;exact ag.bw 1 (av 1 _ I I) (ag.lK (Lin:=[aJ iq ao.2]) (Lr:=L'.eraseIdx 1) aqE (afY bZ) ⟨ah (aF _ _ I),ah (aF _ _ I),ah (aF _ _ I),trivial⟩ I λcH=>ag.nil (an.back 1 (av 1 _ I I) (an.fin (cX []) I I)))
 refine an.dq (L2:=(aJ kn ai::aJ iq aE.2::aJ ((cR 8 0).getD 0) aE.1::a1 hp)) I (e8 ?_);refine an.bw 2 I (aO ?_);refine ag.bw 2 I (ag.UD (γ:=Unit) h (λy=>J.of y.1) (λy g=>(aJ iq y.2::aJ ((cR 8 0).getD 0) aE.1::aJ kn ai::a1 hp)) () I I I I I I (λhb hm=>by obtain⟨UE,TB,TC⟩:=hm;refine eD.map (λd=>(⟨UE,TC⟩,d)) (λ_=>rfl) ?_ (eD.lK 1 qG (qp TB) I I ?_);exact λ_=>rfl;exact⟨cf I hb,trivial⟩) λbg eJ h=>?_);refine ET (ch ?_);refine aj.bH h λm1 bR h=>qL (γ:=Unit) 3 [0,1,2,6,7,8,30] (λg2=>[]) (λg2=>[(0,aJ iq m1.1),(1,aJ ((cR 8 0).getD 0) m1.2)]) (λg2=>a1 hp) (λg2=>?_) (λhm ae=>?_) (λhm ae=>?_)
 ·refine aO ?_;refine ag.bw 0 I (aj.bH h λb3 hC h=>eH 1 gO (gK hC) λht=>?_);refine dW pS (ch ?_);refine aj.bH h λm2 c6 h=>qL (γ:=Unit) 3 [0,1,2,6,7,8,30,59] (λg3=>[]) (λg3=>[(1,aJ ((cR 8 0).getD 0) m2)]) (λg3=>a1 hp) (λg3=>?_) (λhm ae=>?_) (λhm ae=>?_)
  ·refine aO ?_;refine ag.bw 0 I (aj.bH h λcd im h=>eH 1 gO (gK im) λeA=>?_);refine aO ?_;refine aj.bH h λm3 fZ h=>qL (γ:=Unit) 3 [0,1,2,6,7,8,10,11,30,59,62] (λg4=>[(72,J.of m3)]) (λg4=>[]) (λg4=>a1 hp) (λg4=>?_) (λhm ae=>?_) (λhm ae=>?_)
   ·refine an.next (y0 (γ:=Unit) h 3 [0,1,6,7,8] (λm4 g5=>[(10,J.of m4.1),(11,J.of m4.2.1)]) (λm4 g5=>[(0,aJ iq m4.2.2.1),(2,aJ kn m4.2.2.2.1)]) (λm4 g5=>a1 m4.2.2.2.2) (λm4 g5 h=>?_) (λhm ae h=>?_) (λhm ae h=>?_))
    ·refine aO ?_;exact an.bw 0 I (an.bw 2 I (an.rz (⟨⟨(m4.1==m4.2.1,m4.2.1==0,m4.2.2.2.1,m4.2.2.1,m4.2.2.2.2),h⟩,()⟩: {r // _}×_) (.cons_cons _ (.cons_cons _ (.cons _ (.refl _)))) I I (du I) (du I)))
    ·refine aO ?_;refine ag.bw 0 I (aj.bH h λcA lS h=>eH 1 gO (gK lS) λec=>?_);refine aO λaI cQ h=>?_;obtain⟨ast,aqF,aqG⟩:=aj.ex h;refine er [0,1,6,7,8,10,11,12] ?_;refine ay.xl mixed [3,7] [(0,81,J.of ab),(1,82,J.of m2),(2,83,J.of (ax ([1,1,2,7,5]:aa Int) aI)),(4,85,J.cN kn),(5,86,J.of m2),(6,87,J.of (ax ([1,1,2,7,5]:aa Int) aI))] ?_;refine gQ.md [] [0,1,2,4,5,6] [3] ⟨?_,trivial⟩;refine ir.of (ks:=[]) (λx:Subtype ast=>[(84,J.of x.1.1)]) (λx=>[]) (λx=>(aJ iq cA.2::aJ ((cR 8 0).getD 0) m2::aJ kn ai::a1 x.1.2)) (λ⟨b4,S9⟩=>?_) (λo a6 dW ji aF k=>?_)
     ·have h:=aqG b4 S9;refine gQ.md [2,1,0] [4,5,6] [7] ⟨ir.tail [6,5,4,3,2,1,0] ?_,trivial⟩;refine ag.dq (L2:=(aJ iq cA.2::aJ ((cR 8 0).getD 0) m2::aJ kn ai::a1 b4.2)) I (ag.le (E':=[(0,J.of ab),(1,J.cN kn),(6,J.of false),(7,J.of false),(8,J.cN ((cR 8 0).getD 0)),(10,J.of (0:Int)),(11,J.of (0:Int)),(12,J.of (ax ([1,1,2,7,5]:aa Int) aI)),(84,J.of b4.1),(85,J.cN kn),(86,J.of m2),(87,J.of (ax ([1,1,2,7,5]:aa Int) aI))]) .all (ag.bw 2 I (aj.bH h λdH qP h=>eH 1 aqH (agQ qP) λlD=>?_)));refine aO ?_;exact an.bw 2 I (an.bw 2 I (dU 0 (hm (b4.1,dH.1,cA.2,dH.2,b4.2) () h)))
     cases a6;refine ag.ek 3 0 I Ta (O3 aqF) I I ⟨ah (aF I),ah (aF I),ah (aF I),trivial⟩ I λ⟨⟨b4,S9⟩,_⟩=>ag.dr (ag.nil ?_);exact k ⟨b4,S9⟩
    refine aO ?_;refine y0 (γ:=Unit) h 3 [0,1,2,6,7,8,30,59,62,72,89] (λm5 g6=>[(10,J.of m5.1),(11,J.of m5.2.1)]) (λm5 g6=>[(2,aJ kn m5.2.2.1)]) (λm5 g6=>a1 m5.2.2.2) (λm5 g6 h=>?_) (λhm ae h=>?_) (λhm ae h=>?_)
    ·exact dU 0 (hm (m5.1,m5.2.1,cd.2,m5.2.2.1,m5.2.2.2) () h)
    ·refine aO ?_;refine ag.ek 3 0 I aqI (ae5 h) I I ⟨ah I,ah I,trivial⟩ I λ⟨⟨fH,h⟩,J2⟩=>ag.dr ?_;refine aO ?_;refine ag.bw 2 I (aj.bH h λhl tt h=>eH 1 aqJ (afy tt) λtS=>?_);refine aO ?_;exact an.bw 2 I (an.bw 2 I (dU 0 (hm (fH.1,hl.2.1,hl.2.2,fH.2) () h)))
    refine aO ?_;refine ag.ek 3 0 I aqK (ae3 h) I I ⟨ah I,ah I,trivial⟩ I λ⟨⟨hn,h⟩,I9⟩=>ag.dr ?_;refine aO ?_;refine ag.bw 2 I (aj.bH h λgv w2 h=>eH 1 aqL (afz w2) λacX=>?_);refine aO ?_;exact an.bw 2 I (an.bw 2 I (dU 0 (hm (hn.1,gv.2.1,gv.2.2,hn.2) () h)))
   ·have h:=fp ae fZ;exact go
   have h:=fq ae fZ;refine aO ?_;refine aA h λm6 TD h=>qL (γ:=Unit) 3 [0,1,2,6,7,8,10,11,30,59,62] (λg7=>[(72,J.of m6)]) (λg7=>[]) (λg7=>a1 hp) (λg7=>?_) (λhm ae=>?_) (λhm ae=>?_)
   ·exact go
   ·have h:=fp ae TD;exact go
   have h:=fq ae TD;exact go
  ·have h:=fp ae c6;exact go
  have h:=fq ae c6;exact go
 ·have h:=fp ae bR;refine ay.seq (aA h λiX w3 h=>aA h λbu c0 h=>ay.A9 1 3 (er [0,1,2,6,7,8,13,14,15,16,17,18,19,20,21,22,23,24,25,26,27,28,29,30] ?_));refine ay.ck 4 (aC 31 [] [] _::aC 32 [0] [] _::aC 33 [1] [] _::aC 34 [2] [2] _::aC 35 [] [] _::aC 36 [] [] _::aC 37 [5] [] _::aC 38 [6] [] _::aC 39 [7] [2] _::aC 40 [8] [] _::⟨some 41,[4,9],[0],[0],λ_=>J.of iX.1,λhd _=>aJ iq iX.2⟩::aC 42 [3,10] [] _::aC 43 [11] [] _::aC 44 [12] [] _::p2 9 [] 3 14 _::fz [13,14] [3] [3] (λhd=>aJ ((hd 14 0).getD 0) ((ax ai.bE bu).aX:bl))::[]) (dO ?_ h9) (λgw=>?_)
  ·intro hd E' L' aF av cc;exact ag.bw 0 (av 0 _ I I) (ag.lK (Lin:=[aJ iq bg.2]) (Lr:=L'.eraseIdx 0) gO (gK w3) ⟨ah (aF _ _ I),ah (aF _ _ I),trivial⟩ I λacY=>ag.nil (an.back 0 (av 0 _ I I) (an.fin (cX []) I I)))
  refine an.dq (L2:=(aJ iq iX.2::aJ ((cR 8 0).getD 0) aE.1::aJ kn ai::aJ ((gw 14 0).getD 0) ((ax ai.bE bu).aX:bl)::a1 hp)) I (e8 ?_);refine an.bw 3 I (aO ?_);refine aA h λm7 TE h=>qL (γ:=Unit) 4 [0,1,2,6,7,8,9,30,49] (λg8=>[]) (λg8=>[(0,aJ ((gw 14 0).getD 0) m7)]) (λg8=>a1 hp) (λg8=>?_) (λhm ae=>?_) (λhm ae=>?_)
  ·exact go
  ·have h:=fp ae TE;refine aA h λbp ev h=>er [0,1,2,6,7,8,9,13,14,15,16,17,18,19,20,21,22,23,24,25,26,27,28,29,30,31,32,33,34,35,36,37,38,39,40,41,42,43,44,45,46,47,48,49] ?_;refine ay.rT 4 (aC 50 [] [] _::aC 51 [0] [2] _::aC 52 [] [] _::aC 53 [2] [2] _::aC 54 [] [] _::fz [1,4] [0] [0] (λhd=>aJ ((gw 14 0).getD 0) bp)::aC 55 [] [] _::fz [3,5,6] [0] [0] (λhd=>aJ ((gw 14 0).getD 0) ({bp with fN:=aE.1.fN}:bl))::[]) (λxk=>?_);refine an.dq (L2:=(aJ ((gw 14 0).getD 0) ({bp with fN:=aE.1.fN}:bl)::aJ iq iX.2::aJ ((cR 8 0).getD 0) aE.1::aJ kn ai::a1 hp)) I (e8 ?_);exact go
  have h:=fq ae TE;exact go
 have h:=fq ae bR;exact go
def ag1{hp y Q}(h:PN hp y Q):yq prog (J.of y) [] ([]++a1 hp) (δ:= {r:(aL Cell) // Q r}×Unit) (λ_=>.bT []) (λd=>[]++a1 d.1.1):=by
 cases y with
 |nil=>exact h.elim
 |y3 a0 bX a2 a3=>exact yq.of aqM (λA W u hu=>alN hu) (aeD h)
 |xn a0 bX=>exact yq.of aqN (λA W u hu=>alO hu) (aeF h)
 |y4 a0 bX=>exact yq.of aqO (λA W u hu=>alP hu) (aeE h)
def VE{hp ab ai Q}(h:CE hp ab ai Q):BF prog 18 [J.of ab,J.of ai] hp Q:=by
 unfold CE at h;refine bN.of func18 I ntmps18 I λW A=>ay.block ?_;refine BE (σ:=(aL Cell)) (ε:=(Bool×(aL Cell))) (γ:=Unit) (δ:=Unit) h 0 [0,1] (λs1 g1=>[]) (λs1 g1=>[]) (λs1 g1=>a1 s1) (λaw=>Exit.exit 0) (λaw g1=>[(10,J.of aw.1)]) (λaw g1=>[]) (λaw g1=>a1 aw.2) () (λs1 R h g1=>?_) (λar h g1=>?_)
 ·refine ay.seq (b5 (cS ?_));refine aj.bH h λbA dn h=>aj.bH h λc1 dv h=>aj.bH h λao br h=>ag.fb (dL.obj 0 I (rA dv) Tb (OO br) I ⟨j2 (ah I) dn,trivial⟩) I I I ?_;refine go2 (λh=>?_) (λh=>?_)
  ·refine ag.RH 0 I (rA dv) I λavB TF=>bx (h0 (i:=0) (q:=0) (β:=gn) (γ:=gm) yH (ah I) I I) ?_;refine bx (qy (i:=1) underlying91 (ah I) I I) ?_;refine aO ?_;refine ag.Sv (Cell.oM c1.1 c1.2.1 c1.2.2) 2 2 TF I I I (ag.dq (L2:=(a1 s1)) (by rw[XQ (rA dv)];rfl) ?_);refine aO ?_;refine ag.RH 0 I (rA dv) I λzp tH=>bx (h0 (i:=0) (q:=0) (β:=gn) (γ:=gm) yH (ah I) I I) ?_;refine cS ?_;refine aj.bH h λaI cQ h=>bx (mo (i:=1) (k:=aI) (xs:=(c1.1.hM:aa gm)) underlying91 MK (ah I) (ah I) I (cK cQ)) ?_;refine dV (cg akA.fd) ?_;refine bx (qv (i:=1) (k:=aI) ((aQ.id gm).comp VF) (r:=(ax c1.1.hM aI).AX) ade (ah I) I (cK cQ).1 I I) ?_;refine dg ?_;refine ag.Sv (Cell.oM c1.1 c1.2.1 c1.2.2) 2 2 tH I I I (ag.dq (L2:=(a1 s1)) (by rw[XQ (rA dv)];rfl) ?_);refine aO ?_;refine ag.RH 0 I (rA dv) I λad1 BH=>bx (h0 (i:=0) (q:=0) (β:=gn) (γ:=gm) yH (ah I) I I) ?_;refine cS ?_;refine aj.bH h λbu c0 h=>bx (HR (i:=1) (xs:=(c1.1.hM:aa gm)) (m:=0) (n:=bu) underlying91 MK (ah I) I .none (.some (ah I)) I (cK c0).2 ⟨vn _,Nat.le_of_lt_succ (cK c0).1⟩) ?_;refine aj.bH h λbp ev h=>ag.an6 (i:=1) (n:=bu) (xs:=(c1.1.hM:aa gm)) (r:=bp) 31 I I (Nat.le_of_lt_succ (cK c0).1) (dy ev) ?_;refine aO ?_;refine ag.j3 (i:=0) (γ:=gm) (b':=({c1.1 with hM:=[]}:gn)) (os':=[(3,aP c1.2.1 bp.length c1.2.2)]) ((aQ.id gn).comp Kx) yH (ah I) (ah I) jo I I I I (aj.bH h λbQ hQ h=>ag.Sv (Cell.oM ({c1.1 with hM:=bp}:gn) c1.2.1 c1.2.2) 2 2 BH I I I ?_);refine ag.dq (L2:=(a1 bQ)) (by rw[<-dy hQ];rfl) ?_;refine ch (ay.fm (cS ?_));refine ag.asu 0 0 I (ag1 h) I I ⟨ah I,trivial⟩ I λ⟨⟨aE,h⟩,cH⟩=>?_;refine ag.dr (ag.nil ?_);exact an.mT (an.yo h () 0 I .all)
  exact an.uq h () 0 I (by simp) I .all
 exact an.lu (an.lv (an.nu (⟨⟨ar.2,h⟩,()⟩: {r // _}×_) (.refl _) I I))
def agT{hp Q}(h:Hr hp Q):lB prog 15 [] hp Q:=by
 unfold Hr at h;refine bN.of func15 I ntmps15 I λW A=>?_;refine aO ?_;refine aj.bH h λao br h=>eH 0 TG (PR br) λaw=>?_;refine ag.bw 0 I (aj.bH h λaE bZ h=>eH 1 adf (V9 bZ) λcH=>?_);refine ag.ek 1 0 I adg (WE (aj.hd h)) I I ⟨ah I,trivial⟩ I λ⟨⟨bg,h⟩,eJ⟩=>ag.dr ?_;refine aO λbp ev bk h=>?_;refine ag.ek 2 0 I Ta (O3 h) I I ⟨ah I,ah I,dd 1,trivial⟩ I λ⟨⟨bt,h⟩,ht⟩=>ag.dr ?_;refine aO ?_;refine ag.ek 2 0 I acj (VE h) I I ⟨ah I,dd 0,trivial⟩ I λ⟨⟨b3,h⟩,eA⟩=>ag.dr ?_;refine aO ?_;refine ag.ek 2 0 I Ta (O3 h) I I ⟨ah I,ah I,dd 1,trivial⟩ I λ⟨⟨cd,h⟩,ec⟩=>ag.dr ?_;refine aO ?_;refine aj.bH h λbA dn h=>aj.bH h λc1 dv h=>aj.bH h λcA lS h=>ag.xB (λhb=>dL.obj 2 I (rA (fe dv hb)) Tb (OO (fe lS hb)) I ⟨j2 (cf I hb) (fe dn hb),trivial⟩) I I I I I ?_;refine aO ?_;refine aj.bH h λb4 p3 h=>ag.xB (λhb=>dL.fS 2 I EG (CV (fe p3 hb)) ⟨cf I hb,trivial⟩) I I I I I (aO ?_);exact an.eG (⟨⟨((((bt.1==0)&&(cd.1==0))&&(cA==1))&&(b4==2),cd.2),h⟩,()⟩: {r // _}×_) (fO 2) I I (du I)
def aeQ{hp ab ai aR Q}(h:F6 hp ab ai aR Q):lB prog 6 [J.of ab,J.of ai,J.of aR] hp Q:=by
 unfold F6 at h;refine bN.of func6 I ntmps6 I λW A=>?_;refine aO ?_;refine aj.bH h λao br h=>eH 0 TG (PR br) λaw=>?_;refine ag.bw 0 I (aj.bH h λaE bZ h=>eH 1 adf (V9 bZ) λcH=>?_);refine cS ?_;refine aj.bH h λbg dS h=>eH 0 TG (PR dS) λeJ=>?_;refine aO λbk=>?_;obtain⟨asv,aqP,aqQ⟩:=aj.ex h;refine er [2,6,7,8] ?_;refine ay.xl mixed [1,3] [(0,21,J.of aE.1),(2,23,J.of aE.1)] ?_;refine gQ.md [] [0,2] [1] ⟨?_,trivial⟩;refine ir.of (ks:=[]) (λx:Subtype asv=>[(22,J.of x.1.1)]) (λx=>[]) (λx=>(aJ bk aE.1::aJ eJ bg::aJ aw aE.2::a1 x.1.2)) (λ⟨bt,Tc⟩=>?_) (λo a6 dW ji aF k=>?_)
 ·have h:=aqQ bt Tc;refine gQ.md [0] [2] [3] ⟨ir.tail [2,1,0] ?_,trivial⟩;refine ag.dq (L2:=(aJ bk aE.1::aJ eJ bg::aJ aw aE.2::a1 bt.2)) I (ag.le (E':=[(2,J.of aR),(6,J.of false),(7,J.cN bk),(8,J.cN eJ),(22,J.of bt.1),(23,J.of aE.1)]) .all (aj.bH h λb3 hC h=>eH 0 aqR (ag8 hC) λht=>?_));refine aO ?_;refine ag.bw 0 I (aj.bH h λcd im h=>eH 1 S3 (Pp im) λeA=>?_);refine ag.share (α:=cn) 1 26 I I (ag.rF (α:=me cn) (r:=[(⟨some cd⟩:me cn)]) underlying61 Bo Td I I (.cons (by simp) (Xl (ah I)) (.nil)) I λei=>?_);refine aO ?_;refine BE (σ:=Int×(aa (me cn))×cn×dx×(aL Cell)) (ε:=(Int×Bool×(aa (me cn))×cn×dx×(aL Cell))⊕(Int×Bool×Bool×Bool×Bool×(aa (me cn))×cn×dx×(aL Cell))) (γ:=(aD Nat×Nat)) (δ:=(aD Nat×Nat)) h 6 [2,6,7,8,9,10] (λs1 g1=>[(11,J.eq (aP g1.1 s1.2.1.length g1.2)),(12,J.of s1.1)]) (λs1 g1=>[(0,⟨g1.1,.row 38 s1.2.1 g1.2⟩),(1,aJ ht s1.2.2.1),(4,aJ eJ s1.2.2.2.1)]) (λs1 g1=>a1 s1.2.2.2.2) (λec=>Sum.elim (λec=>Exit.exit 0) (λec=>Exit.ret) ec) (λec g1=>Sum.elim (λec=>[(11,J.eq (aP g1.1 ec.2.2.1.length g1.2)),(12,J.of ec.1),(33,J.of ec.2.1)]) (λec=>[(11,J.eq (aP g1.1 ec.2.2.2.2.2.1.length g1.2)),(12,J.of ec.1),(13,J.of ec.2.1),(14,J.of ec.2.2.1),(33,J.of ec.2.2.2.1),(44,J.of ec.2.2.2.2.1)]) ec) (λec g1=>Sum.elim (λec=>[(0,⟨g1.1,.row 38 ec.2.2.1 g1.2⟩),(1,aJ ht ec.2.2.2.1),(4,aJ eJ ec.2.2.2.2.1)]) (λec=>[(0,⟨g1.1,.row 38 ec.2.2.2.2.2.1 g1.2⟩),(1,aJ ht ec.2.2.2.2.2.2.1),(4,aJ eJ ec.2.2.2.2.2.2.2.1)]) ec) (λec g1=>Sum.elim (λec=>a1 ec.2.2.2.2.2) (λec=>a1 ec.2.2.2.2.2.2.2.2) ec) (ei,1) (λs1 R h g1=>?_) (λar h g1=>?_)
  ·refine aO ?_;refine aj.bH h λcA lS h=>iU (λhb=>bj.Sc (z:=(s1.2.2.2.1:dx)) 4 31 I (Ty hb) I HJ (j4 abx (afp (fe lS hb)) ⟨ah I,trivial⟩)) ?_;refine go2 (λh=>?_) (λh=>?_)
   ·refine ag.bw 4 I (ag.bw 2 I (ag.qe (eD.ek 6 2 I aqS (ag0 h) I I ⟨ah I,ah I,ah I,trivial⟩) I I I λ⟨⟨b4,h⟩,lD⟩=>?_));refine ag.dr ?_;refine go2 (λh=>?_) (λh=>?_)
    ·exact an.bw 4 I (an.bw 4 I (an.bw 2 I (an.bw 4 I (an.uq h (g1.1,g1.2) 0 I (by simp) I .all))))
    refine aj.bH h λm1 bR h=>qL (γ:=(aD Nat×Nat)) 6 [2,6,7,8,9,10,12,13,14,33,44,45] (λg2=>[(11,J.eq (aP g2.1 m1.length g2.2))]) (λg2=>[(2,⟨g2.1,.row 38 m1 g2.2⟩)]) (λg2=>a1 b4.2.2.2.2) (λg2=>?_) (λhm ae=>?_) (λhm ae=>?_)
    ·refine aO ?_;exact an.bw 4 I (an.bw 4 I (an.bw 2 I (an.bw 4 I (an.yo h (g2.1,g2.2) 0 I .all))))
    ·have h:=fp ae bR;refine aO ?_;refine ag.bw 0 I (aA h λdH qP h=>eH 1 S3 (Pp qP) λJ2=>?_);refine ag.share (α:=cn) 1 48 I I (bx (yz (r:=[(⟨some dH⟩:me cn)]) underlying61 Bo Td I I (.cons (by simp) (Xl (ah I)) (.nil))) ?_);refine aA h λfH uA h=>iQ 3 underlying61 Bo Td uA λjU dR=>?_;refine dg (ag.nil ?_);refine an.bw 1 I ?_;cases h;exact dU 1 (hm (jU,dR))
    have h:=fq ae bR;refine ay.skip ?_;cases h;exact dU 0 (hm (g1.1,g1.2))
   exact an.uq h (g1.1,g1.2) 0 I (by simp) I .all
  rcases ar with ar|ar
  ·simp only[Sum.elim_inl]at h;refine aO ?_;refine bx (qy (i:=0) underlying61 (ah I) I I) ?_;refine aO λhl tt h=>?_;refine ag.ek 6 0 I acj (VE h) I I ⟨ah I,ah I,trivial⟩ I λ⟨⟨hn,h⟩,tS⟩=>ag.dr ?_;refine aO ?_;refine aj.bH h λaI cQ h=>bx (mo (i:=0) (k:=aI) (xs:=(ar.2.2.1:aa (me cn))) underlying61 Bo (ah I) (ah I) I (cK cQ)) ?_;refine bx (qv (i:=0) (k:=aI) (aQ.id (me cn)) (r:=(ax ar.2.2.1 aI)) Bo (ah I) I (cK cQ).1 I I) ?_;refine aj.bH h λbA dn h=>ag.ek 6 0 I aqT (agR h) I I ⟨ah I,YQ (ah I) dn,trivial⟩ I λ⟨⟨gv,h⟩,I9⟩=>ag.dr ?_;refine aO ?_;refine aj.bH h λcC e9 h=>aj.bH h λc1 dv h=>aj.bH h λiX w3 h=>ag.xB (λhb=>dL.obj 6 I (rA (fe dv hb)) Tb (OO (fe w3 hb)) I ⟨j2 (cf I hb) (fe e9 hb),trivial⟩) I I I I I ?_;refine aO ?_;refine aj.bH h λbu c0 h=>iU (λhb=>mo (i:=0) (k:=bu) (xs:=(ar.2.2.1:aa (me cn))) underlying61 Bo (cf I hb) (cf I hb) I (cK (fe c0 hb))) ?_;refine iU (λhb=>qv (i:=0) (k:=bu) (aQ.id (me cn)) (r:=(ax ar.2.2.1 bu)) Bo (cf I hb) I (cK (fe c0 hb)).1 I I) ?_;refine jv cY ?_;refine aj.bH h λgH p5 h=>ag.bw 4 I (ag.UD (γ:=Unit) h (λy=>J.of y.1) (λy g=>(aJ eJ y.2::⟨g1.1,.row 38 ar.2.2.1 g1.2⟩::aJ ht ar.2.2.2.1::⟨none,.dead⟩::aJ bk aE.1::aJ aw aE.2::a1 gv.2)) () I I I I I I (λhb hm=>by obtain⟨UE,TB,TC⟩:=hm;refine eD.map (λd=>(⟨UE,TC⟩,d)) (λ_=>rfl) ?_ (eD.ek 6 1 I aqU (agK TB) I I ?_);exact λ_=>rfl;exact⟨cf I hb,YQ (cf I hb) (fe p5 hb),cf I hb,trivial⟩) λrM acX h=>?_);refine aO ?_;refine ag.UD (γ:=Unit) h (λy=>J.of y.1) (λy g=>(aJ eJ rM.2::⟨g1.1,.row 38 ar.2.2.1 g1.2⟩::aJ ht ar.2.2.2.1::⟨none,.dead⟩::aJ bk aE.1::aJ aw aE.2::a1 y.2)) () I I I I I I (λhb hm=>by refine eD.to ?_ (eD.ek 6 0 I aqV (agT hm) I I ?_);exact λ_=>rfl;exact trivial) λy5 acY h=>?_;refine aO ?_;exact an.eG (⟨⟨(((gv.1&&(iX==hl))&&rM.1)&&y5.1,y5.2),h⟩,()⟩: {r // _}×_) (fO 6) I I (du I)
  simp only[Sum.elim_inr]at h;exact an.kF (an.ret (an.eG (⟨⟨(false,ar.2.2.2.2.2.2.2.2),h⟩,()⟩: {r // _}×_) (fO 6) I I (du I)))
 cases a6;refine ag.ek 3 0 I adg (WE aqP) I I ⟨ah (aF I),trivial⟩ I λ⟨⟨bt,Tc⟩,_⟩=>ag.dr (ag.nil ?_);exact k ⟨bt,Tc⟩
end Go.Proofs.YtppgfphgdogpeaaGreat
