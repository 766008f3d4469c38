/-
  Each function meets its functional program. Conditions: none.
-/
import Derived.Test.YtmnggbjcnoffeaaGreatMd
namespace Go.Proofs.YtmnggbjcnoffeaaGreat
open Go Gv
set_option linter.unusedVariables false
set_option linter.unusedSimpArgs false
set_option maxRecDepth 100000
set_option maxHeartbeats 2000000
theorem xQ {ab:List (BitVec 8)} {al:Int} {r:bm} (h:qd ab al=some r):bF Tryz.prog 15 [I.of (ab),I.of (al)] [] (δ:=Nat) (fun d=>I.eq (.pointer (some ⟨d,0,none⟩))) (fun d=> [⟨some d,.var (r:bm)⟩]):=by
 unfold qd at h
 refine bF.of Tryz.func15 rfl Tryz.ntmps15 rfl fun W A=> ?_
 refine aG ?_
 refine bp (eJ (Kn (.pointer none))) ?_
 refine bY ?_
 refine aD ?_
 refine aD ?_
 refine ba (gO Tryz.underlying22) ?_
 refine aD ?_
 refine bL yF ?_
 obtain⟨aB,bG,h⟩:=aA h
 refine bp (JV Tryz.underlying22 Gx (aa rfl) .none (.some (aa rfl)) bG) ?_
 refine g7 SU SV ({ (default:bm) with cK:=aB } :bm) (iu AZ .nil) ?_
 refine cL fun a8=> ?_
 refine aT ?_
 refine aV ?_
 refine ai.ret ?_
 refine ah.bt 0 rfl ?_
 obtain rfl:=aS h
 exact k9 a8
theorem OQ {ab:bm} {cb:Nat} {r:Bool} (h:A0 ab=some r):bF Tryz.prog 26 [I.eq (.pointer (some ⟨cb,0,none⟩))] [⟨some cb,.var (ab:bm)⟩] (δ:=Unit) (fun d=>I.of (r)) (fun d=> [⟨some cb,.var (ab:bm)⟩]):=by
 unfold A0 at h
 refine bF.of Tryz.func26 rfl Tryz.ntmps26 rfl fun W A=> ?_
 refine aG ?_
 refine aT ?_
 refine b2 ?_
 refine ai.draw mixed 10 [some 3,some 4,some 5,some 6,some 7,some 8,some 9,some 10,some 11,some 12] [[],[0],[1],[2],[],[4],[5],[6],[7],[3,8]] [.val _,.val _,.val _,.val _,.val _,.val _,.val _,.val _,.val _,.val _] [false,false,false,false,false,false,false,false,false,false] (by kernel_rfl) rfl rfl rfl (fun du=>⟨dW,H1 de,H1 (a1 yd),hl 0 xo bP,dW,H1 de,H1 (a1 EN),hl 0 AZ Cj,H1 (gO Tryz.underlying22),lN gr,trivial⟩) fun du=> ?_
 refine aT ?_
 refine aV ?_
 refine ai.ret ?_
 refine ah.bt 0 rfl ?_
 obtain rfl:=aS h
 exact k9 ()
theorem OD {ab:bw} {al:Int} {r:Bool} (h:AQ ab al=some r):b9 Tryz.prog 119 [I.of (ab),I.ptr al] (I.of (r)):=by
 unfold AQ at h
 refine b9.of Tryz.func119 rfl Tryz.ntmps119 rfl fun W A=> ?_
 refine aG ?_
 refine cL fun a8=> ?_
 refine aT ?_
 refine bY ?_
 refine ba (a1 nS) ?_
 refine c1 0 lv bP ?_
 refine ba (eG bP) ?_
 refine bL gP ?_
 refine aT ?_
 refine aV ?_
 refine ai.ret ?_
 obtain rfl:=aS h
 exact e8
theorem NT {ab:List bw} {al:bw→Option Bool} {r:Int} (h:wZ ab al=some r):b9 Tryz.prog 118 [I.of (ab),I.ue Tryz.prog al] (I.of (r)):=by
 unfold wZ at h
 refine b9.of Tryz.func118 rfl Tryz.ntmps118 rfl fun W A=> ?_
 refine aG ?_
 refine aT ?_
 refine b2 ?_
 refine aG ?_
 refine aD ?_
 refine ba (gO Tryz.underlying28) ?_
 refine aD ?_
 refine aV ?_
 refine ai.block ?_
 obtain⟨aE,ar,h⟩:=aA h
 refine la (γ:=Unit) (δ:=Unit) ar [0,1,7] (fun s1 ay=> [(4,I.of (0:Int)),(8,I.of (s1))]) (fun s1 ay=> []) (fun aM=>Sum.elim (fun aM=>Exit.exit 0) (fun aM=>Exit.ret) aM) (fun aM ay=>Sum.elim (fun aM=> [(4,I.of (0:Int)),(8,I.of (aM.1)),(9,I.of (aM.2))]) (fun aM=> [(4,I.of (aM.1)),(5,I.of (aM.2.1)),(8,I.of (aM.2.2.1)),(9,I.of (aM.2.2.2.1)),(16,I.of (aM.2.2.2.2))]) aM) (fun aM ay=>Sum.elim (fun aM=> []) (fun aM=> []) aM) () (fun s1 r h ay=> ?_) fun ay=> ?_
 ·clear ar
  refine aG ?_
  refine bL gr ?_
  refine b2 ?_
  refine dv h (fun h=>?_) fun h=>?_
  ·refine dE ?_
   refine ai.seq ?_
   refine ai.block ?_
   refine aG ?_
   refine aD ?_
   refine aT ?_
   refine bY ?_
   refine aD ?_
   refine aD ?_
   refine aD ?_
   obtain⟨bh,dF,h⟩:=aA h
   refine jB dF Tryz.underlying28 fX ?_
   refine ba (eG fX) ?_
   obtain⟨aB,bG,h⟩:=aA h
   refine bp (Bo (aa rfl) (aa rfl) bG) ?_
   refine aV ?_
   refine dv h (fun h=>?_) fun h=>?_
   ·refine aG ?_
    refine aD ?_
    refine aT ?_
    refine aV ?_
    refine ai.ret ?_
    refine ah.e4 ?_
    refine ah.ret ?_
    obtain rfl:=aS h
    exact hn () 0
   ·refine ai.skip ?_
    refine ah.fF ?_
    refine ah.next ?_
    refine ai.cO ?_
    refine bL ep ?_
    refine aD ?_
    refine ag.nil ?_
    obtain rfl:=aS h
    exact j7 () 0
  ·refine ai.exit ?_
   refine ah.exit ?_
   obtain rfl:=aS h
   exact hn () 0
 ·clear ar
  rcases aE with aE | aE
  ·simp only [Sum.elim_inl] at h
   refine ah.h4 ?_
   refine ah.next ?_
   refine aG ?_
   refine aT ?_
   refine aV ?_
   refine ai.ret ?_
   obtain rfl:=aS h
   exact e8
  ·simp only [Sum.elim_inr] at h
   refine ah.e4 ?_
   refine ah.ret ?_
   obtain rfl:=aS h
   exact e8
theorem Po {ab:bw} {r:Int × Int} (h:vm ab=some r):b9 Tryz.prog 83 [I.of (ab)] (I.eA [I.of (r.1),I.of (r.2)]):=by
 unfold vm at h
 refine b9.of Tryz.func83 rfl Tryz.ntmps83 rfl fun W A=> ?_
 refine aG ?_
 refine cL fun a8=> ?_
 refine aT ?_
 refine aT ?_
 refine bY ?_
 refine aT ?_
 refine aT ?_
 refine b2 ?_
 refine aG ?_
 refine ba (a1 lW) ?_
 refine c1 0 kg lF ?_
 refine ba (gO Tryz.underlying62) ?_
 refine aD ?_
 refine aV ?_
 refine ai.block ?_
 obtain⟨aE,ar,h⟩:=aA h
 refine la (γ:=Unit) (δ:=Unit) ar [0,1,2,3,9,10] (fun s1 ay=> [(4,I.of (s1.1)),(5,I.of (s1.2.1)),(11,I.of (s1.2.2))]) (fun s1 ay=> []) (fun aM=>Exit.exit 0) (fun aM ay=> [(4,I.of (aM.1)),(5,I.of (aM.2.1)),(11,I.of (aM.2.2.1)),(12,I.of (aM.2.2.2))]) (fun aM ay=> []) () (fun s1 r h ay=> ?_) fun ay=> ?_
 ·clear ar
  refine aG ?_
  refine bL gr ?_
  refine b2 ?_
  refine dv h (fun h=>?_) fun h=>?_
  ·refine dE ?_
   refine ai.seq ?_
   refine ai.block ?_
   refine aG ?_
   refine aD ?_
   obtain⟨bh,dF,h⟩:=aA h
   refine jB dF Tryz.underlying62 j4 ?_
   refine ba (eG j4) ?_
   refine dI jM fun bn=> ?_
   refine aT ?_
   refine cP 0 j4 ?_
   refine bY ?_
   refine ba (a1 yp) ?_
   refine c1 0 mo bP ?_
   refine aV ?_
   refine ai.block ?_
   refine aG ?_
   refine bL gP ?_
   refine aT ?_
   refine aV ?_
   obtain⟨bH,cM,h⟩:=aA h
   refine lb (γ:=Unit) [0,1,2,3,6,7,9,10,11,12,17,18] (fun bf=> [(4,I.of (bH.1)),(5,I.of (bH.2))]) (fun bf=> []) (fun bf=> ?_) (fun hm aj=> ?_) fun hm aj=> ?_
   ·clear cM
    refine ah.fF ?_
    refine ah.fF ?_
    refine ah.next ?_
    refine ai.cO ?_
    refine bL ep ?_
    refine aD ?_
    refine ag.nil ?_
    obtain rfl:=aS h
    exact j7 () 1
   ·have h:=ij aj cM
    refine ai.skip ?_
    obtain rfl:=aS h
    exact dZ 0 (hm ())
   ·have h:=ik aj cM
    refine aG ?_
    refine bL gP ?_
    refine aT ?_
    refine aV ?_
    obtain⟨cI,ek,h⟩:=aA h
    refine lb (γ:=Unit) [0,1,2,3,6,7,9,10,11,12,17,18,20] (fun bJ=> [(4,I.of (cI.1)),(5,I.of (cI.2))]) (fun bJ=> []) (fun bJ=> ?_) (fun hm aj=> ?_) fun hm aj=> ?_
    ·clear ek
     obtain rfl:=aS h
     exact dZ 0 (hm ())
    ·have h:=ij aj ek
     refine ai.cO ?_
     refine aD ?_
     refine bL BX ?_
     refine aD ?_
     refine aT ?_
     refine aT ?_
     refine ag.nil ?_
     obtain rfl:=aS h
     exact dZ 0 (hm ())
    ·have h:=ik aj ek
     refine ai.cO ?_
     refine aT ?_
     refine ag.nil ?_
     obtain rfl:=aS h
     exact dZ 0 (hm ())
  ·refine ai.exit ?_
   refine ah.exit ?_
   obtain rfl:=aS h
   exact hn () 0
 ·clear ar
  refine ah.h4 ?_
  refine ah.next ?_
  refine aG ?_
  refine aD ?_
  refine aD ?_
  refine aT ?_
  refine aT ?_
  refine aV ?_
  refine ai.ret ?_
  obtain rfl:=aS h
  exact MM
theorem PJ {hp:aI Cell} {Q:Ref × (aI Cell)→Prop} (h:Ba hp Q):bF Tryz.prog 84 [] ([] ++ aY hp) (δ:= {r:Ref × (aI Cell) // Q r} × Unit) (fun d=>I.of (d.1.1.1)) (fun d=> [] ++ aY d.1.1.2):=by
 unfold Ba at h
 refine bF.of Tryz.func84 rfl Tryz.ntmps84 rfl fun W A=> ?_
 refine aG ?_
 refine bp (eJ (nK)) ?_
 refine bY ?_
 refine ag.BH (α:=Vector az 4) (β:=Int) 0 rfl (Cell.mK ([]:List ((Vector az 4) × Int))) (fun _=>rfl) rfl fun cR qQ=> ?_
 replace h:=ao.pA h cR qQ
 refine g7 SW SX { ng:=(⟨some cR.1⟩:eV):lS } (iu xg .nil) ?_
 refine ag.wb 0 rfl (Cell.wc ({ ng:=(⟨some cR.1⟩:eV):lS })) (fun _=>rfl) (aa rfl) rfl fun cy uf=> ?_
 replace h:=ao.pA h cy uf
 refine aT ?_
 refine aV ?_
 refine ai.ret ?_
 exact ah.ez (⟨⟨((some cy.1:Ref),cy.2),h⟩,()⟩: {r // _} × _) (.refl _) rfl rfl (df rfl)
theorem OE {ab:e3} {al:Int} {r:Bool} (h:AR ab al=some r):b9 Tryz.prog 121 [I.of (ab),I.ptr al] (I.of (r)):=by
 unfold AR at h
 refine b9.of Tryz.func121 rfl Tryz.ntmps121 rfl fun W A=> ?_
 refine aG ?_
 refine cL fun a8=> ?_
 refine aT ?_
 refine bY ?_
 refine ba (a1 JW) ?_
 refine c1 0 ow bP ?_
 refine ba (eG bP) ?_
 refine bL gP ?_
 refine aT ?_
 refine aV ?_
 refine ai.ret ?_
 obtain rfl:=aS h
 exact e8
theorem NU {ab:List e3} {al:e3→Option Bool} {r:Int} (h:w0 ab al=some r):b9 Tryz.prog 120 [I.of (ab),I.ue Tryz.prog al] (I.of (r)):=by
 unfold w0 at h
 refine b9.of Tryz.func120 rfl Tryz.ntmps120 rfl fun W A=> ?_
 refine aG ?_
 refine aT ?_
 refine b2 ?_
 refine aG ?_
 refine aD ?_
 refine ba (gO Tryz.underlying24) ?_
 refine aD ?_
 refine aV ?_
 refine ai.block ?_
 obtain⟨aE,ar,h⟩:=aA h
 refine la (γ:=Unit) (δ:=Unit) ar [0,1,7] (fun s1 ay=> [(4,I.of (0:Int)),(8,I.of (s1))]) (fun s1 ay=> []) (fun aM=>Sum.elim (fun aM=>Exit.exit 0) (fun aM=>Exit.ret) aM) (fun aM ay=>Sum.elim (fun aM=> [(4,I.of (0:Int)),(8,I.of (aM.1)),(9,I.of (aM.2))]) (fun aM=> [(4,I.of (aM.1)),(5,I.of (aM.2.1)),(8,I.of (aM.2.2.1)),(9,I.of (aM.2.2.2.1)),(16,I.of (aM.2.2.2.2))]) aM) (fun aM ay=>Sum.elim (fun aM=> []) (fun aM=> []) aM) () (fun s1 r h ay=> ?_) fun ay=> ?_
 ·clear ar
  refine aG ?_
  refine bL gr ?_
  refine b2 ?_
  refine dv h (fun h=>?_) fun h=>?_
  ·refine dE ?_
   refine ai.seq ?_
   refine ai.block ?_
   refine aG ?_
   refine aD ?_
   refine aT ?_
   refine bY ?_
   refine aD ?_
   refine aD ?_
   refine aD ?_
   obtain⟨bh,dF,h⟩:=aA h
   refine jB dF Tryz.underlying24 tA ?_
   refine ba (eG tA) ?_
   obtain⟨aB,bG,h⟩:=aA h
   refine bp (Bo (aa rfl) (aa rfl) bG) ?_
   refine aV ?_
   refine dv h (fun h=>?_) fun h=>?_
   ·refine aG ?_
    refine aD ?_
    refine aT ?_
    refine aV ?_
    refine ai.ret ?_
    refine ah.e4 ?_
    refine ah.ret ?_
    obtain rfl:=aS h
    exact hn () 0
   ·refine ai.skip ?_
    refine ah.fF ?_
    refine ah.next ?_
    refine ai.cO ?_
    refine bL ep ?_
    refine aD ?_
    refine ag.nil ?_
    obtain rfl:=aS h
    exact j7 () 0
  ·refine ai.exit ?_
   refine ah.exit ?_
   obtain rfl:=aS h
   exact hn () 0
 ·clear ar
  rcases aE with aE | aE
  ·simp only [Sum.elim_inl] at h
   refine ah.h4 ?_
   refine ah.next ?_
   refine aG ?_
   refine aT ?_
   refine aV ?_
   refine ai.ret ?_
   obtain rfl:=aS h
   exact e8
  ·simp only [Sum.elim_inr] at h
   refine ah.e4 ?_
   refine ah.ret ?_
   obtain rfl:=aS h
   exact e8
end Go.Proofs.YtmnggbjcnoffeaaGreat
namespace Go.Proofs.YtmnggbjcnoffeaaGreat
open Go Gv
set_option linter.unusedVariables false
set_option linter.unusedSimpArgs false
set_option maxRecDepth 100000
set_option maxHeartbeats 2000000
theorem OZ {ab:aZ} {r:cG} (h:DU ab=some r):bF Tryz.prog 86 [I.of (ab)] [] (δ:=Nat × (Option Nat × Nat)) (fun d=>I.eq (.pointer (some ⟨d.1,0,none⟩))) (fun d=> [⟨some d.1,.bU (({ r with cK:= [] } :cG):cG) [(10,a5 d.2.1 (r.cK).length d.2.2)]⟩,⟨d.2.1,.row 52 (r.cK:List aH) d.2.2⟩]):=by
 unfold DU at h
 refine bF.of Tryz.func86 rfl Tryz.ntmps86 rfl fun W A=> ?_
 refine aG ?_
 refine cL fun a8=> ?_
 refine bp (eJ (nK)) ?_
 refine bY ?_
 refine cS 0 hC ?_
 refine bp (pz (b:=({ (default:cG) with oy:=ab } :cG)) [10] QW rfl SY SZ (.cons Dv rfl (aa rfl) rfl (by rfl) (.nil))) ?_
 refine ag.own (α:=aH) 52 ?_
 refine ag.U1 (aa rfl) rfl fun bn=> ?_
 refine aT ?_
 refine aV ?_
 refine ai.ret ?_
 refine ah.CE (γ:=aH) (b':=(({ ({ (default:cG) with oy:=ab } :cG) with cK:= [] } :cG):cG)) ((aO.id cG).comp u7) 0 0 rfl rfl rfl ?_
 refine ah.bt 1 rfl ?_
 refine ah.bt 1 rfl ?_
 obtain rfl:=aS h
 exact k9 (bn,(none,0))
theorem IF {ab:Int} {al:Int} {r:Int} (h:sZ ab al=some r):b9 Tryz.prog 25 [I.of (ab),I.of (al)] (I.of (r)):=by
 unfold sZ at h
 refine b9.of Tryz.func25 rfl Tryz.ntmps25 rfl fun W A=> ?_
 refine aG ?_
 refine aT ?_
 refine b2 ?_
 refine aG ?_
 refine aD ?_
 refine bL gr ?_
 refine aV ?_
 refine dv h (fun h=>?_) fun h=>?_
 ·refine aG ?_
  refine aT ?_
  refine aV ?_
  refine ai.ret ?_
  refine ah.ret ?_
  obtain rfl:=aS h
  exact e8
 ·refine dE ?_
  refine aG ?_
  refine aD ?_
  refine aD ?_
  obtain⟨aB,bG,h⟩:=aA h
  refine bp (Fu (aa rfl) (aa rfl) (Em bG)) ?_
  refine aD ?_
  refine bL ep ?_
  refine aD ?_
  obtain⟨aK,cF,h⟩:=aA h
  refine bp (Fu (aa rfl) (aa rfl) (Em cF)) ?_
  refine aT ?_
  refine aV ?_
  refine ai.ret ?_
  obtain rfl:=aS h
  exact e8
theorem H7 {ab:bm} {r:Bool} (h:u4 ab=some r):b9 Tryz.prog 26 [I.ptr ab] (I.of (r)):=by
 unfold u4 at h
 refine b9.of Tryz.func26 rfl Tryz.ntmps26 rfl fun W A=> ?_
 refine aG ?_
 refine aT ?_
 refine b2 ?_
 refine ai.draw mixed 10 [some 3,some 4,some 5,some 6,some 7,some 8,some 9,some 10,some 11,some 12] [[],[0],[1],[2],[],[4],[5],[6],[7],[3,8]] [.val _,.val _,.val _,.val _,.val _,.val _,.val _,.val _,.val _,.val _] [false,false,false,false,false,false,false,false,false,false] (by kernel_rfl) rfl rfl rfl (fun du=>⟨dW,H1 yq,ug xo yd,H1 (eG bP),dW,H1 yq,ug AZ EN,H1 (eG Cj),H1 (gO Tryz.underlying22),lN gr,trivial⟩) fun du=> ?_
 refine aT ?_
 refine aV ?_
 refine ai.ret ?_
 obtain rfl:=aS h
 exact e8
theorem Pp {ab:aZ} {al:Int} {r:Int} (h:xJ ab al=some r):b9 Tryz.prog 108 [I.of (ab),I.of (al)] (I.of (r)):=by
 unfold xJ at h
 refine b9.of Tryz.func108 rfl Tryz.ntmps108 rfl fun W A=> ?_
 refine aG ?_
 refine cL fun a8=> ?_
 refine aT ?_
 refine b2 ?_
 refine aG ?_
 refine ba (a1 BI) ?_
 refine c1 0 AE yV ?_
 refine ba (gO Tryz.underlying24) ?_
 refine aD ?_
 refine aV ?_
 refine ai.block ?_
 obtain⟨aE,ar,h⟩:=aA h
 refine la (γ:=Unit) (δ:=Unit) ar [0,1,2,8,9] (fun s1 ay=> [(4,I.of (0:Int)),(10,I.of (s1))]) (fun s1 ay=> []) (fun aM=>Sum.elim (fun aM=>Exit.exit 0) (fun aM=>Exit.ret) aM) (fun aM ay=>Sum.elim (fun aM=> [(4,I.of (0:Int)),(10,I.of (aM.1)),(11,I.of (aM.2))]) (fun aM=> [(4,I.of (aM.1)),(10,I.of (aM.2.1)),(11,I.of (aM.2.2.1)),(17,I.of (aM.2.2.2))]) aM) (fun aM ay=>Sum.elim (fun aM=> []) (fun aM=> []) aM) () (fun s1 r h ay=> ?_) fun ay=> ?_
 ·clear ar
  refine aG ?_
  refine bL gr ?_
  refine b2 ?_
  refine dv h (fun h=>?_) fun h=>?_
  ·refine dE ?_
   refine ai.seq ?_
   refine ai.block ?_
   refine aG ?_
   obtain⟨bh,dF,h⟩:=aA h
   refine jB dF Tryz.underlying24 tA ?_
   refine ba (eG tA) ?_
   refine dI oE fun bn=> ?_
   refine cP 0 tA ?_
   refine bY ?_
   refine ba (a1 JW) ?_
   refine c1 0 ow bP ?_
   refine aD ?_
   refine bL gP ?_
   refine aV ?_
   refine dv h (fun h=>?_) fun h=>?_
   ·refine aG ?_
    refine ba (a1 JX) ?_
    refine c1 0 ou bP ?_
    refine aT ?_
    refine aV ?_
    refine ai.ret ?_
    refine ah.e4 ?_
    refine ah.ret ?_
    obtain rfl:=aS h
    exact hn () 1
   ·refine ai.skip ?_
    refine ah.fF ?_
    refine ah.next ?_
    refine ai.cO ?_
    refine bL ep ?_
    refine aD ?_
    refine ag.nil ?_
    obtain rfl:=aS h
    exact j7 () 1
  ·refine ai.exit ?_
   refine ah.exit ?_
   obtain rfl:=aS h
   exact hn () 0
 ·clear ar
  rcases aE with aE | aE
  ·simp only [Sum.elim_inl] at h
   refine ah.h4 ?_
   refine ah.next ?_
   refine aG ?_
   refine aT ?_
   refine aV ?_
   refine ai.ret ?_
   obtain rfl:=aS h
   exact e8
  ·simp only [Sum.elim_inr] at h
   refine ah.e4 ?_
   refine ah.ret ?_
   obtain rfl:=aS h
   exact e8
theorem D6 {ab:az} {al:Int} {r:az} (h:s0 ab al=some r):b9 Tryz.prog 46 [I.of (ab),I.of (al)] (I.of (r)):=by
 unfold s0 at h
 refine b9.of Tryz.func46 rfl Tryz.ntmps46 rfl fun W A=> ?_
 refine aG ?_
 refine cL fun a8=> ?_
 refine dI er fun bn=> ?_
 refine b2 ?_
 refine ai.block ?_
 refine aG ?_
 refine aD ?_
 refine bL nX ?_
 refine aT ?_
 refine aV ?_
 refine dv h (fun h=>?_) fun h=>?_
 ·refine aG ?_
  refine cS 1 cw ?_
  refine cP 0 cw ?_
  refine aV ?_
  refine ai.ret ?_
  refine ah.e4 ?_
  refine ah.ret ?_
  obtain rfl:=aS h
  exact ah.je rfl (ho 0 cw)
 ·refine aG ?_
  refine aD ?_
  refine bL nX ?_
  refine aT ?_
  refine aV ?_
  refine dv h (fun h=>?_) fun h=>?_
  ·refine aG ?_
   refine ba (a1 oB) ?_
   refine c1 1 js gh ?_
   refine aD ?_
   refine bL kn ?_
   refine ba (iZ Tryz.underlying3 Tryz.underlying130) ?_
   refine bp (nP (hj 1 rfl) (aa rfl)) ?_
   refine bp (ti (aa rfl) (hj 1 rfl)) ?_
   obtain⟨bD,dG,h⟩:=aA h
   refine dd dG (tj (aa rfl) (aa rfl)) ?_
   refine ba (a1 kK) ?_
   refine c1 1 eM gh ?_
   refine g7 g1 er { eb:=bD,bV:=ab.bV:az } (iu js (iu eM .nil)) ?_
   refine cP 0 cw ?_
   refine aV ?_
   refine ai.ret ?_
   refine ah.e4 ?_
   refine ah.ret ?_
   obtain rfl:=aS h
   exact ah.je rfl (ho 0 cw)
  ·refine aG ?_
   refine aD ?_
   refine bL yG ?_
   refine aT ?_
   refine aV ?_
   refine dv h (fun h=>?_) fun h=>?_
   ·refine aG ?_
    refine g7 g1 er (default:az) .nil ?_
    refine cP 0 cw ?_
    refine aV ?_
    refine ai.ret ?_
    refine ah.e4 ?_
    refine ah.ret ?_
    obtain rfl:=aS h
    exact ah.je rfl (ho 0 cw)
   ·refine ai.skip ?_
    refine ah.fF ?_
    refine ah.next ?_
    refine aG ?_
    refine ba (a1 kK) ?_
    refine c1 1 eM gh ?_
    refine aD ?_
    refine ba (iZ Tryz.underlying3 Tryz.underlying130) ?_
    refine bp (nP (hj 1 rfl) (aa rfl)) ?_
    refine bp (ti (aa rfl) (hj 1 rfl)) ?_
    refine bL tj ?_
    obtain⟨dp,hG,h⟩:=aA h
    refine dd hG (cA (b:=({ (default:az) with bV:=ab.bV &&& (((1#64) <<< (BitVec.ofInt 64 al).toNat) - (1#64)) } :az)) rfl g1 er (.cons eM rfl (aa rfl) rfl (.nil))) ?_
    refine cP 0 cw ?_
    refine aV ?_
    refine ai.ret ?_
    obtain rfl:=aS h
    exact ah.je rfl (ho 0 cw)
theorem PD {ab:Int} {al:Int} {r:az} (h:A9 ab al=some r):b9 Tryz.prog 109 [I.of (ab),I.of (al)] (I.of (r)):=by
 unfold A9 at h
 refine b9.of Tryz.func109 rfl Tryz.ntmps109 rfl fun W A=> ?_
 refine aG ?_
 refine dI er fun a8=> ?_
 refine bY ?_
 refine aD ?_
 refine ba (iZ Tryz.underlying3 Tryz.underlying130) ?_
 refine bp (nP (hj 1 rfl) (aa rfl)) ?_
 refine bp (ti (aa rfl) (hj 1 rfl)) ?_
 refine aD ?_
 refine aD ?_
 refine bL kn ?_
 refine ba (iZ Tryz.underlying3 Tryz.underlying130) ?_
 refine bp (nP (hj 1 rfl) (aa rfl)) ?_
 refine bp (ti (aa rfl) (hj 1 rfl)) ?_
 obtain⟨bD,dG,h⟩:=aA h
 refine dd dG (ti (aa rfl) (aa rfl)) ?_
 refine g7 g1 er ({ (default:az) with bV:=bD } :az) (iu eM .nil) ?_
 refine cP 0 cw ?_
 refine aV ?_
 refine ai.ret ?_
 obtain rfl:=aS h
 exact ah.je rfl (ho 0 cw)
theorem O5 {ab:aZ} {al:Int} {r:dB} (h:xC ab al=some r):b9 Tryz.prog 76 [I.of (ab),I.of (al)] (I.of (r)):=by
 unfold xC at h
 refine b9.of Tryz.func76 rfl Tryz.ntmps76 rfl fun W A=> ?_
 refine aG ?_
 refine cL fun a8=> ?_
 refine dI pH fun bn=> ?_
 refine b2 ?_
 refine aG ?_
 refine ba (a1 Ko) ?_
 refine c1 1 H3 F0 ?_
 refine ba (gO Tryz.underlying27) ?_
 refine aD ?_
 refine aV ?_
 refine ai.block ?_
 obtain⟨aE,ar,h⟩:=aA h
 refine la (γ:=Unit) (δ:=Unit) ar [0,1,2,4,8,9] (fun s1 ay=> [(10,I.of (s1))]) (fun s1 ay=> []) (fun aM=>Sum.elim (fun aM=>Exit.exit 0) (fun aM=>Exit.ret) aM) (fun aM ay=>Sum.elim (fun aM=> [(10,I.of (aM.1)),(11,I.of (aM.2))]) (fun aM=> [(10,I.of (aM.1)),(11,I.of (aM.2.1)),(17,I.of (aM.2.2.1))]) aM) (fun aM ay=>Sum.elim (fun aM=> []) (fun aM=> [(0,⟨some bn,.var (aM.2.2.2:dB)⟩)]) aM) () (fun s1 r h ay=> ?_) fun ay=> ?_
 ·clear ar
  refine aG ?_
  refine bL gr ?_
  refine b2 ?_
  refine dv h (fun h=>?_) fun h=>?_
  ·refine dE ?_
   refine ai.seq ?_
   refine ai.block ?_
   refine aG ?_
   obtain⟨bh,dF,h⟩:=aA h
   refine jB dF Tryz.underlying27 oF ?_
   refine ba (eG oF) ?_
   refine dI pH fun c0=> ?_
   refine cP 0 oF ?_
   refine bY ?_
   refine ba (a1 Rs) ?_
   refine c1 0 sP bP ?_
   refine aD ?_
   refine bL gP ?_
   refine aV ?_
   refine dv h (fun h=>?_) fun h=>?_
   ·refine aG ?_
    refine cS 0 oF ?_
    refine cP 1 oF ?_
    refine aV ?_
    refine ai.ret ?_
    refine ah.e4 ?_
    refine ah.ret ?_
    obtain rfl:=aS h
    exact hn () 1
   ·refine ai.skip ?_
    refine ah.fF ?_
    refine ah.next ?_
    refine ai.cO ?_
    refine bL ep ?_
    refine aD ?_
    refine ag.nil ?_
    obtain rfl:=aS h
    exact j7 () 1
  ·refine ai.exit ?_
   refine ah.exit ?_
   obtain rfl:=aS h
   exact hn () 0
 ·clear ar
  rcases aE with aE | aE
  ·simp only [Sum.elim_inl] at h
   refine ah.h4 ?_
   refine ah.next ?_
   refine aG ?_
   refine g7 tB pH (default:dB) .nil ?_
   refine cP 0 oF ?_
   refine aV ?_
   refine ai.ret ?_
   obtain rfl:=aS h
   exact ah.je rfl (ho 0 oF)
  ·simp only [Sum.elim_inr] at h
   refine ah.e4 ?_
   refine ah.ret ?_
   obtain rfl:=aS h
   exact ah.je rfl (ho 0 oF)
end Go.Proofs.YtmnggbjcnoffeaaGreat
namespace Go.Proofs.YtmnggbjcnoffeaaGreat
open Go Gv
set_option linter.unusedVariables false
set_option linter.unusedSimpArgs false
set_option maxRecDepth 100000
set_option maxHeartbeats 2000000
theorem AS {hp:aI Cell} {ab:Ref} {al:Int} {r:Ref} (h:nJ hp ab al=some r):bF Tryz.prog 77 [I.of (ab),I.of (al)] ([] ++ aY hp) (δ:=Unit) (fun _=>I.of (r)) (fun _=> [] ++ aY hp):=by
 unfold nJ at h
 refine bF.of Tryz.func77 rfl Tryz.ntmps77 rfl fun W A=> ?_
 refine aG ?_
 refine bp (eJ (nK)) ?_
 refine b2 ?_
 refine aG ?_
 refine aD ?_
 refine bp (lT Tryz.underlying60 (aa rfl)) ?_
 refine aV ?_
 refine dv h (fun h=>?_) fun h=>?_
 ·refine aG ?_
  refine bp (eJ (nK)) ?_
  refine aV ?_
  refine ai.ret ?_
  refine ah.ret ?_
  obtain rfl:=aS h
  exact ah.ez () (.refl _) rfl rfl (df rfl)
 ·refine dE ?_
  refine aG ?_
  refine aD ?_
  obtain⟨bS,cU,h⟩:=aA h
  refine bp (de (dO (aa rfl) cU)) ?_
  refine ba (a1 EO) ?_
  obtain⟨bl,dw,h⟩:=aA h
  refine bp (e7 ((aO.id hL).comp AA) (r:=bl.nO) BY (aa rfl) (ei (n:=0) rfl (mA dw) rfl) rfl rfl) ?_
  refine aD ?_
  obtain⟨bT,eW,h⟩:=aA h
  obtain⟨b7,e9,h⟩:=aA h
  obtain⟨bD,dG,h⟩:=aA h
  refine bp (tk (r:=bD) Tryz.underlying141 wy U2 (kI (aa rfl) eW) (aa rfl) (ei (n:=0) rfl (vJ e9) rfl) (aS dG)) ?_
  refine aT ?_
  refine aV ?_
  refine ai.ret ?_
  obtain rfl:=aS h
  exact ah.ez () (.refl _) rfl rfl (df rfl)
theorem A8 {ab:bo} {r:(Vector az 4)} (h:rE ab=some r):b9 Tryz.prog 232 [I.of (ab)] (I.of (r)):=by
 unfold rE at h
 refine b9.of Tryz.func232 rfl Tryz.ntmps232 rfl fun W A=> ?_
 refine aG ?_
 refine cL fun a8=> ?_
 refine dI L7 fun bn=> ?_
 refine bY ?_
 refine dI L7 fun c0=> ?_
 refine b2 ?_
 refine aG ?_
 refine ba (a1 nT) ?_
 refine c1 2 m4 nj ?_
 refine ba (a1 nT) ?_
 refine c1 2 m4 nj ?_
 refine ba (gO Tryz.underlying47) ?_
 refine bL yF ?_
 obtain⟨aB,bG,h⟩:=aA h
 refine bp (JV Tryz.underlying47 hD (aa rfl) .none (.some (aa rfl)) bG) ?_
 refine ba (gO Tryz.underlying47) ?_
 refine aD ?_
 refine aV ?_
 refine ai.block ?_
 obtain⟨aE,ar,h⟩:=aA h
 refine la (γ:=Unit) (δ:=Unit) ar [0,1,2,3,12,13] (fun s1 ay=> [(14,I.of (s1.1))]) (fun s1 ay=> [(0,⟨some c0,.var (s1.2:Vector az 4)⟩)]) (fun aM=>Exit.exit 0) (fun aM ay=> [(14,I.of (aM.1)),(15,I.of (aM.2.1))]) (fun aM ay=> [(0,⟨some c0,.var (aM.2.2:Vector az 4)⟩)]) () (fun s1 r h ay=> ?_) fun ay=> ?_
 ·clear ar
  refine aG ?_
  refine bL gr ?_
  refine b2 ?_
  refine dv h (fun h=>?_) fun h=>?_
  ·refine dE ?_
   refine ai.seq ?_
   refine ai.block ?_
   refine aG ?_
   refine aD ?_
   obtain⟨bh,dF,h⟩:=aA h
   refine jB dF Tryz.underlying47 hD ?_
   refine ba (eG hD) ?_
   refine dI l1 fun iB=> ?_
   refine aT ?_
   refine cP 0 hD ?_
   refine aV ?_
   refine ai.cO ?_
   refine aD ?_
   refine ba (a1 Sc) ?_
   refine c1 0 sL cw ?_
   obtain⟨cC,dV,h⟩:=aA h
   refine bp (oN (k:=cC) F1 (aa rfl) (aa rfl) (eU dV)) ?_
   refine wz 1 ((aO.id (Vector az 4)).comp (aO.idx (α:=az) 4 cC (eU dV).1)) cw ?_
   refine ag.nil ?_
   refine ah.fF ?_
   refine ah.next ?_
   refine ai.cO ?_
   refine bL ep ?_
   refine aD ?_
   refine ag.nil ?_
   obtain rfl:=aS h
   exact j7 () 1
  ·refine ai.exit ?_
   refine ah.exit ?_
   obtain rfl:=aS h
   exact hn () 0
 ·clear ar
  refine ah.h4 ?_
  refine ah.next ?_
  refine aG ?_
  refine cS 0 qG ?_
  refine cP 1 qG ?_
  refine aV ?_
  refine ai.ret ?_
  obtain rfl:=aS h
  exact ah.je rfl (ho 1 qG)
theorem Ih {hp:aI Cell} {ab:Ref} {al:Vector az 4} {r:Int × Bool} (h:ve hp ab al=some r):bF Tryz.prog 231 [I.of (ab),I.of (al)] ([] ++ aY hp) (δ:=Unit) (fun _=>I.eA [I.of (r.1),I.of (r.2)]) (fun _=> [] ++ aY hp):=by
 unfold ve at h
 refine bF.of Tryz.func231 rfl Tryz.ntmps231 rfl fun W A=> ?_
 refine aG ?_
 refine cL fun a8=> ?_
 refine aT ?_
 refine aT ?_
 refine b2 ?_
 refine aG ?_
 refine aD ?_
 refine bp (lT Tryz.underlying163 (aa rfl)) ?_
 refine aV ?_
 refine dv h (fun h=>?_) fun h=>?_
 ·refine aG ?_
  refine aT ?_
  refine aT ?_
  refine aV ?_
  refine ai.ret ?_
  refine ah.ret ?_
  obtain rfl:=aS h
  exact ah.jJ () (.cons _ (.refl _)) rfl rfl (df rfl) (df rfl)
 ·refine dE ?_
  refine ai.seq ?_
  obtain⟨bS,cU,h⟩:=aA h
  obtain⟨bl,dw,h⟩:=aA h
  obtain⟨bT,eW,h⟩:=aA h
  obtain⟨b7,e9,h⟩:=aA h
  obtain⟨bD,dG,h⟩:=aA h
  refine ai.draw mixed 10 [some 11,some 12,some 13,some 14,some 15,some 16,some 10,some 17,some 18,some 6] [[],[0],[1],[2],[],[3,4],[5],[6],[6],[7]] [.val _,.val _,.val _,.val _,.val _,.val _,.val _,.val _,.val _,.val _] [false,false,false,false,false,false,false,false,false,false] (by kernel_rfl) rfl rfl rfl (fun du=>⟨dW,eO fun av an=>de (dO (aa rfl) cU),H1 (a1 Bv),eO fun av an=>e7 ((aO.id lS).comp xg) (r:=bl.ng) yH (aa rfl) (jx (fun i e q=>an i e q rfl) (ei (n:=1) rfl (rP dw) rfl)) rfl rfl,hr 0 qG,eO fun av an=>Ez (r:=bD) Tryz.underlying222 BZ kP (kI (aa rfl) eW) (aa rfl) (jx (fun i e q=>an i e q rfl) (ei (n:=1) rfl (pC e9) rfl)) (aS dG),dW,wA,wA,Hw,trivial⟩) fun du=> ?_
  refine aT ?_
  refine bY ?_
  refine aD ?_
  refine aD ?_
  refine aT ?_
  refine aT ?_
  refine aV ?_
  refine ai.ret ?_
  obtain rfl:=aS h
  exact ah.jJ () (.cons _ (.refl _)) rfl rfl (df rfl) (df rfl)
theorem Ob {ab:gm} {al:Vector az 4} {r:(Vector az 4) × az} (h:AF ab al=some r):b9 Tryz.prog 241 [I.of (ab),I.of (al)] (I.eA [I.of (r.1),I.of (r.2)]):=by
 unfold AF at h
 refine b9.of Tryz.func241 rfl Tryz.ntmps241 rfl fun W A=> ?_
 refine aG ?_
 refine cL fun a8=> ?_
 refine cL fun bn=> ?_
 refine dI vV fun c0=> ?_
 refine dI er fun iB=> ?_
 refine bY ?_
 refine ba (a1 Bw) ?_
 refine c1 3 w4 bP ?_
 obtain⟨bh,dF,h⟩:=aA h
 refine bp (oN (k:=bh) F1 (aa rfl) (aa rfl) (eU dF)) ?_
 refine c1 2 ((aO.id (Vector az 4)).comp (aO.idx (α:=az) 4 bh (eU dF).1)) cw ?_
 refine dI er fun Hx=> ?_
 refine cP 0 cw ?_
 refine bY ?_
 refine ba (a1 Bw) ?_
 refine c1 4 w4 bP ?_
 refine g7 g1 er (default:az) .nil ?_
 obtain⟨cC,dV,h⟩:=aA h
 refine bp (oN (k:=cC) F1 (aa rfl) (aa rfl) (eU dV)) ?_
 refine wz 3 ((aO.id (Vector az 4)).comp (aO.idx (α:=az) 4 cC (eU dV).1)) cw ?_
 refine b2 ?_
 refine ai.draw mixed 3 [some 15,some 16,none] [[],[],[0]] [.val _,.val _,.kQ 2 (.var ((iJ al cC (default:az)):Vector az 4))] [false,false,true] (by kernel_rfl) rfl rfl rfl (fun du=>⟨hr 3 qG,hr 0 cw,⟨_,_,rfl,fun av an=>yr (i:=2) (aO.id (Vector az 4)) (v:=((iJ al cC (default:az)):Vector az 4)) (b':=((iJ al cC (default:az)):Vector az 4)) j0 (aa rfl) (aa rfl) (an _ _ rfl) rfl rfl⟩,trivial⟩) fun du=> ?_
 refine cP 1 cw ?_
 refine aV ?_
 refine ai.ret ?_
 obtain rfl:=aS h
 exact ah.Ck rfl (ho 2 j0) (ho 1 cw)
theorem Ir {ab:Int} {r:Int} (h:vn ab=some r):b9 Tryz.prog 205 [I.of (ab)] (I.of (r)):=by
 unfold vn at h
 refine b9.of Tryz.func205 rfl Tryz.ntmps205 rfl fun W A=> ?_
 refine aG ?_
 refine aT ?_
 refine bY ?_
 refine aD ?_
 refine bL BX ?_
 refine bL yF ?_
 refine aT ?_
 refine aV ?_
 refine ai.ret ?_
 obtain rfl:=aS h
 exact e8
theorem Ix {ab:az} {al:Int} {r:az} (h:vp ab al=some r):b9 Tryz.prog 204 [I.of (ab),I.of (al)] (I.of (r)):=by
 unfold vp at h
 refine b9.of Tryz.func204 rfl Tryz.ntmps204 rfl fun W A=> ?_
 refine aG ?_
 refine cL fun a8=> ?_
 refine dI er fun bn=> ?_
 refine b2 ?_
 refine ai.block ?_
 refine aG ?_
 refine aD ?_
 refine bL yG ?_
 refine aT ?_
 refine aV ?_
 refine dv h (fun h=>?_) fun h=>?_
 ·refine aG ?_
  refine cS 1 cw ?_
  refine cP 0 cw ?_
  refine aV ?_
  refine ai.ret ?_
  refine ah.e4 ?_
  refine ah.ret ?_
  obtain rfl:=aS h
  exact ah.je rfl (ho 0 cw)
 ·refine aG ?_
  refine aD ?_
  refine bL nX ?_
  refine aT ?_
  refine aV ?_
  refine dv h (fun h=>?_) fun h=>?_
  ·refine aG ?_
   refine ba (a1 oB) ?_
   refine c1 1 js gh ?_
   refine aD ?_
   refine bL kn ?_
   refine ba (iZ Tryz.underlying3 Tryz.underlying130) ?_
   refine bL ye ?_
   obtain⟨bD,dG,h⟩:=aA h
   refine dd dG (cA (b:=({ (default:az) with bV:=ab.eb >>> (BitVec.ofInt 64 (bu (al - 64))).toNat } :az)) rfl g1 er (.cons eM rfl (aa rfl) rfl (.nil))) ?_
   refine cP 0 cw ?_
   refine aV ?_
   refine ai.ret ?_
   refine ah.e4 ?_
   refine ah.ret ?_
   obtain rfl:=aS h
   exact ah.je rfl (ho 0 cw)
  ·refine ai.skip ?_
   refine ah.fF ?_
   refine ah.next ?_
   refine aG ?_
   refine ba (a1 oB) ?_
   refine c1 1 js gh ?_
   refine aD ?_
   refine ba (iZ Tryz.underlying3 Tryz.underlying130) ?_
   refine bL ye ?_
   refine ba (a1 kK) ?_
   refine c1 1 eM gh ?_
   refine aD ?_
   refine ba (iZ Tryz.underlying3 Tryz.underlying130) ?_
   refine bL ye ?_
   refine ba (a1 oB) ?_
   refine c1 1 js gh ?_
   refine aD ?_
   refine bL kn ?_
   refine ba (iZ Tryz.underlying3 Tryz.underlying130) ?_
   refine bL nP ?_
   obtain⟨dp,hG,h⟩:=aA h
   refine dd hG (vK (aa rfl) (aa rfl)) ?_
   obtain⟨ga,ld,h⟩:=aA h
   refine dd ld (cA (b:= { eb:=ab.eb >>> (BitVec.ofInt 64 al).toNat,bV:=dp:az }) rfl g1 er (.cons js rfl (aa rfl) rfl (.cons eM rfl (aa rfl) rfl (.nil)))) ?_
   refine cP 0 cw ?_
   refine aV ?_
   refine ai.ret ?_
   obtain rfl:=aS h
   exact ah.je rfl (ho 0 cw)
theorem PK {ab:az} {al:az} {r:az} (h:xR ab al=some r):b9 Tryz.prog 193 [I.of (ab),I.of (al)] (I.of (r)):=by
 unfold xR at h
 refine b9.of Tryz.func193 rfl Tryz.ntmps193 rfl fun W A=> ?_
 refine aG ?_
 refine cL fun a8=> ?_
 refine cL fun bn=> ?_
 refine dI er fun c0=> ?_
 refine bY ?_
 refine ba (a1 oB) ?_
 refine c1 2 js gh ?_
 refine ba (a1 oB) ?_
 refine c1 1 js gh ?_
 refine bL JY ?_
 refine ba (a1 kK) ?_
 refine c1 2 eM gh ?_
 refine ba (a1 kK) ?_
 refine c1 1 eM gh ?_
 refine bL JY ?_
 obtain⟨bD,dG,h⟩:=aA h
 refine dd dG (cA (b:= { eb:=ab.eb ^^^ al.eb,bV:=ab.bV ^^^ al.bV:az }) rfl g1 er (.cons js rfl (aa rfl) rfl (.cons eM rfl (aa rfl) rfl (.nil)))) ?_
 refine cP 0 cw ?_
 refine aV ?_
 refine ai.ret ?_
 obtain rfl:=aS h
 exact ah.je rfl (ho 0 cw)
end Go.Proofs.YtmnggbjcnoffeaaGreat
namespace Go.Proofs.YtmnggbjcnoffeaaGreat
open Go Gv
set_option linter.unusedVariables false
set_option linter.unusedSimpArgs false
set_option maxRecDepth 100000
set_option maxHeartbeats 2000000
theorem PL {ab:az} {al:az} {r:az} (h:Bb ab al=some r):b9 Tryz.prog 148 [I.of (ab),I.of (al)] (I.of (r)):=by
 unfold Bb at h
 refine b9.of Tryz.func148 rfl Tryz.ntmps148 rfl fun W A=> ?_
 refine aG ?_
 refine cL fun a8=> ?_
 refine cL fun bn=> ?_
 refine dI er fun c0=> ?_
 refine bY ?_
 refine ba (a1 oB) ?_
 refine c1 2 js gh ?_
 refine ba (a1 oB) ?_
 refine c1 1 js gh ?_
 refine bL tj ?_
 refine ba (a1 kK) ?_
 refine c1 2 eM gh ?_
 refine ba (a1 kK) ?_
 refine c1 1 eM gh ?_
 refine bL tj ?_
 obtain⟨bD,dG,h⟩:=aA h
 refine dd dG (cA (b:= { eb:=ab.eb &&& al.eb,bV:=ab.bV &&& al.bV:az }) rfl g1 er (.cons js rfl (aa rfl) rfl (.cons eM rfl (aa rfl) rfl (.nil)))) ?_
 refine cP 0 cw ?_
 refine aV ?_
 refine ai.ret ?_
 obtain rfl:=aS h
 exact ah.je rfl (ho 0 cw)
theorem DY {ab:Ref} {al:az} {aP:Int} {r:Int × az × Ref} (h:xD ab al aP=some r):b9 Tryz.prog 250 [I.of (ab),I.of (al),I.of (aP)] (I.gi 255 [I.ptr r.1,I.ptr r.2.1,I.ptr r.2.2]):=by
 unfold xD at h
 refine b9.of Tryz.func250 rfl Tryz.ntmps250 rfl fun W A=> ?_
 refine aG ?_
 refine cL fun a8=> ?_
 refine cL fun bn=> ?_
 refine cL fun c0=> ?_
 refine bp (eJ (Kn .nilFunc)) ?_
 refine bY ?_
 refine ag.share (α:=Int) 0 5 rfl rfl ?_
 refine ag.share (α:=az) 1 4 rfl rfl ?_
 refine ag.share (α:=Ref) 2 3 rfl rfl ?_
 refine bp (S0 (f:=255) (τs:= [I.ptr aP,I.ptr al,I.ptr ab]) ⟨aa rfl,aa rfl,aa rfl,trivial⟩) ?_
 refine aT ?_
 refine aV ?_
 refine ai.ret ?_
 obtain rfl:=aS h
 exact e8
theorem N2 {ab:List b6} {r:(List b6)} (h:Ay ab=some r):b9 Tryz.prog 161 [I.of (ab)] (I.of (r)):=by
 unfold Ay at h
 refine b9.of Tryz.func161 rfl Tryz.ntmps161 rfl fun W A=> ?_
 refine aG ?_
 refine bp (eJ (look_nil (α:=b6))) ?_
 refine b2 ?_
 refine aG ?_
 refine aD ?_
 refine bp (K1 Tryz.underlying47 (aa rfl)) ?_
 refine aV ?_
 refine ai.K2 (aa rfl) (fun ak=> ?_) ?_
 ·subst ak; replace h:=I2 h; subst h
  have h:some ([]:List b6)=some []:=rfl
  refine aG ?_
  refine bp (eJ (look_nil (α:=b6))) ?_
  refine aV ?_
  refine ai.ret ?_
  refine ah.ret ?_
  replace h:=aS h
  clear h
  exact e8
 ·refine dE ?_
  refine aG ?_
  refine ag.pN (α:=b6) (r:=([]:List b6)) Tryz.underlying47 hD l1 rfl rfl (.nil) rfl fun hV=> ?_
  refine aD ?_
  obtain⟨aB,bG,h⟩:=aA h
  refine n8 0 Tryz.underlying47 hD l1 bG fun lG fG=> ?_
  refine aT ?_
  refine aV ?_
  refine ai.ret ?_
  refine ah.m7 (α:=b6) 0 [2,7] ⟨rfl,rfl,trivial⟩ rfl ?_
  obtain rfl:=aS h
  exact e8
theorem N3 {ab:List az} {r:(List az)} (h:Az ab=some r):b9 Tryz.prog 162 [I.of (ab)] (I.of (r)):=by
 unfold Az at h
 refine b9.of Tryz.func162 rfl Tryz.ntmps162 rfl fun W A=> ?_
 refine aG ?_
 refine bp (eJ (look_nil (α:=az))) ?_
 refine b2 ?_
 refine aG ?_
 refine aD ?_
 refine bp (K1 Tryz.underlying48 (aa rfl)) ?_
 refine aV ?_
 refine ai.K2 (aa rfl) (fun ak=> ?_) ?_
 ·subst ak; replace h:=I2 h; subst h
  have h:some ([]:List az)=some []:=rfl
  refine aG ?_
  refine bp (eJ (look_nil (α:=az))) ?_
  refine aV ?_
  refine ai.ret ?_
  refine ah.ret ?_
  replace h:=aS h
  clear h
  exact e8
 ·refine dE ?_
  refine aG ?_
  refine ag.pN (α:=az) (r:=([]:List az)) Tryz.underlying48 cw er rfl rfl (.nil) rfl fun hV=> ?_
  refine aD ?_
  obtain⟨aB,bG,h⟩:=aA h
  refine n8 0 Tryz.underlying48 cw er bG fun lG fG=> ?_
  refine aT ?_
  refine aV ?_
  refine ai.ret ?_
  refine ah.m7 (α:=az) 0 [2,7] ⟨rfl,rfl,trivial⟩ rfl ?_
  obtain rfl:=aS h
  exact e8
theorem N4 {ab:List b6} {al:List b6} {r:Bool} (h:w3 ab al=some r):b9 Tryz.prog 270 [I.of (ab),I.of (al)] (I.of (r)):=by
 unfold w3 at h
 refine b9.of Tryz.func270 rfl Tryz.ntmps270 rfl fun W A=> ?_
 refine aG ?_
 refine aT ?_
 refine b2 ?_
 refine aG ?_
 refine aD ?_
 refine ba (gO Tryz.underlying47) ?_
 refine aD ?_
 refine ba (gO Tryz.underlying47) ?_
 refine bL oG ?_
 refine aV ?_
 refine dv h (fun h=>?_) fun h=>?_
 ·refine aG ?_
  refine aT ?_
  refine aV ?_
  refine ai.ret ?_
  refine ah.ret ?_
  obtain rfl:=aS h
  exact e8
 ·refine dE ?_
  refine ai.seq ?_
  refine aG ?_
  refine aD ?_
  refine ba (gO Tryz.underlying47) ?_
  refine aD ?_
  refine aV ?_
  refine ai.block ?_
  obtain⟨aE,ar,h⟩:=aA h
  refine la (γ:=Unit) (δ:=Unit) ar [0,1,4,10,12] (fun s1 ay=> [(13,I.of (s1))]) (fun s1 ay=> []) (fun aM=>Sum.elim (fun aM=>Exit.exit 0) (fun aM=>Exit.ret) aM) (fun aM ay=>Sum.elim (fun aM=> [(13,I.of (aM.1)),(14,I.of (aM.2))]) (fun aM=> [(5,I.of (aM.1)),(13,I.of (aM.2.1)),(14,I.of (aM.2.2.1)),(24,I.of (aM.2.2.2))]) aM) (fun aM ay=>Sum.elim (fun aM=> []) (fun aM=> []) aM) () (fun s1 r h ay=> ?_) fun ay=> ?_
  ·clear ar
   refine aG ?_
   refine bL gr ?_
   refine b2 ?_
   refine dv h (fun h=>?_) fun h=>?_
   ·refine dE ?_
    refine ai.seq ?_
    refine ai.block ?_
    refine aG ?_
    refine aD ?_
    refine aT ?_
    refine b2 ?_
    obtain⟨bh,dF,h⟩:=aA h
    obtain⟨cC,dV,h⟩:=aA h
    refine ai.draw mixed 9 [some 16,some 17,some 18,some 19,some 20,some 21,some 22,some 23,some 24] [[],[],[0,1],[2],[],[],[4,5],[6],[3,7]] [.val _,.val _,.val _,.val _,.val _,.val _,.val _,.val _,.val _] [false,false,false,false,false,false,false,false,false] (by kernel_rfl) rfl rfl rfl (fun du=>⟨dW,dW,qR dF Tryz.underlying47 hD,H1 (eG hD),dW,dW,qR dV Tryz.underlying47 hD,H1 (eG hD),lN (S1 S2 rfl S3 rfl),trivial⟩) fun du=> ?_
    refine aV ?_
    refine dv h (fun h=>?_) fun h=>?_
    ·refine aG ?_
     refine aT ?_
     refine aV ?_
     refine ai.ret ?_
     refine ah.e4 ?_
     refine ah.ret ?_
     obtain rfl:=aS h
     exact hn () 0
    ·refine ai.skip ?_
     refine ah.fF ?_
     refine ah.next ?_
     refine ai.cO ?_
     refine bL ep ?_
     refine aD ?_
     refine ag.nil ?_
     obtain rfl:=aS h
     exact j7 () 0
   ·refine ai.exit ?_
    refine ah.exit ?_
    obtain rfl:=aS h
    exact hn () 0
  ·clear ar
   rcases aE with aE | aE
   ·simp only [Sum.elim_inl] at h
    refine ah.h4 ?_
    refine ah.next ?_
    refine aG ?_
    refine aT ?_
    refine aV ?_
    refine ai.ret ?_
    obtain rfl:=aS h
    exact e8
   ·simp only [Sum.elim_inr] at h
    refine ah.e4 ?_
    refine ah.ret ?_
    obtain rfl:=aS h
    exact e8
theorem Ii {hp:aI Cell} {ab:Ref} {r:Int} (h:vf hp ab=some r):bF Tryz.prog 43 [I.of (ab)] ([] ++ aY hp) (δ:=Unit) (fun _=>I.of (r)) (fun _=> [] ++ aY hp):=by
 unfold vf at h
 refine bF.of Tryz.func43 rfl Tryz.ntmps43 rfl fun W A=> ?_
 refine aG ?_
 refine aT ?_
 refine b2 ?_
 refine aG ?_
 refine aD ?_
 refine bp (lT Tryz.underlying37 (aa rfl)) ?_
 refine aV ?_
 refine dv h (fun h=>?_) fun h=>?_
 ·refine aG ?_
  refine aT ?_
  refine aV ?_
  refine ai.ret ?_
  refine ah.ret ?_
  obtain rfl:=aS h
  exact ah.ez () (.refl _) rfl rfl (df rfl)
 ·refine dE ?_
  refine aG ?_
  refine aD ?_
  obtain⟨bS,cU,h⟩:=aA h
  refine bp (de (dO (aa rfl) cU)) ?_
  refine ba (a1 yf) ?_
  obtain⟨bl,dw,h⟩:=aA h
  refine bp (e7 ((aO.id gn).comp u0) (r:=bl.jH) vW (aa rfl) (ei (n:=0) rfl (lX dw) rfl) rfl rfl) ?_
  obtain⟨bT,eW,h⟩:=aA h
  obtain⟨b7,e9,h⟩:=aA h
  refine bp (Rt Tryz.underlying133 (kI (aa rfl) eW) (ei (n:=0) rfl (rQ e9) rfl)) ?_
  refine aT ?_
  refine aV ?_
  refine ai.ret ?_
  obtain rfl:=aS h
  exact ah.ez () (.refl _) rfl rfl (df rfl)
theorem O0 {hp:aI Cell} {ab:Ref} {al:Vector az 4} {aP:Int} {r:Bool × (aI Cell)} (h:A4 hp ab al aP=some r):bF Tryz.prog 233 [I.of (ab),I.of (al),I.of (aP)] ([] ++ aY hp) (δ:=Unit) (fun d=>I.of (r.1)) (fun d=> [] ++ aY r.2):=by
 unfold A4 at h
 refine bF.of Tryz.func233 rfl Tryz.ntmps233 rfl fun W A=> ?_
 refine aG ?_
 refine cL fun a8=> ?_
 refine aT ?_
 refine b2 ?_
 refine aG ?_
 refine aD ?_
 refine bp (lT Tryz.underlying163 (aa rfl)) ?_
 refine aV ?_
 refine dv h (fun h=>?_) fun h=>?_
 ·refine aG ?_
  refine aT ?_
  refine aV ?_
  refine ai.ret ?_
  refine ah.ret ?_
  obtain rfl:=aS h
  exact ah.ez () (.cons _ (.refl _)) rfl rfl (df rfl)
 ·refine dE ?_
  refine ai.seq ?_
  refine ai.seq ?_
  obtain⟨bS,cU,h⟩:=aA h
  obtain⟨bl,dw,h⟩:=aA h
  obtain⟨bT,eW,h⟩:=aA h
  obtain⟨b7,e9,h⟩:=aA h
  obtain⟨bD,dG,h⟩:=aA h
  refine ai.draw mixed 10 [some 12,some 13,some 14,some 15,some 16,some 17,some 11,some 18,some 19,some 7] [[],[0],[1],[2],[],[3,4],[5],[6],[6],[7]] [.val _,.val _,.val _,.val _,.val _,.val _,.val _,.val _,.val _,.val _] [false,false,false,false,false,false,false,false,false,false] (by kernel_rfl) rfl rfl rfl (fun du=>⟨dW,eO fun av an=>de (dO (aa rfl) cU),H1 (a1 Bv),eO fun av an=>e7 ((aO.id lS).comp xg) (r:=bl.ng) yH (aa rfl) (jx (fun i e q=>an i e q rfl) (ei (n:=1) rfl (rP dw) rfl)) rfl rfl,hr 0 qG,eO fun av an=>Ez (r:=bD) Tryz.underlying222 BZ kP (kI (aa rfl) eW) (aa rfl) (jx (fun i e q=>an i e q rfl) (ei (n:=1) rfl (pC e9) rfl)) (aS dG),dW,wA,wA,Hw,trivial⟩) fun du=> ?_
  refine aT ?_
  refine bY ?_
  refine aD ?_
  refine aV ?_
  refine dv h (fun h=>?_) fun h=>?_
  ·refine aG ?_
   refine aT ?_
   refine aV ?_
   refine ai.ret ?_
   refine ah.ret ?_
   obtain rfl:=aS h
   exact ah.ez () (.cons _ (.refl _)) rfl rfl (df rfl)
  ·refine dE ?_
   refine ai.seq ?_
   refine ai.draw mixed 6 [some 21,some 22,some 23,some 24,some 25,some 26] [[],[0],[1],[2],[],[]] [.val _,.val _,.val _,.val _,.val _,.val _] [false,false,false,false,false,false] (by kernel_rfl) rfl rfl rfl (fun mP=>⟨dW,eO fun av an=>de (dO (aa rfl) cU),H1 (a1 Bv),eO fun av an=>e7 ((aO.id lS).comp xg) (r:=bl.ng) yH (aa rfl) (jx (fun i e q=>an i e q rfl) (ei (n:=1) rfl (rP dw) rfl)) rfl rfl,hr 0 qG,dW,trivial⟩) fun mP=> ?_
   obtain⟨cd,ir,h⟩:=aA h
   refine ag.B0 (k':=Cell.mK (fo b7 al aP)) 1 rfl (by first | exact .inl rfl | exact .inr rfl) Tryz.underlying222 BZ (kI (aa rfl) eW) (aa rfl) (aa rfl) (pC e9) rfl rfl rfl (aS ir) ?_
   refine bY ?_
   refine aT ?_
   refine aV ?_
   refine ai.ret ?_
   obtain rfl:=aS h
   exact ah.ez () (.cons _ (.refl _)) rfl rfl (df rfl)
end Go.Proofs.YtmnggbjcnoffeaaGreat
namespace Go.Proofs.YtmnggbjcnoffeaaGreat
open Go Gv
set_option linter.unusedVariables false
set_option linter.unusedSimpArgs false
set_option maxRecDepth 100000
set_option maxHeartbeats 2000000
theorem OF {hp:aI Cell} {ab:jG} {al:bo} {r:Int × Bool} (h:xp hp ab al=some r):bF Tryz.prog 227 [I.of (ab),I.of (al)] ([] ++ aY hp) (δ:=Unit) (fun _=>I.eA [I.of (r.1),I.of (r.2)]) (fun _=> [] ++ aY hp):=by
 unfold xp at h
 refine bF.of Tryz.func227 rfl Tryz.ntmps227 rfl fun W A=> ?_
 refine aG ?_
 refine cL fun a8=> ?_
 refine cL fun bn=> ?_
 refine aT ?_
 refine aT ?_
 refine b2 ?_
 obtain⟨aB,bG,h⟩:=aA h
 obtain⟨aK,cF,h⟩:=aA h
 refine jh [0,1,2,3] ?_
 refine ai.pI 2 mixed (bb 6 [] [] _ :: bb 7 (0 :: []) (1 :: []) _ :: bb 8 [] (0 :: []) _ :: bb 9 (2 :: []) [] _ :: ⟨some 10,(1 :: 3 :: []),[],[],fun _=>I.eA [I.of (aK.1),I.of (aK.2)],fun _ _=>⟨none,.dead⟩⟩ :: bb 11 (4 :: []) [] _ :: bb 12 (4 :: []) [] _ :: bb 4 (5 :: []) [] _ :: bb 5 (6 :: []) [] _ :: []) _ (0 :: 1 :: 2 :: 3 :: []) rfl rfl (by kernel_rfl) (by kernel_rfl) ⟨cl.q (e6 (a1 EP)),cl.q (mQ 1 AT B1),cl.q (nq 0 fH),cl.q (ca fun hd E' av aw an=>lz B2 (A8 bG) ⟨aa (aw _ _ rfl),trivial⟩),?_,cl.q (ca fun hd E' av aw an=>lC (aa (aw _ _ rfl)) rfl),cl.q (ca fun hd E' av aw an=>lC (aa (aw _ _ rfl)) rfl),cl.q (ca fun hd E' av aw an=>eJ (aa (aw _ _ rfl))),cl.q (ca fun hd E' av aw an=>eJ (aa (aw _ _ rfl))),trivial⟩ fun en=> ?_
 ·intro hd E' av aw an cX
  refine ag.gW (eP.gZ 2 (cX.trans rfl) K3 (Ih cF) ⟨aa (aw _ _ rfl),aa (aw _ _ rfl),trivial⟩) rfl rfl rfl ?_
  refine ag.nil ?_
  exact ah.fin (ee []) rfl rfl
 refine ah.dT (L2:=(⟨some bn,.var (al:bo)⟩ :: ⟨some a8,.var (ab:jG)⟩ :: aY hp)) rfl ?_
 refine jS [0,1,2,3,4,5,6,7,8,9,10,11,12] ?_
 refine ah.next ?_
 refine ai.ret ?_
 obtain rfl:=aS h
 exact ah.jJ () (.cons _ (.cons _ (.refl _))) rfl rfl (df rfl) (df rfl)
theorem Dx {ab:gm} {al:bo} {r:(Vector az 4) × az × Int} (h:sI ab al=some r):b9 Tryz.prog 239 [I.of (ab),I.of (al)] (I.eA [I.of (r.1),I.of (r.2.1),I.of (r.2.2)]):=by
 unfold sI at h
 refine b9.of Tryz.func239 rfl Tryz.ntmps239 rfl fun W A=> ?_
 refine aG ?_
 refine cL fun a8=> ?_
 refine cL fun bn=> ?_
 refine dI vV fun c0=> ?_
 refine dI er fun iB=> ?_
 refine aT ?_
 refine b2 ?_
 obtain⟨aB,bG,h⟩:=aA h
 obtain⟨aK,cF,h⟩:=aA h
 refine ai.draw mixed 10 [some 10,some 11,some 12,some 13,some 9,some 14,some 15,some 7,some 8,none] [[],[],[1],[0,2],[3],[4],[4],[],[],[5,7]] [.val _,.val _,.val _,.val _,.val _,.val _,.val _,.new (.var (default:Vector az 4)),.new (.var (default:az)),.lH 7 (.var (aK.1:Vector az 4))] [false,false,false,false,false,false,false,false,false,true] (by kernel_rfl) rfl rfl rfl (fun du=>⟨hr 3 B3,hr 2 fH,iM B2 (A8 bG),iM S4 (Ob cF),dW,wA,wA,Bp vV,Bp er,⟨rfl,_,rfl,fun av q hq=>yr (i:=q) (aO.id (Vector az 4)) (v:=(aK.1:Vector az 4)) (b':=(aK.1:Vector az 4)) j0 (aa rfl) (aa rfl) hq rfl rfl⟩,trivial⟩) fun du=> ?_
 refine cP 1 cw ?_
 refine b2 ?_
 refine aG ?_
 refine ba (a1 Bw) ?_
 refine c1 5 w4 bP ?_
 refine ba (a1 nT) ?_
 refine c1 4 m4 nj ?_
 refine ba (gO Tryz.underlying47) ?_
 refine bL nX ?_
 refine aV ?_
 refine dv h (fun h=>?_) fun h=>?_
 ·refine ai.seq ?_
  refine ai.draw mixed 3 [some 22,some 23,none] [[],[],[0]] [.val _,.val _,.kQ 3 (.var (aK.1:Vector az 4))] [false,false,true] (by kernel_rfl) rfl rfl rfl (fun mP=>⟨hr 0 j0,hr 1 cw,⟨_,_,rfl,fun av an=>yr (i:=3) (aO.id (Vector az 4)) (v:=(aK.1:Vector az 4)) (b':=(aK.1:Vector az 4)) j0 (aa rfl) (aa rfl) (an _ _ rfl) rfl rfl⟩,trivial⟩) fun mP=> ?_
  refine cP 2 cw ?_
  refine aT ?_
  refine aV ?_
  refine ai.ret ?_
  refine ah.ret ?_
  obtain rfl:=aS h
  exact ah.L8 rfl (ho 3 j0) (ho 2 cw) (tS rfl)
 ·refine dE ?_
  refine ai.seq ?_
  obtain⟨bh,dF,h⟩:=aA h
  refine ai.draw mixed 11 [some 24,some 25,some 26,some 27,some 28,some 29,some 30,some 31,some 32,none,none] [[],[],[],[2],[],[4],[3,5],[6],[7],[0],[1]] [.val _,.val _,.val _,.val _,.val _,.val _,.val _,.val _,.val _,.kQ 3 (.var (aK.1:Vector az 4)),.kQ 2 (.var (aK.2:az))] [false,false,false,false,false,false,false,false,false,true,true] (by kernel_rfl) rfl rfl rfl (fun Wa=>⟨hr 0 j0,hr 1 cw,H1 (a1 nT),hl 4 m4 nj,H1 (a1 Bw),hl 5 w4 bP,qR dF Tryz.underlying47 hD,ug w9 Kp,H1 (eG bP),⟨_,_,rfl,fun av an=>yr (i:=3) (aO.id (Vector az 4)) (v:=(aK.1:Vector az 4)) (b':=(aK.1:Vector az 4)) j0 (aa rfl) (aa rfl) (an _ _ rfl) rfl rfl⟩,⟨_,_,rfl,fun av an=>yr (i:=2) (aO.id az) (v:=(aK.2:az)) (b':=(aK.2:az)) cw (aa rfl) (aa rfl) (an _ _ rfl) rfl rfl⟩,trivial⟩) fun Wa=> ?_
  refine aT ?_
  refine aV ?_
  refine ai.ret ?_
  obtain rfl:=aS h
  exact ah.L8 rfl (ho 3 j0) (ho 2 cw) (tS rfl)
theorem IB {ab:Int} {r:az} (h:vt ab=some r):b9 Tryz.prog 188 [I.of (ab)] (I.of (r)):=by
 unfold vt at h
 refine b9.of Tryz.func188 rfl Tryz.ntmps188 rfl fun W A=> ?_
 refine aG ?_
 refine dI er fun a8=> ?_
 refine bY ?_
 obtain⟨bD,dG,h⟩:=aA h
 refine dd dG (cA (b:= { eb:=18446744073709551615#64,bV:=18446744073709551615#64:az }) rfl g1 er (.cons js rfl (hj 18446744073709551615 rfl) rfl (.cons eM rfl (hj 18446744073709551615 rfl) rfl (.nil)))) ?_
 refine aD ?_
 obtain⟨aB,bG,h⟩:=aA h
 refine hH K4 (Ir bG) ?_
 refine bL kn ?_
 obtain⟨aK,cF,h⟩:=aA h
 refine hH K5 (Ix cF) ?_
 refine cP 0 cw ?_
 refine aV ?_
 refine ai.ret ?_
 obtain rfl:=aS h
 exact ah.je rfl (ho 0 cw)
theorem IG {ab:az} {al:Int} {r:Bool} (h:s3 ab al=some r):b9 Tryz.prog 196 [I.of (ab),I.of (al)] (I.of (r)):=by
 unfold s3 at h
 refine b9.of Tryz.func196 rfl Tryz.ntmps196 rfl fun W A=> ?_
 refine aG ?_
 refine cL fun a8=> ?_
 refine aT ?_
 refine bY ?_
 refine aD ?_
 refine bL nX ?_
 refine aD ?_
 refine eB cj ?_
 refine ji gr ?_
 refine lI ?_
 refine aD ?_
 refine fD (fun hb=>fE (i:=0) (aO.id az) (r:=ab) cw (aa rfl) rfl rfl rfl) ?_
 refine eB cj ?_
 obtain⟨aB,bG,h⟩:=aA h
 refine fD (fun hb=>lz K5 (Ix (h2 bG hb)) ⟨c2 rfl hb,c2 rfl hb,trivial⟩) ?_
 refine fD (fun hb=>ER eM Kq gh rfl (c2 rfl hb) rfl rfl) ?_
 refine fD (fun hb=>tj (c2 rfl hb) (hj 1 rfl)) ?_
 refine fD (fun hb=>ES (c2 rfl hb) (hj 1 rfl)) ?_
 obtain⟨bD,dG,h⟩:=aA h
 refine dd dG (oH (aa rfl) (aa rfl) (fun h=>h)) ?_
 refine aT ?_
 refine aV ?_
 refine ai.ret ?_
 obtain rfl:=aS h
 exact e8
theorem PM {ab:bo} {r:bo} (h:Bc ab=some r):b9 Tryz.prog 122 [I.of (ab)] (I.of (r)):=by
 unfold Bc at h
 refine b9.of Tryz.func122 rfl Tryz.ntmps122 rfl fun W A=> ?_
 refine aG ?_
 refine cL fun a8=> ?_
 refine dI r9 fun bn=> ?_
 refine b2 ?_
 obtain⟨aB,bG,h⟩:=aA h
 obtain⟨aK,cF,h⟩:=aA h
 refine ai.draw mixed 7 [some 3,some 4,some 5,some 6,some 7,some 8,some 9] [[],[0],[1],[],[3],[4],[]] [.val _,.val _,.val _,.val _,.val _,.val _,.val _] [false,false,false,false,false,false,false] (by kernel_rfl) rfl rfl rfl (fun du=>⟨H1 (a1 nT),hl 1 m4 nj,iM S5 (N2 bG),H1 (a1 BJ),hl 1 AU yW,iM S6 (N3 cF),H1 (a1 nT),trivial⟩) fun du=> ?_
 refine wz 1 m4 nj ?_
 refine ba (a1 BJ) ?_
 obtain⟨bD,dG,h⟩:=aA h
 refine Wb 1 AU yW (hb:=by exact dG) ?_
 refine bY ?_
 refine cS 1 fH ?_
 refine cP 0 fH ?_
 refine aV ?_
 refine ai.ret ?_
 obtain rfl:=aS h
 exact ah.je rfl (ho 0 fH)
theorem O9 {ab:bo} {al:bo} {r:Bool} (h:xE ab al=some r):b9 Tryz.prog 265 [I.of (ab),I.of (al)] (I.of (r)):=by
 unfold xE at h
 refine b9.of Tryz.func265 rfl Tryz.ntmps265 rfl fun W A=> ?_
 refine aG ?_
 refine cL fun a8=> ?_
 refine cL fun bn=> ?_
 refine aT ?_
 refine bY ?_
 refine ba (a1 tr) ?_
 refine c1 1 p8 bP ?_
 refine ba (a1 tr) ?_
 refine c1 0 p8 bP ?_
 refine bL gP ?_
 refine aD ?_
 refine eB (a1 nT) ?_
 refine fD (fun hb=>fE (i:=1) ((aO.id bo).comp m4) (r:=ab.c8) nj (c2 rfl hb) rfl rfl rfl) ?_
 refine eB (a1 nT) ?_
 refine fD (fun hb=>fE (i:=0) ((aO.id bo).comp m4) (r:=al.c8) nj (c2 rfl hb) rfl rfl rfl) ?_
 obtain⟨aB,bG,h⟩:=aA h
 refine fD (fun hb=>lz S7 (N4 (h2 bG hb)) ⟨c2 rfl hb,c2 rfl hb,trivial⟩) ?_
 refine lI ?_
 refine aD ?_
 refine eB (a1 yt) ?_
 refine fD (fun hb=>fE (i:=1) ((aO.id bo).comp w5) (r:=ab.ic) bP (c2 rfl hb) rfl rfl rfl) ?_
 refine eB (a1 yt) ?_
 refine fD (fun hb=>fE (i:=0) ((aO.id bo).comp w5) (r:=al.ic) bP (c2 rfl hb) rfl rfl rfl) ?_
 refine ji gP ?_
 refine lI ?_
 refine aT ?_
 refine aV ?_
 refine ai.ret ?_
 obtain rfl:=aS h
 exact e8
theorem DV {hp:aI Cell} {ab:Ref} {al:Int} {r:Int} (h:sR hp ab al=some r):bF Tryz.prog 29 [I.of (ab),I.of (al)] ([] ++ aY hp) (δ:=Unit) (fun _=>I.of (r)) (fun _=> [] ++ aY hp):=by
 unfold sR at h
 refine bF.of Tryz.func29 rfl Tryz.ntmps29 rfl fun W A=> ?_
 refine aG ?_
 refine aT ?_
 refine bY ?_
 refine aD ?_
 refine aD ?_
 obtain⟨aB,bG,h⟩:=aA h
 refine ag.gW (eP.gZ 0 rfl Cl (AS bG) ⟨aa rfl,aa rfl,trivial⟩) rfl rfl rfl ?_
 obtain⟨aK,cF,h⟩:=aA h
 refine ag.gW (eP.gZ 0 rfl L9 (Ii cF) ⟨aa rfl,trivial⟩) rfl rfl rfl ?_
 refine aT ?_
 refine aV ?_
 refine ai.ret ?_
 obtain rfl:=aS h
 exact ah.ez () (.refl _) rfl rfl (df rfl)
end Go.Proofs.YtmnggbjcnoffeaaGreat
namespace Go.Proofs.YtmnggbjcnoffeaaGreat
open Go Gv
set_option linter.unusedVariables false
set_option linter.unusedSimpArgs false
set_option maxRecDepth 100000
set_option maxHeartbeats 2000000
theorem NS {ab:List aH} {al aP:Int} {pJ:Option Nat} {ff:Nat} {r:List aH} (h:Dt ab al aP=some r):bF Tryz.prog 276 [I.eq (a5 pJ ab.length ff),I.of al,I.of aP] [⟨pJ,.row 52 ab ff⟩] (δ:=(Option Nat × Nat)) (fun d=>I.eq (a5 d.1 r.length d.2)) (fun d=> [⟨d.1,.row 52 r d.2⟩]):=by
 unfold Dt at h
 obtain⟨m,n,rfl,rfl,qS,aL,rfl⟩:=Ql h
 refine bF.of Tryz.func276 rfl Tryz.ntmps276 rfl fun W A=> ?_
 refine ai.seq ?_
 refine ai.cO ?_
 refine ag.v (eJ vy) rfl rfl rfl ?_
 refine ag.nil ?_
 refine ah.next ?_
 refine ai.seq ?_
 refine ai.cO ?_
 refine ag.v (cj (aa rfl)) rfl rfl rfl ?_
 refine ag.v (cj (aa rfl)) rfl rfl rfl ?_
 refine ag.v (cj (aa rfl)) rfl rfl rfl ?_
 refine ag.v (cj (aa rfl)) rfl rfl rfl ?_
 refine ag.v (rR (i:=0) (xs:=ab) Tryz.underlying38 (aa rfl) rfl rfl) rfl rfl rfl ?_
 refine ag.v (QX (i:=0) (xs:=ab) Tryz.underlying38 cZ (aa rfl) rfl (aa rfl) (aa rfl) (aa rfl) ⟨qS,aL,Nat.le_refl _⟩) rfl rfl rfl ?_
 refine ag.nil ?_
 refine ah.next ?_
 refine ai.seq ?_
 refine ai.seq ?_
 refine ai.cO ?_
 refine ag.v (cj (aa rfl)) rfl rfl rfl ?_
 refine ag.v (cj (aa rfl)) rfl rfl rfl ?_
 refine ag.v (gP (aa rfl) (aa rfl)) rfl rfl rfl ?_
 refine ag.nil ?_
 refine ah.next ?_
 refine ai.cond (aa rfl) (fun aj=> ?_) (fun aj=> ?_)
 ·have U3:m=n:=by simp only [beq_iff_eq] at aj; omega
  subst U3
  rw [List.take_append_drop]
  refine ai.seq ?_
  refine ai.cO ?_
  refine ag.v (cj (aa rfl)) rfl rfl rfl ?_
  refine ag.v (eJ (aa rfl)) rfl rfl rfl ?_
  refine ag.nil ?_
  refine ah.next ?_
  refine ai.ret ?_
  exact ah.ez (pJ,ff) (.cons_cons _ (List.nil_sublist _)) rfl rfl (df rfl)
 have b5:m < n:=by simp only [beq_eq_false_iff_ne] at aj; omega
 refine ai.skip ?_
 refine ah.next ?_
 refine ai.some (i:=0) (xs:=ab) rfl (by omega) fun p hp sa uh=> ?_
 subst hp
 refine ai.seq ?_
 refine ai.cO ?_
 refine ag.v (cj (aa rfl)) rfl rfl rfl ?_
 refine ag.v (rR (i:=0) (xs:=ab) Tryz.underlying38 (aa rfl) rfl rfl) rfl rfl rfl ?_
 refine ag.v (eJ (aa rfl)) rfl rfl rfl ?_
 refine ag.nil ?_
 refine ah.next ?_
 have hlen:(ab.take m ++ ab.drop n ++ ab.drop (m + (ab.length - n))).length=ab.length:=by simp only [List.length_append,List.length_take,List.length_drop]; omega
 have wB:(ab.take m ++ ab.drop n).length=m + (ab.length - n):=by simp only [List.length_append,List.length_take,List.length_drop]; omega
 refine ai.seq ?_
 refine ai.le (E':= [(0,I.eq (a5 (some p) ab.length ff)),(1,I.of (m:Int)),(2,I.of (n:Int)),(7,I.of (ab.length:Int))]) (.same rfl (.same rfl (.same rfl (.same rfl .nil)))) ?_
 refine ai.j1 mixed (⟨some 20,[],[],[],fun _=>I.eq (a5 (some p) ab.length ff),fun _ _=>⟨none,.dead⟩⟩ :: ⟨some 21,[],[],[],fun _=>I.of (m:Int),fun _ _=>⟨none,.dead⟩⟩ :: ⟨some 22,(0 :: 1 :: []),(0 :: []),[],fun _=>I.eq (g2 (some p) 0 (m - 0) ff (ae.size aH)),fun _ _=>⟨none,.dead⟩⟩ :: ⟨some 23,[],[],[],fun _=>I.eq (a5 (some p) ab.length ff),fun _ _=>⟨none,.dead⟩⟩ :: ⟨some 24,[],[],[],fun _=>I.of (n:Int),fun _ _=>⟨none,.dead⟩⟩ :: ⟨some 25,(3 :: 4 :: []),(0 :: []),[],fun _=>I.eq (g2 (some p) n (ab.length - n) ff (ae.size aH)),fun _ _=>⟨none,.dead⟩⟩ :: ⟨some 26,(0 :: 1 :: 2 :: 3 :: 4 :: 5 :: []),(0 :: []),(0 :: []),fun _=>I.eq (a5 (some p) (m + (ab.length - n)) ff),fun _ _=>⟨some p,.row 52 (ab.take m ++ ab.drop n ++ ab.drop (m + (ab.length - n))) ff⟩⟩ :: ⟨some 0,(0 :: 1 :: 2 :: 3 :: 4 :: 5 :: 6 :: []),[],[],fun _=>I.eq (a5 (some p) (m + (ab.length - n)) ff),fun _ _=>⟨none,.dead⟩⟩ :: []) _ (0 :: 1 :: 2 :: 7 :: []) rfl rfl (by kernel_rfl) ⟨?_,?_,?_,?_,?_,?_,?_,?_,trivial⟩ fun hd=> ?_
 ·exact hE rfl rfl rfl fun hd E' av aw an=>cj (aa (aw _ _ rfl))
 ·exact hE rfl rfl rfl fun hd E' av aw an=>cj (aa (aw _ _ rfl))
 ·exact hE rfl rfl rfl fun hd E' av aw an=>Bq (i:=0) (xs:=ab) Tryz.underlying38 cZ (aa (aw _ _ rfl)) (an 0 _ rfl rfl) .none (.some (aa (aw _ _ rfl))) rfl rfl ⟨Nat.zero_le _,by omega⟩
 ·exact hE rfl rfl rfl fun hd E' av aw an=>cj (aa (aw _ _ rfl))
 ·exact hE rfl rfl rfl fun hd E' av aw an=>cj (aa (aw _ _ rfl))
 ·exact hE rfl rfl rfl fun hd E' av aw an=>Bq (i:=0) (xs:=ab) Tryz.underlying38 cZ (aa (aw _ _ rfl)) (an 0 _ rfl rfl) (.some (aa (aw _ _ rfl))) .none rfl rfl ⟨aL,Nat.le_refl _⟩
 ·intro hd E' av aw an
  have bB:=an 0 _ rfl rfl
  refine ag.Sd (i:=0) (m:=m) (n:=n) (xs:=ab) Tryz.underlying38 cZ (aa (aw _ _ rfl)) (aa (aw _ _ rfl)) bB b5 aL rfl ?_
  refine ag.nil ?_
  exact ah.fin (ee []) rfl rfl
 ·exact hE rfl rfl rfl fun hd E' av aw an=>eJ (aa (aw _ _ rfl))
 refine ah.next ?_
 refine ai.seq ?_
 refine ai.cO ?_
 refine ag.v (cj (aa rfl)) rfl rfl rfl ?_
 refine ag.v (cj (aa rfl)) rfl rfl rfl ?_
 refine ag.v (Se Tryz.underlying38 (aa rfl)) rfl rfl rfl ?_
 refine ag.v (cj (aa rfl)) rfl rfl rfl ?_
 refine ag.v (qg (α:=aH) (m:=m + (ab.length - n)) (h:=ab.length) Tryz.underlying38 cZ (aa rfl) (.some (aa rfl)) (.some (aa rfl)) rfl rfl ⟨by omega,sa⟩) rfl rfl rfl ?_
 refine ag.clear (i:=0) (lo:=m + (ab.length - n)) (n:=ab.length - (m + (ab.length - n))) (xs:=ab.take m ++ ab.drop n ++ ab.drop (m + (ab.length - n))) Tryz.underlying38 cZ hP rfl (aa rfl) rfl (by rw [hlen]; omega) rfl ?_
 refine ag.nil ?_
 refine ah.next ?_
 refine ai.seq ?_
 refine ai.cO ?_
 refine ag.v (cj (aa rfl)) rfl rfl rfl ?_
 refine ag.v (eJ (aa rfl)) rfl rfl rfl ?_
 refine ag.nil ?_
 refine ah.next ?_
 refine ai.ret ?_
 have Ma:(pD (ab.take m ++ ab.drop n ++ ab.drop (m + (ab.length - n))) (m + (ab.length - n)) (ab.length - (m + (ab.length - n)))).take (m + (ab.length - n))=ab.take m ++ ab.drop n:=by
  unfold pD
  rw [List.append_assoc,List.take_append_of_le_length (by rw [List.length_take,hlen]; omega),List.take_take,Nat.min_self,List.take_append_of_le_length (by rw [wB]; exact Nat.le_refl _),← wB,List.take_length]
 refine ah.again (.row 52 (ab.take m ++ ab.drop n) ff) 0 rfl (fun A W o h=> ?_) (fun h=> ?_) ?_
 ·have fx:=EA (n:=m + (ab.length - n)) (by unfold pD; simp only [List.length_append,List.length_take,List.length_replicate,List.length_drop,hlen]; omega) h
  rwa [Ma] at fx
 ·exact⟨by rw [← Ma,h.1]; simp,h.2⟩
 refine ah.ez ((some p,ff):Option Nat × Nat) (.cons_cons _ (List.nil_sublist _)) rfl ?_ (df rfl)
 rw [wB]
theorem OR {hp:aI Cell} {ab:Ref} {r:Int} (h:xw hp ab=some r):bF Tryz.prog 34 [I.of (ab)] ([] ++ aY hp) (δ:=Unit) (fun _=>I.of (r)) (fun _=> [] ++ aY hp):=by
 unfold xw at h
 refine bF.of Tryz.func34 rfl Tryz.ntmps34 rfl fun W A=> ?_
 refine aG ?_
 refine aT ?_
 refine b2 ?_
 refine aG ?_
 refine aD ?_
 refine bp (lT Tryz.underlying60 (aa rfl)) ?_
 refine aV ?_
 refine dv h (fun h=>?_) fun h=>?_
 ·refine aG ?_
  refine aT ?_
  refine aV ?_
  refine ai.ret ?_
  refine ah.ret ?_
  obtain rfl:=aS h
  exact ah.ez () (.refl _) rfl rfl (df rfl)
 ·refine dE ?_
  refine aG ?_
  refine aD ?_
  obtain⟨bS,cU,h⟩:=aA h
  refine bp (de (dO (aa rfl) cU)) ?_
  refine ba (a1 Bx) ?_
  obtain⟨bl,dw,h⟩:=aA h
  refine bp (e7 ((aO.id hL).comp xa) (r:=bl.kl) bP (aa rfl) (ei (n:=0) rfl (mA dw) rfl) rfl rfl) ?_
  refine aT ?_
  refine aV ?_
  refine ai.ret ?_
  obtain rfl:=aS h
  exact ah.ez () (.refl _) rfl rfl (df rfl)
theorem fL {ab:bm} {al:Int} {cb:Nat} {r:Int × bm} (h:fl ab al=some r):bF Tryz.prog 32 [I.eq (.pointer (some ⟨cb,0,none⟩)),I.of (al)] [⟨some cb,.var (ab:bm)⟩] (δ:=Unit) (fun d=>I.of (r.1)) (fun d=> [⟨some cb,.var (r.2:bm)⟩]):=by
 unfold fl at h
 refine bF.of Tryz.func32 rfl Tryz.ntmps32 rfl fun W A=> ?_
 refine aG ?_
 refine aT ?_
 refine b2 ?_
 refine aG ?_
 refine aD ?_
 obtain⟨aB,bG,h⟩:=aA h
 refine ag.gW (eP.call [0] F2 (OQ bG) ⟨aa rfl,trivial⟩ rfl ⟨rfl,trivial⟩ rfl) rfl rfl rfl ?_
 refine ba ko ?_
 refine aD ?_
 refine eB cj ?_
 refine ji gr ?_
 refine sk ?_
 refine aV ?_
 refine dv h (fun h=>?_) fun h=>?_
 ·refine aG ?_
  refine aT ?_
  refine aV ?_
  refine ai.ret ?_
  refine ah.ret ?_
  refine ah.bt 0 rfl ?_
  obtain rfl:=aS h
  exact k9 ()
 ·refine dE ?_
  refine aG ?_
  refine aD ?_
  refine ba de ?_
  refine ba (a1 yd) ?_
  refine c1 0 xo bP ?_
  refine bL ep ?_
  refine ba de ?_
  refine ba (a1 yd) ?_
  refine wz 0 xo bP ?_
  refine b2 ?_
  obtain⟨bh,dF,h⟩:=aA h
  obtain⟨aK,cF,h⟩:=aA h
  refine ai.draw mixed 14 [some 19,some 20,some 21,some 22,some 23,some 24,some 25,some 26,some 27,some 28,some 29,some 30,some 31,some 32] [[],[0],[1],[2],[],[4],[5],[6],[7],[3,8],[9],[10],[],[11,12]] [.val _,.val _,.val _,.val _,.val _,.val _,.val _,.val _,.val _,.val _,.val _,.val _,.val _,.val _] [false,false,false,false,false,false,false,false,false,false,false,false,false,false] (by kernel_rfl) rfl rfl rfl (fun du=>⟨dW,H1 de,H1 (a1 EN),hl 0 AZ Cj,dW,H1 de,H1 (a1 yd),hl 0 xo bP,lN kn,qR dF Tryz.underlying22 Gx,H1 (eG Gx),H1 (S8 Tryz.underlying5 Tryz.underlying3),dW,eO fun av an=>Fu (aa rfl) (aa rfl) (Em cF),trivial⟩) fun du=> ?_
  refine aT ?_
  refine aV ?_
  refine ai.ret ?_
  refine ah.bt 0 rfl ?_
  obtain rfl:=aS h
  exact k9 ()
theorem D0 {ab:aZ} {al:Int} {r:Int} (h:sU ab al=some r):b9 Tryz.prog 82 [I.of (ab),I.of (al)] (I.of (r)):=by
 unfold sU at h
 refine b9.of Tryz.func82 rfl Tryz.ntmps82 rfl fun W A=> ?_
 refine aG ?_
 refine cL fun a8=> ?_
 refine cL fun bn=> ?_
 refine aT ?_
 refine bY ?_
 refine ba (a1 na) ?_
 refine c1 1 m5 mL ?_
 refine ag.share (α:=Int) 0 3 rfl rfl ?_
 refine bp (BK (F:=(fun hy=>AQ hy al)) (τs:= [I.ptr al]) S9 ⟨aa rfl,trivial⟩ (fun _ _ h=>OD h)) ?_
 obtain⟨aB,bG,h⟩:=aA h
 refine hH Ta (NT bG) ?_
 refine aT ?_
 refine aV ?_
 refine ai.ret ?_
 obtain rfl:=aS h
 exact e8
theorem Pa {ab:aZ} {al:Int} {r:Int} (h:xF ab al=some r):b9 Tryz.prog 85 [I.of (ab),I.of (al)] (I.of (r)):=by
 unfold xF at h
 refine b9.of Tryz.func85 rfl Tryz.ntmps85 rfl fun W A=> ?_
 refine aG ?_
 refine cL fun a8=> ?_
 refine cL fun bn=> ?_
 refine aT ?_
 refine bY ?_
 refine ba (a1 BI) ?_
 refine c1 1 AE yV ?_
 refine ag.share (α:=Int) 0 3 rfl rfl ?_
 refine bp (BK (F:=(fun hy=>AR hy al)) (τs:= [I.ptr al]) Tb ⟨aa rfl,trivial⟩ (fun _ _ h=>OE h)) ?_
 obtain⟨aB,bG,h⟩:=aA h
 refine hH Tc (NU bG) ?_
 refine aT ?_
 refine aV ?_
 refine ai.ret ?_
 obtain rfl:=aS h
 exact e8
end Go.Proofs.YtmnggbjcnoffeaaGreat
namespace Go.Proofs.YtmnggbjcnoffeaaGreat
open Go Gv
set_option linter.unusedVariables false
set_option linter.unusedSimpArgs false
set_option maxRecDepth 100000
set_option maxHeartbeats 2000000
theorem PN {hp:aI Cell} {ab:aZ} {al:Int} {Q:Ref × (aI Cell)→Prop} (h:vw hp ab al Q):bF Tryz.prog 39 [I.of (ab),I.of (al)] ([] ++ aY hp) (δ:= {r:Ref × (aI Cell) // Q r} × Unit) (fun d=>I.of (d.1.1.1)) (fun d=> [] ++ aY d.1.1.2):=by
 unfold vw at h
 refine bF.of Tryz.func39 rfl Tryz.ntmps39 rfl fun W A=> ?_
 refine aG ?_
 refine cL fun a8=> ?_
 refine bp (eJ (nK)) ?_
 refine bY ?_
 refine cS 0 hC ?_
 refine aD ?_
 obtain⟨aB,bG,h⟩:=ao.bX h
 refine hH F3 (D0 bG) ?_
 refine aT ?_
 refine b2 ?_
 refine aG ?_
 refine aD ?_
 refine bL gr ?_
 refine aV ?_
 refine ai.cond (aa rfl) (fun aj=> ?_) (fun aj=> ?_)
 ·replace h:=jt aj h
  refine aG ?_
  refine bp (eJ (nK)) ?_
  refine aV ?_
  refine ai.ret ?_
  refine ah.ret ?_
  exact ah.ez (⟨⟨((none:Ref),hp),h⟩,()⟩: {r // _} × _) (.cons _ (.refl _)) rfl rfl (df rfl)
 ·replace h:=ju aj h
  refine dE ?_
  refine aG ?_
  refine ba (a1 na) ?_
  refine c1 0 m5 mL ?_
  refine aD ?_
  obtain⟨bh,dF,h⟩:=ao.bX h
  refine jB dF Tryz.underlying28 fX ?_
  refine ba (eG fX) ?_
  refine dI k6 fun bn=> ?_
  refine cP 0 fX ?_
  refine bY ?_
  refine cS 0 fX ?_
  obtain⟨aK,cF,h⟩:=ao.bX h
  refine hH U4 (Po cF) ?_
  refine aD ?_
  refine fS ?_
  refine fS ?_
  refine aT ?_
  refine aT ?_
  refine bY ?_
  refine aD ?_
  refine ba (a1 lW) ?_
  refine c1 0 kg lF ?_
  refine ba (gO Tryz.underlying62) ?_
  refine ag.BH (α:=Int) (β:=aH) 2 rfl (Cell.jy ([]:List (Int × aH))) (fun _=>rfl) rfl fun cR qQ=> ?_
  replace h:=ao.pA h cR qQ
  obtain⟨bD,dG,h⟩:=ao.bX h
  refine dd dG (cA (b:=({ (default:gn) with qp:=aK.1,qq:=(((aN ab.bA bh).cv).length:Int),jH:=(⟨some cR.1⟩:eV) } :gn)) rfl Td Te (.cons Ol rfl (aa rfl) rfl (.cons Om rfl (aa rfl) rfl (.cons u0 rfl (aa rfl) rfl (.nil))))) ?_
  refine ag.wb 2 rfl (Cell.l2 bD) (fun _=>rfl) (aa rfl) rfl fun cy uf=> ?_
  replace h:=ao.pA h cy uf
  refine aT ?_
  refine b2 ?_
  refine aG ?_
  refine aD ?_
  refine aV ?_
  refine ai.block ?_
  refine aG ?_
  refine bL gP ?_
  refine aT ?_
  refine aV ?_
  refine ai.vL (γ:=Unit) h (fun bH ay=> [(0,I.of (ab)),(1,I.of (al)),(2,I.eq (.pointer (some ⟨a8,0,none⟩))),(4,I.of (none:Ref)),(5,I.of (aB)),(6,I.eq (.pointer (some ⟨bn,0,none⟩))),(7,I.of (aK.1)),(8,I.of (aK.2)),(9,I.of (some cy.1:Ref)),(16,I.of (decide (aB < 0))),(34,I.of (aK.1)),(42,I.of (aK.1 ==1))]) (fun bH ay=>(⟨some bn,.var (aN ab.bA bh:bw)⟩ :: ⟨some a8,.var (ab:aZ)⟩ :: aY bH)) (aa rfl) (fun bH ay h=> ?_) (fun hm aj h=> ?_) (fun hm aj h=> ?_)
  ·refine ah.fF ?_
   refine ah.next ?_
   refine aG ?_
   refine aD ?_
   refine aT ?_
   refine aV ?_
   refine ai.ret ?_
   exact ah.ez (⟨⟨((some cy.1:Ref),bH),h⟩,()⟩: {r // _} × _) (.cons _ (.cons _ (.refl _))) rfl rfl (df rfl)
  ·refine ai.cO ?_
   refine aD ?_
   refine ag.im 2 0 rfl U5 (PJ h) rfl rfl trivial rfl fun⟨⟨bk,h⟩,aM⟩=> ?_
   refine ag.dT (L2:=(⟨some bn,.var (aN ab.bA bh:bw)⟩ :: ⟨some a8,.var (ab:aZ)⟩ :: aY bk.2)) rfl ?_
   refine g7 Tf Tg { pT:=bk.1:jG } (iu AT .nil) ?_
   refine bp (Fb Tryz.underlying166 rfl (aa rfl) (fun _ _ _ h=>Qm h)) ?_
   refine bp (de (dO (aa rfl) rfl)) ?_
   refine ba (a1 tl) ?_
   obtain⟨bl,dw,h⟩:=ao.bX h
   obtain⟨cd,ir,h⟩:=ao.bX h
   refine ag.lY (k':=Cell.l2 ({ bl with ie:=(gd.l3 ({ pT:=bk.1:jG })) } :gn)) 2 rfl ((aO.id gn).comp sJ) (v:=((gd.l3 ({ pT:=bk.1:jG })):gd)) rY (aa rfl) (aa rfl) (lX dw) rfl rfl rfl rfl (aS ir) ?_
   refine ag.nil ?_
   exact dZ 0 (hm cd () h)
  ·refine aG ?_
   refine bL gP ?_
   refine aT ?_
   refine aV ?_
   refine ai.vL (γ:=Unit) h (fun cI bf=> [(0,I.of (ab)),(1,I.of (al)),(2,I.eq (.pointer (some ⟨a8,0,none⟩))),(4,I.of (none:Ref)),(5,I.of (aB)),(6,I.eq (.pointer (some ⟨bn,0,none⟩))),(7,I.of (aK.1)),(8,I.of (aK.2)),(9,I.of (some cy.1:Ref)),(16,I.of (decide (aB < 0))),(34,I.of (aK.1)),(42,I.of (aK.1 ==1)),(50,I.of (aK.1 ==2))]) (fun cI bf=>(⟨some bn,.var (aN ab.bA bh:bw)⟩ :: ⟨some a8,.var (ab:aZ)⟩ :: aY cI)) (aa rfl) (fun cI bf h=> ?_) (fun hm aj h=> ?_) (fun hm aj h=> ?_)
   ·exact dZ 0 (hm cI () h)
   ·refine aG ?_
    refine aT ?_
    refine b2 ?_
    refine ai.seq ?_
    obtain⟨cC,dV,h⟩:=ao.bX h
    obtain⟨b1,hY,h⟩:=ao.bX h
    refine ai.draw mixed 8 [some 52,some 53,some 54,some 55,some 56,some 57,some 58,some 59] [[],[],[1],[],[2,3],[4],[5],[0,6]] [.val _,.val _,.val _,.val _,.val _,.val _,.val _,.val _] [false,false,false,false,false,false,false,false] (by kernel_rfl) rfl rfl rfl (fun du=>⟨hr 1 hC,H1 (a1 lW),hl 0 kg lF,dW,qR dV Tryz.underlying62 j4,ug ov Kr,H1 (eG bP),iM U6 (Pa hY),trivial⟩) fun du=> ?_
    refine aT ?_
    refine bY ?_
    refine aD ?_
    refine bL nX ?_
    refine aV ?_
    obtain⟨ft,ht,h⟩:=ao.bX h
    refine ai.c5 (γ:=Unit) (fun bJ=> [(0,I.of (ab)),(1,I.of (al)),(2,I.eq (.pointer (some ⟨a8,0,none⟩))),(4,I.of (none:Ref)),(5,I.of (aB)),(6,I.eq (.pointer (some ⟨bn,0,none⟩))),(7,I.of (aK.1)),(8,I.of (aK.2)),(9,I.of (some cy.1:Ref)),(10,I.of (ft)),(11,I.of (b1)),(16,I.of (decide (aB < 0))),(34,I.of (aK.1)),(42,I.of (aK.1 ==1)),(50,I.of (aK.1 ==2)),(61,I.of (decide (b1≥0)))]) (fun bJ=>(⟨some bn,.var (aN ab.bA bh:bw)⟩ :: ⟨some a8,.var (ab:aZ)⟩ :: aY cy.2)) (aa rfl) (fun bJ=> ?_) (fun hm aj=> ?_) (fun hm aj=> ?_)
    ·clear ht
     refine ah.next ?_
     refine ai.cO ?_
     refine aD ?_
     refine aD ?_
     refine aD ?_
     refine ag.BH (α:=Vector az 4) (β:=Ref) 2 rfl (Cell.kL ([]:List ((Vector az 4) × Ref))) (fun _=>rfl) rfl fun gb Wc=> ?_
     replace h:=ao.pA h gb Wc
     obtain⟨dp,hG,h⟩:=ao.bX h
     refine dd hG (cA (b:= { qw:=aK.2,fm:=ft,m8:=(⟨some gb.1⟩:eV):gm }) rfl Th Ti (.cons w4 rfl (aa rfl) rfl (.cons Dw rfl (aa rfl) rfl (.cons p5 rfl (aa rfl) rfl (.nil))))) ?_
     refine bp (Fb Tryz.underlying169 rfl (aa rfl) (fun _ _ _ h=>Qn h)) ?_
     refine bp (de (dO (aa rfl) rfl)) ?_
     refine ba (a1 tl) ?_
     obtain⟨b7,e9,h⟩:=ao.bX h
     obtain⟨cq,sb,h⟩:=ao.bX h
     refine ag.lY (k':=Cell.l2 ({ b7 with ie:=(gd.l4 dp) } :gn)) 2 rfl ((aO.id gn).comp sJ) (v:=((gd.l4 dp):gd)) rY (aa rfl) (aa rfl) (lX e9) rfl rfl rfl rfl (aS sb) ?_
     refine ag.nil ?_
     exact dZ 0 (hm cq () h)
    ·have h:=ij aj ht
     refine ai.cO ?_
     refine ba (a1 BI) ?_
     refine c1 1 AE yV ?_
     refine aD ?_
     obtain⟨fu,kt,h⟩:=aA h
     refine jB kt Tryz.underlying24 tA ?_
     refine Gy ou JX ?_
     refine ba (eG bP) ?_
     refine aT ?_
     refine ag.nil ?_
     obtain rfl:=aS h
     exact dZ 0 (hm ())
    ·have h:=ik aj ht
     refine ai.skip ?_
     obtain rfl:=aS h
     exact dZ 0 (hm ())
   ·refine ai.cO ?_
    refine aD ?_
    refine cS 1 hC ?_
    obtain⟨cm,iv,h⟩:=ao.bX h
    refine et 0 U7 (OZ iv) fun eK=> ?_
    refine ag.Tj 4 2 (Cell.pO cm eK.2.1 eK.2.2) rfl rfl rfl rfl List.mem_cons_self fun iR Wd We=> ?_
    replace h:=h (eK.2.1,eK.2.2) iR Wd
    refine ag.Tk 37 rfl We ?_
    refine g7 Tl Tm { cK:=(some iR.1:Ref):iX } (iu AV .nil) ?_
    refine bp (Fb Tryz.underlying173 rfl (aa rfl) (fun _ _ _ h=>Qo h)) ?_
    refine bp (de (dO (aa rfl) rfl)) ?_
    refine ba (a1 tl) ?_
    obtain⟨e0,lf,h⟩:=ao.bX h
    obtain⟨fT,yX,h⟩:=ao.bX h
    refine ag.lY (k':=Cell.l2 ({ e0 with ie:=(gd.l5 ({ cK:=(some iR.1:Ref):iX })) } :gn)) 2 rfl ((aO.id gn).comp sJ) (v:=((gd.l5 ({ cK:=(some iR.1:Ref):iX })):gd)) rY (aa rfl) (aa rfl) (lX lf) rfl rfl rfl rfl (aS yX) ?_
    refine ag.nil ?_
    exact dZ 0 (hm fT () h)
end Go.Proofs.YtmnggbjcnoffeaaGreat
namespace Go.Proofs.YtmnggbjcnoffeaaGreat
open Go Gv
set_option linter.unusedVariables false
set_option linter.unusedSimpArgs false
set_option maxRecDepth 100000
set_option maxHeartbeats 2000000
theorem D7 {hp:aI Cell} {ab:aZ} {Q:Ref × (aI Cell)→Prop} (h:s4 hp ab Q):bF Tryz.prog 24 [I.of (ab)] ([] ++ aY hp) (δ:= {r:Ref × (aI Cell) // Q r} × Unit) (fun d=>I.of (d.1.1.1)) (fun d=> [] ++ aY d.1.1.2):=by
 unfold s4 at h
 refine bF.of Tryz.func24 rfl Tryz.ntmps24 rfl fun W A=> ?_
 refine aG ?_
 refine cL fun a8=> ?_
 refine bp (eJ (nK)) ?_
 refine bY ?_
 refine cS 0 hC ?_
 refine ag.BH (α:=Int) (β:=Ref) 1 rfl (Cell.n3 ([]:List (Int × Ref))) (fun _=>rfl) rfl fun cR qQ=> ?_
 replace h:=ao.pA h cR qQ
 obtain⟨bD,dG,h⟩:=ao.bX h
 refine dd dG (cA (b:= { gp:=ab,nO:=(⟨some cR.1⟩:eV),kl:=1:hL }) rfl Tn To (.cons AB rfl (aa rfl) rfl (.cons AA rfl (aa rfl) rfl (.cons xa rfl (bE 1) rfl (.nil))))) ?_
 refine ag.wb 1 rfl (Cell.oO bD) (fun _=>rfl) (aa rfl) rfl fun cy uf=> ?_
 replace h:=ao.pA h cy uf
 refine aT ?_
 refine b2 ?_
 refine aG ?_
 refine aD ?_
 refine bp (de (dO (aa rfl) rfl)) ?_
 refine ba (a1 ET) ?_
 refine ba (a1 na) ?_
 obtain⟨bl,dw,h⟩:=ao.bX h
 refine bp (e7 (((aO.id hL).comp AB).comp m5) (r:=bl.gp.bA) mL (aa rfl) (ei (n:=1) rfl (mA dw) rfl) rfl rfl) ?_
 refine ba (gO Tryz.underlying28) ?_
 refine aD ?_
 refine aV ?_
 refine ai.block ?_
 refine ai.BL (σ:=Int × (aI Cell)) (ε:=(Int × Bool × (aI Cell))) (γ:=Unit) (δ:=Unit) h (fun s1 ay=> [(0,I.of (ab)),(1,I.eq (.pointer (some ⟨a8,0,none⟩))),(2,I.of (none:Ref)),(3,I.of (some cy.1:Ref)),(14,I.of (bl.gp.bA)),(15,I.of (bl.gp.bA.length:Int)),(16,I.of (s1.1))]) (fun s1 ay=>(⟨some a8,.var (ab:aZ)⟩ :: aY s1.2)) (fun aM=>Exit.exit 0) (fun aM ay=> [(0,I.of (ab)),(1,I.eq (.pointer (some ⟨a8,0,none⟩))),(2,I.of (none:Ref)),(3,I.of (some cy.1:Ref)),(14,I.of (bl.gp.bA)),(15,I.of (bl.gp.bA.length:Int)),(16,I.of (aM.1)),(17,I.of (aM.2.1))]) (fun aM ay=>(⟨some a8,.var (ab:aZ)⟩ :: aY aM.2.2)) () rfl (.same rfl (.same rfl (.same rfl (.same rfl (.same rfl (.same rfl (.same rfl .nil))))))) (fun s1 R h ay=> ?_) (fun aE h ay=> ?_)
 ·refine aG ?_
  refine bL gr ?_
  refine b2 ?_
  refine ai.cond (aa rfl) (fun aj=> ?_) (fun aj=> ?_)
  ·replace h:=jt aj h
   refine dE ?_
   refine ai.seq ?_
   refine ai.block ?_
   refine aG ?_
   obtain⟨bh,dF,h⟩:=ao.bX h
   refine jB dF Tryz.underlying28 fX ?_
   refine ba (eG fX) ?_
   refine dI k6 fun bn=> ?_
   refine cP 0 fX ?_
   refine aV ?_
   obtain⟨jD,ui,h⟩:=ao.bX h
   obtain⟨Wf,U8,Mb⟩:=ao.ex h
   refine Ks mixed 10 9 29 _ (K:=Wf) [some (20,I.of (some cy.1:Ref)),some (21,I.eq (.pointer (some ⟨cy.1,0,none⟩))),some (22,I.eq (.pointer (some ⟨cy.1,0 + 10,none⟩))),some (23,I.of (jD.nO)),some (24,I.eq (.pointer (some ⟨bn,0 + 0,none⟩))),some (25,I.of ((aN bl.gp.bA bh).bC)),some (26,I.of (ab)),some (27,I.eq (.pointer (some ⟨bn,0 + 0,none⟩))),some (28,I.of ((aN bl.gp.bA bh).bC)),none] _ [[],[0],[1],[2],[],[4],[],[],[7],[6,8]] _ (fun aB=>I.of (aB.1)) (fun aB=>(⟨some bn,.var (aN bl.gp.bA bh:bw)⟩ :: ⟨some a8,.var (ab:aZ)⟩ :: aY aB.2)) rfl rfl rfl rfl rfl rfl (by kernel_rfl) ⟨⟨cj (aa rfl),fun aB nk=>cj (aa rfl)⟩,⟨de (dO (aa rfl) rfl),fun aB nk=>de (dO (aa rfl) rfl)⟩,⟨a1 EO (aa rfl),fun aB nk=>a1 EO (aa rfl)⟩,⟨e7 ((aO.id hL).comp AA) (r:=jD.nO) BY (aa rfl) (ei (n:=2) rfl (mA ui) rfl) rfl rfl,fun aB nk=>e7 ((aO.id hL).comp AA) (r:=jD.nO) BY (aa rfl) (ei (n:=2) rfl (mA (ao.Wg (Mb aB nk))) rfl) rfl rfl⟩,⟨a1 nS (aa rfl),fun aB nk=>a1 nS (aa rfl)⟩,⟨fE (i:=0) ((aO.id bw).comp lv) (r:=(aN bl.gp.bA bh).bC) bP (aa rfl) rfl rfl rfl,fun aB nk=>fE (i:=0) ((aO.id bw).comp lv) (r:=(aN bl.gp.bA bh).bC) bP (aa rfl) rfl rfl rfl⟩,⟨fE (i:=1) (aO.id aZ) (r:=ab) hC (aa rfl) rfl rfl rfl,fun aB nk=>fE (i:=1) (aO.id aZ) (r:=ab) hC (aa rfl) rfl rfl rfl⟩,⟨a1 nS (aa rfl),fun aB nk=>a1 nS (aa rfl)⟩,⟨fE (i:=0) ((aO.id bw).comp lv) (r:=(aN bl.gp.bA bh).bC) bP (aa rfl) rfl rfl rfl,fun aB nk=>fE (i:=0) ((aO.id bw).comp lv) (r:=(aN bl.gp.bA bh).bC) bP (aa rfl) rfl rfl rfl⟩,trivial⟩ (fun bL uO aw cC=> ?_) (fun aB nk=> ?_)
   ·refine ag.im 2 0 rfl U9 (PN U8) rfl rfl ⟨aa (aw rfl),aa (aw rfl),trivial⟩ rfl fun⟨⟨aB,nk⟩,_⟩=> ?_
    refine ag.dT (L2:=(⟨some bn,.var (aN bl.gp.bA bh:bw)⟩ :: ⟨some a8,.var (ab:aZ)⟩ :: aY aB.2)) rfl ?_
    refine ag.nil ?_
    exact cC aB nk
   have h:=Mb aB nk
   replace h:=ao.Va h
   refine ag.le (E':= [(0,I.of (ab)),(1,I.eq (.pointer (some ⟨a8,0,none⟩))),(2,I.of (none:Ref)),(3,I.of (some cy.1:Ref)),(5,I.eq (.pointer (some ⟨bn,0,none⟩))),(14,I.of (bl.gp.bA)),(15,I.of (bl.gp.bA.length:Int)),(16,I.of (s1.1)),(17,I.of (decide (s1.1 < (bl.gp.bA.length:Int)))),(18,I.ptr (aN bl.gp.bA bh)),(19,I.of (aN bl.gp.bA bh)),(20,I.of (some cy.1:Ref)),(21,I.eq (.pointer (some ⟨cy.1,0,none⟩))),(22,I.eq (.pointer (some ⟨cy.1,0 + 10,none⟩))),(23,I.of (jD.nO)),(24,I.eq (.pointer (some ⟨bn,0 + 0,none⟩))),(25,I.of ((aN bl.gp.bA bh).bC)),(26,I.of (ab)),(27,I.eq (.pointer (some ⟨bn,0 + 0,none⟩))),(28,I.of ((aN bl.gp.bA bh).bC)),(29,I.of (aB.1))]) (.same rfl (.same rfl (.same rfl (.same rfl (.same rfl (.same rfl (.same rfl (.same rfl (.same rfl (.same rfl (.same rfl (.same rfl (.same rfl (.same rfl (.same rfl (.same rfl (.same rfl (.same rfl (.same rfl (.same rfl (.same rfl .nil))))))))))))))))))))) ?_
   obtain⟨bS,cU,h⟩:=ao.bX h
   obtain⟨lq,uj,h⟩:=ao.bX h
   obtain⟨cd,ir,h⟩:=ao.bX h
   refine ag.B0 (k':=Cell.n3 (fo lq ((aN bl.gp.bA bh).bC) aB.1)) 2 rfl (by first | exact .inl rfl | exact .inr rfl) Tryz.underlying141 wy (kI (aa rfl) cU) (aa rfl) (aa rfl) (vJ uj) rfl rfl rfl (aS ir) ?_
   refine ag.nil ?_
   refine ah.fF ?_
   refine ah.next ?_
   refine ai.cO ?_
   refine bL ep ?_
   refine aD ?_
   refine ag.nil ?_
   exact ah.vM h () 1 rfl (.same rfl (.same rfl (.same rfl (.same rfl (.same rfl (.same rfl (.same rfl .nil)))))))
  ·replace h:=ju aj h
   refine ai.exit ?_
   refine ah.exit ?_
   exact ah.pE h () 0 rfl (by simp) rfl (.same rfl (.same rfl (.same rfl (.same rfl (.same rfl (.same rfl (.same rfl (.same rfl .nil))))))))
 ·refine ah.h4 ?_
  refine ah.next ?_
  refine aG ?_
  refine aD ?_
  refine aT ?_
  refine aV ?_
  refine ai.ret ?_
  exact ah.ez (⟨⟨((some cy.1:Ref),aE.2.2),h⟩,()⟩: {r // _} × _) (.cons _ (.refl _)) rfl rfl (df rfl)
end Go.Proofs.YtmnggbjcnoffeaaGreat
namespace Go.Proofs.YtmnggbjcnoffeaaGreat
open Go Gv
set_option linter.unusedVariables false
set_option linter.unusedSimpArgs false
set_option maxRecDepth 100000
set_option maxHeartbeats 2000000
theorem OG {ab:bm} {al:aZ} {aP:cu} {cb:Nat} {r:b6 × bm} (h:xq ab al aP=some r):bF Tryz.prog 75 [I.eq (.pointer (some ⟨cb,0,none⟩)),I.of (al),I.of (aP)] [⟨some cb,.var (ab:bm)⟩] (δ:=Unit) (fun d=>I.of (r.1)) (fun d=> [⟨some cb,.var (r.2:bm)⟩]):=by
 unfold xq at h
 refine bF.of Tryz.func75 rfl Tryz.ntmps75 rfl fun W A=> ?_
 refine aG ?_
 refine cL fun a8=> ?_
 refine cL fun bn=> ?_
 refine dI l1 fun c0=> ?_
 refine bY ?_
 refine cS 2 hC ?_
 refine ba (a1 Kr) ?_
 refine c1 1 ov bP ?_
 obtain⟨aB,bG,h⟩:=aA h
 refine hH Tp (Pp bG) ?_
 refine aT ?_
 refine bY ?_
 refine aD ?_
 refine ag.bt 3 rfl ?_
 obtain⟨aK,cF,h⟩:=aA h
 refine et 1 fP (fL cF) fun aM=> ?_
 refine ba (iZ Tryz.underlying3 Tryz.underlying41) ?_
 refine bp (nP (aa rfl) (hj 24 rfl)) ?_
 refine aD ?_
 refine ag.bt 0 rfl ?_
 obtain⟨bk,gQ,h⟩:=aA h
 refine et 1 fP (fL gQ) fun eK=> ?_
 refine ba (iZ Tryz.underlying3 Tryz.underlying41) ?_
 refine bp (nP (aa rfl) (hj 8 rfl)) ?_
 obtain⟨bD,dG,h⟩:=aA h
 refine dd dG (vK (aa rfl) (aa rfl)) ?_
 refine aD ?_
 refine ag.bt 0 rfl ?_
 obtain⟨b1,hY,h⟩:=aA h
 refine et 1 fP (fL hY) fun eu=> ?_
 refine ba (iZ Tryz.underlying3 Tryz.underlying41) ?_
 refine bL vK ?_
 obtain⟨dp,hG,h⟩:=aA h
 refine dd hG (cA (b:=({ (default:az) with bV:=bD ||| (BitVec.ofInt 64 b1.1) } :az)) rfl g1 er (.cons eM rfl (aa rfl) rfl (.nil))) ?_
 refine aD ?_
 obtain⟨cm,iv,h⟩:=aA h
 refine hH F4 (D6 iv) ?_
 refine dI er fun iB=> ?_
 refine cP 0 cw ?_
 refine b2 ?_
 refine aG ?_
 refine ba (a1 yp) ?_
 refine c1 3 mo bP ?_
 refine aV ?_
 refine ai.block ?_
 refine aG ?_
 refine bL gP ?_
 refine aT ?_
 refine aV ?_
 refine dv h (fun h=>?_) fun h=>?_
 ·refine aG ?_
  refine aD ?_
  refine ag.bt 1 rfl ?_
  obtain⟨cD,iw,h⟩:=aA h
  refine et 1 fP (fL iw) fun lr=> ?_
  refine bL qx ?_
  refine aV ?_
  refine dv h (fun h=>?_) fun h=>?_
  ·refine aG ?_
   refine aD ?_
   refine aD ?_
   refine aD ?_
   refine ag.bt 0 rfl ?_
   obtain⟨ct,l7,h⟩:=aA h
   refine et 1 fP (fL l7) fun cY=> ?_
   refine bL ep ?_
   refine hI [aB,8,16,1,bu (1 + ct.1)] Tryz.underlying63 bP kP ?_
   refine aD ?_
   refine ag.bt 0 rfl ?_
   obtain⟨dy,l8,h⟩:=aA h
   refine et 1 fP (fL l8) fun kD=> ?_
   obtain⟨bh,dF,h⟩:=aA h
   refine jB dF Tryz.underlying63 bP ?_
   refine ba (eG bP) ?_
   refine aT ?_
   refine b2 ?_
   obtain⟨e1,o0,h⟩:=aA h
   obtain⟨ga,ld,h⟩:=aA h
   obtain⟨h0,nr,h⟩:=aA h
   refine ai.draw mixed 10 [some 51,some 52,some 53,some 54,some 55,some 56,some 57,some 58,some 59,some 60] [[],[],[1],[],[],[3,4],[5],[2,6],[7],[0,8]] [.val _,.val _,.val _,.val _,.val _,.val _,.val _,.val _,.val _,.val _] [false,false,false,false,false,false,false,false,false,false] (by kernel_rfl) rfl rfl rfl (fun du=>⟨dW,H1 (a1 kK),hl 1 eM gh,dW,dW,iM Tq (PD o0),eO fun av an=>ER eM Kq gh rfl (aa rfl) rfl rfl,lN tj,Hy ld fun av an=>cA (b:=({ (default:az) with bV:=cm.bV &&& e1.bV } :az)) rfl g1 er (.cons eM rfl (aa rfl) rfl (.nil)),Hy nr fun av an=>cA (b:=({ (default:b6) with hi:=true,gY:=aN [aB,8,16,1,bu (1 + ct.1)] bh,db:=ga } :b6)) rfl sc l1 (.cons sK rfl (fz true) rfl (.cons w9 rfl (aa rfl) rfl (.cons sL rfl (aa rfl) rfl (.nil)))),trivial⟩) fun du=> ?_
   refine cP 2 hD ?_
   refine aV ?_
   refine ai.ret ?_
   refine ah.e4 ?_
   refine ah.ret ?_
   refine ah.bt 0 rfl ?_
   obtain rfl:=aS h
   exact ah.ez () (.cons_cons _ (List.nil_sublist _)) rfl rfl (jK (i:=2) hD rfl rfl)
  ·refine ai.skip ?_
   refine ah.fF ?_
   refine ah.next ?_
   refine aG ?_
   refine g7 sc l1 (default:b6) .nil ?_
   refine cP 2 hD ?_
   refine aV ?_
   refine ai.ret ?_
   refine ah.bt 0 rfl ?_
   obtain rfl:=aS h
   exact ah.ez () (.cons_cons _ (List.nil_sublist _)) rfl rfl (jK (i:=2) hD rfl rfl)
 ·refine aG ?_
  refine bL gP ?_
  refine aT ?_
  refine aV ?_
  refine dv h (fun h=>?_) fun h=>?_
  ·refine aG ?_
   refine aD ?_
   refine ag.bt 1 rfl ?_
   obtain⟨dJ,tT,h⟩:=aA h
   refine et 1 fP (fL tT) fun wR=> ?_
   refine hI ([255,15,1,12,dJ.1]:List Int) Tryz.underlying63 bP kP ?_
   refine aD ?_
   refine ag.bt 0 rfl ?_
   obtain⟨gv,oP,h⟩:=aA h
   refine et 1 fP (fL oP) fun Ac=> ?_
   obtain⟨cC,dV,h⟩:=aA h
   refine jB dV Tryz.underlying63 bP ?_
   refine ba (eG bP) ?_
   refine ba (iZ Tryz.underlying3 Tryz.underlying41) ?_
   obtain⟨gS,ns,h⟩:=aA h
   refine dd ns (cA (b:=({ (default:az) with bV:=BitVec.ofInt 64 (aN ([255,15,1,12,dJ.1]:List Int) cC) } :az)) rfl g1 er (.cons eM rfl (aa rfl) rfl (.nil))) ?_
   refine aD ?_
   obtain⟨gH,oQ,h⟩:=aA h
   refine hH F4 (D6 oQ) ?_
   refine dI er fun Hx=> ?_
   refine cP 0 cw ?_
   refine bY ?_
   refine ba (a1 kK) ?_
   refine c1 0 eM gh ?_
   refine bp (Ru (aa rfl) (hj 0 rfl)) ?_
   refine aV ?_
   refine dv h (fun h=>?_) fun h=>?_
   ·refine aG ?_
    refine cS 0 cw ?_
    refine ba (a1 kK) ?_
    refine c1 2 eM gh ?_
    refine ba (a1 kK) ?_
    refine c1 0 eM gh ?_
    refine bL tj ?_
    obtain⟨jW,qT,h⟩:=aA h
    refine dd qT (cA (b:=({ (default:az) with bV:=cm.bV &&& gH.bV } :az)) rfl g1 er (.cons eM rfl (aa rfl) rfl (.nil))) ?_
    obtain⟨jE,qU,h⟩:=aA h
    refine dd qU (cA (b:=({ (default:b6) with hi:=true,il:=gH,db:=jW } :b6)) rfl sc l1 (.cons sK rfl (fz true) rfl (.cons DK rfl (aa rfl) rfl (.cons sL rfl (aa rfl) rfl (.nil))))) ?_
    refine cP 3 hD ?_
    refine aV ?_
    refine ai.ret ?_
    refine ah.e4 ?_
    refine ah.ret ?_
    refine ah.bt 1 rfl ?_
    obtain rfl:=aS h
    exact ah.ez () (.cons_cons _ (List.nil_sublist _)) rfl rfl (jK (i:=3) hD rfl rfl)
   ·refine ai.skip ?_
    refine ah.fF ?_
    refine ah.next ?_
    refine aG ?_
    refine g7 sc l1 (default:b6) .nil ?_
    refine cP 3 hD ?_
    refine aV ?_
    refine ai.ret ?_
    refine ah.bt 1 rfl ?_
    obtain rfl:=aS h
    exact ah.ez () (.cons_cons _ (List.nil_sublist _)) rfl rfl (jK (i:=3) hD rfl rfl)
  ·refine aG ?_
   refine bL gP ?_
   refine aT ?_
   refine aV ?_
   refine dv h (fun h=>?_) fun h=>?_
   ·refine ai.seq ?_
    obtain⟨gj,yY,h⟩:=aA h
    obtain⟨gX,qV,h⟩:=aA h
    refine jh [0,1,2,4,5,6,7,8,12,13,14,15,16,17,18,19,20,21,22,23,24,25,26,27,28,29,30,31,32,33,36,37,61,62,85,86] ?_
    refine ai.j1 mixed (bb 87 [] [] _ :: bb 88 (0 :: []) (0 :: []) _ :: bb 89 [] [] _ :: ⟨some 90,(2 :: []),(1 :: []),(1 :: []),fun _=>I.of (gj.1),fun hd _=>⟨some cb,.var (gj.2:bm)⟩⟩ :: bb 91 (3 :: []) [] _ :: bb 92 (1 :: 4 :: []) [] _ :: bb 93 [] [] _ :: bb 94 (6 :: []) [] _ :: bb 95 (7 :: []) [] _ :: bb 96 (8 :: []) [] _ :: bb 97 (5 :: 9 :: []) [] _ :: bb 11 (10 :: []) [] _ :: []) _ (0 :: 1 :: 2 :: 4 :: 5 :: 6 :: 7 :: 8 :: 12 :: 13 :: 14 :: 15 :: 16 :: 17 :: 18 :: 19 :: 20 :: 21 :: 22 :: 23 :: 24 :: 25 :: 26 :: 27 :: 28 :: 29 :: 30 :: 31 :: 32 :: 33 :: 36 :: 37 :: 61 :: 62 :: 85 :: 86 :: []) rfl rfl (by kernel_rfl) ⟨e6 (a1 kK),mQ 0 eM gh,fi,?_,e6 (iZ Tryz.underlying3 Tryz.underlying41),uP Rv,fi,e6 (iZ Tryz.underlying3 Tryz.underlying130),ca fun hd E' av aw an=>nP (hj 1 rfl) (aa (aw _ _ rfl)),ca fun hd E' av aw an=>ti (aa (aw _ _ rfl)) (hj 1 rfl),ca fun hd E' av aw an=>(QY (aa (aw _ _ rfl)) (aa (aw _ _ rfl))).as (aS qV),ca fun hd E' av aw an=>eJ (aa (aw _ _ rfl)),trivial⟩ fun en=> ?_
    ·intro hd E' av aw an
     refine ag.bt 1 (an 1 _ rfl rfl) ?_
     refine ag.k3 (Lin:= [⟨some cb,.var (b1.2:bm)⟩]) (Lr:=av.eraseIdx 1) fP (fL yY) ⟨aa (aw _ _ rfl),bE 256,trivial⟩ rfl fun pf=> ?_
     refine ag.nil ?_
     refine ah.back 1 (an 1 _ rfl rfl) ?_
     exact ah.fin (ee []) rfl rfl
    refine ah.dT (L2:= [⟨some iB,.var (cm:az)⟩,⟨some cb,.var (gj.2:bm)⟩,⟨some c0,.var ((default:b6):b6)⟩,⟨some bn,.var (aP:cu)⟩,⟨some a8,.var (al:aZ)⟩]) rfl ?_
    refine jS [0,1,2,4,5,6,7,8,11,12,13,14,15,16,17,18,19,20,21,22,23,24,25,26,27,28,29,30,31,32,33,36,37,61,62,85,86,87,88,89,90,91,92,93,94,95,96,97] ?_
    refine ah.next ?_
    refine aG ?_
    refine aD ?_
    refine ag.bt 1 rfl ?_
    obtain⟨kR,yZ,h⟩:=aA h
    refine et 1 fP (fL yZ) fun CF=> ?_
    refine bL qx ?_
    refine aD ?_
    refine eB (a1 kK) ?_
    refine fD (fun hb=>fE (i:=1) ((aO.id az).comp eM) (r:=cm.bV) gh (c2 rfl hb) rfl rfl rfl) ?_
    refine fD (fun hb=>ES (c2 rfl hb) (hj 0 rfl)) ?_
    refine eB cj ?_
    refine ag.gg (fun hb=>cj (aa rfl)) rfl rfl rfl rfl rfl ?_
    refine ag.gg (fun hb=>cj (aa rfl)) rfl rfl rfl rfl rfl ?_
    refine ag.gg (fun hb=>iZ Tryz.underlying3 Tryz.underlying130 (c2 rfl hb)) rfl rfl rfl rfl rfl ?_
    refine ag.gg (fun hb=>nP (hj 1 rfl) (c2 rfl hb)) rfl rfl rfl rfl rfl ?_
    refine ag.gg (fun hb=>ti (c2 rfl hb) (hj 1 rfl)) rfl rfl rfl rfl rfl ?_
    refine ag.gg (fun hb=>ES (c2 rfl hb) (c2 rfl hb)) rfl rfl rfl rfl rfl ?_
    refine fD (fun hb=>oH (c2 rfl hb) (aa rfl) (fun h=>⟨hb,h⟩)) ?_
    refine eB ko ?_
    obtain⟨kX,uk,h⟩:=aA h
    refine dd uk (oH (aa rfl) (aa rfl) (fun h=>h)) ?_
    refine aV ?_
    refine dv h (fun h=>?_) fun h=>?_
    ·refine aG ?_
     refine cS 1 cw ?_
     refine aD ?_
     refine g7 g1 er ({ (default:az) with bV:=gX } :az) (iu eM .nil) ?_
     obtain⟨ku,tU,h⟩:=aA h
     refine dd tU (cA (b:=({ (default:b6) with hi:=true,db:=cm,oC:=({ (default:az) with bV:=gX } :az) } :b6)) rfl sc l1 (.cons sK rfl (fz true) rfl (.cons sL rfl (aa rfl) rfl (.cons DL rfl (aa rfl) rfl (.nil))))) ?_
     refine cP 2 hD ?_
     refine aV ?_
     refine ai.ret ?_
     refine ah.e4 ?_
     refine ah.ret ?_
     refine ah.bt 0 rfl ?_
     obtain rfl:=aS h
     exact ah.ez () (.cons_cons _ (List.nil_sublist _)) rfl rfl (jK (i:=2) hD rfl rfl)
    ·refine ai.skip ?_
     refine ah.fF ?_
     refine ah.next ?_
     refine aG ?_
     refine g7 sc l1 (default:b6) .nil ?_
     refine cP 2 hD ?_
     refine aV ?_
     refine ai.ret ?_
     refine ah.bt 0 rfl ?_
     obtain rfl:=aS h
     exact ah.ez () (.cons_cons _ (List.nil_sublist _)) rfl rfl (jK (i:=2) hD rfl rfl)
   ·refine aG ?_
    refine cS 0 cw ?_
    obtain⟨j8,tV,h⟩:=aA h
    refine dd tV (cA (b:=({ (default:b6) with hi:=true,db:=cm } :b6)) rfl sc l1 (.cons sK rfl (fz true) rfl (.cons sL rfl (aa rfl) rfl (.nil)))) ?_
    refine cP 2 hD ?_
    refine aV ?_
    refine ai.ret ?_
    refine ah.e4 ?_
    refine ah.ret ?_
    refine ah.bt 1 rfl ?_
    obtain rfl:=aS h
    exact ah.ez () (.cons_cons _ (List.nil_sublist _)) rfl rfl (jK (i:=2) hD rfl rfl)
end Go.Proofs.YtmnggbjcnoffeaaGreat
namespace Go.Proofs.YtmnggbjcnoffeaaGreat
open Go Gv
set_option linter.unusedVariables false
set_option linter.unusedSimpArgs false
set_option maxRecDepth 100000
set_option maxHeartbeats 2000000
theorem Ia {ab:bm} {al:aZ} {aP:Int} {cb:Nat} {r:bo × bm} (h:u9 ab al aP=some r):bF Tryz.prog 27 [I.eq (.pointer (some ⟨cb,0,none⟩)),I.of (al),I.of (aP)] [⟨some cb,.var (ab:bm)⟩] (δ:=Unit) (fun d=>I.of (r.1)) (fun d=> [⟨some cb,.var (r.2:bm)⟩]):=by
 unfold u9 at h
 refine bF.of Tryz.func27 rfl Tryz.ntmps27 rfl fun W A=> ?_
 refine aG ?_
 refine cL fun a8=> ?_
 refine dI r9 fun bn=> ?_
 refine b2 ?_
 obtain⟨aB,bG,h⟩:=aA h
 obtain⟨bh,dF,h⟩:=aA h
 refine ai.draw mixed 10 [some 13,some 14,some 15,some 16,some 17,some 18,some 19,some 20,some 21,some 7] [[],[0],[],[],[3],[4],[2,5],[1,6],[7],[]] [.val _,.val _,.val _,.val _,.val _,.val _,.val _,.val _,.val _,.new (.var (default:bw))] [false,false,false,false,false,false,false,false,false,false] (by kernel_rfl) rfl rfl rfl (fun du=>⟨H1 (a1 na),hl 1 m5 mL,dW,H1 (a1 na),hl 1 m5 mL,H1 (gO Tryz.underlying28),iM Mc (IF bG),qR dF Tryz.underlying28 fX,H1 (eG fX),Bp k6,trivial⟩) fun du=> ?_
 refine cP 0 fX ?_
 refine bY ?_
 refine ba (a1 nS) ?_
 refine c1 0 lv bP ?_
 refine bp (pz (b:=({ (default:bo) with dD:=(aN al.bA bh).bC } :bo)) [1,4] Jo rfl Md r9 (.cons p8 rfl (aa rfl) rfl (by rfl) (.nil))) ?_
 refine ag.own (α:=b6) 88 ?_
 refine ag.own (α:=az) 43 ?_
 refine ag.nU (z:=(default:bo)) [1,4] Jo r9 rfl fun c0=> ?_
 refine ag.own (α:=b6) 88 ?_
 refine ag.own (α:=az) 43 ?_
 refine ag.qs (i:=2) fH (aa rfl) (aa rfl) rfl ?_
 refine b2 ?_
 refine aG ?_
 refine ba (a1 lW) ?_
 refine c1 5 kg lF ?_
 refine ba (gO Tryz.underlying62) ?_
 refine aD ?_
 refine aV ?_
 refine ai.block ?_
 obtain⟨aE,ar,h⟩:=aA h
 refine la (γ:=(Option Nat × Nat)) (δ:=(Option Nat × Nat)) ar [0,1,2,4,6,7,8,26,27] (fun s1 ay=> [(28,I.of (s1.1))]) (fun s1 ay=> [(2,⟨some c0,.bU (s1.2.1:bo) [(1,a5 ay.1 s1.2.2.1.length ay.2),(4,a5 none ([]:List az).length 0)]⟩),(4,⟨ay.1,.row 88 (s1.2.2.1:List b6) ay.2⟩),(8,⟨some cb,.var (s1.2.2.2:bm)⟩)]) (fun aM=>Exit.exit 0) (fun aM ay=> [(28,I.of (aM.1)),(29,I.of (aM.2.1))]) (fun aM ay=> [(2,⟨some c0,.bU (aM.2.2.1:bo) [(1,a5 ay.1 aM.2.2.2.1.length ay.2),(4,a5 none ([]:List az).length 0)]⟩),(4,⟨ay.1,.row 88 (aM.2.2.2.1:List b6) ay.2⟩),(8,⟨some cb,.var (aM.2.2.2.2:bm)⟩)]) (none,0) (fun s1 r h ay=> ?_) fun ay=> ?_
 ·clear ar
  refine aG ?_
  refine bL gr ?_
  refine b2 ?_
  refine dv h (fun h=>?_) fun h=>?_
  ·refine dE ?_
   refine ai.seq ?_
   refine ai.block ?_
   refine aG ?_
   obtain⟨cC,dV,h⟩:=aA h
   refine jB dV Tryz.underlying62 j4 ?_
   refine ba (eG j4) ?_
   refine dI jM fun iB=> ?_
   refine cP 0 j4 ?_
   refine b2 ?_
   obtain⟨aK,cF,h⟩:=aA h
   obtain⟨bk,gQ,h⟩:=aA h
   refine jh [0,1,2,4,6,7,8,10,26,27,28,29,30,31] ?_
   refine ai.j1 mixed (bb 32 [] [] _ :: bb 33 (0 :: []) (3 :: []) _ :: bb 34 [] [] _ :: bb 35 [] (8 :: []) _ :: bb 36 [] (0 :: []) _ :: ⟨some 37,(2 :: 3 :: 4 :: []),(9 :: []),(9 :: []),fun _=>I.of (aK.1),fun hd _=>⟨some cb,.var (aK.2:bm)⟩⟩ :: bb 38 (5 :: []) [] _ :: ⟨some 39,(1 :: 6 :: []),(5 :: []),(5 :: []),fun hd=>I.eq (a5 (hd 7 0) bk.length ((hd 7 1).getD 0)),fun hd _=>⟨(hd 7 0),.row 88 (bk:List b6) ((hd 7 1).getD 0)⟩⟩ :: bb 40 [] [] _ :: ⟨none,(1 :: 7 :: 8 :: []),(3 :: []),(3 :: []),fun _=>I.any,fun hd _=>⟨some c0,.bU (({ s1.2.1 with c8:= [] } :bo):bo) [(1,a5 (hd 7 0) bk.length ((hd 7 1).getD 0)),(4,a5 none ([]:List az).length 0)]⟩⟩ :: []) _ (0 :: 1 :: 2 :: 4 :: 6 :: 7 :: 8 :: 10 :: 26 :: 27 :: 28 :: 29 :: 30 :: 31 :: []) rfl rfl (by kernel_rfl) ⟨e6 (a1 nT),ca fun hd E' av aw an=>hM (i:=3) (q:=0) (β:=bo) (γ:=b6) nj (aa (aw _ _ rfl)) (an 3 _ rfl rfl) rfl,fi,nq 8 hC,nq 0 j4,?_,ca fun hd E' av aw an=>iH (r:= [aK.1]) Tryz.underlying47 hD l1 rfl rfl (.cons (by simp) (aa (aw _ _ rfl)) (.nil)),?_,e6 (a1 nT),?_,trivial⟩ fun en=> ?_
   ·intro hd E' av aw an
    refine ag.bt 9 (an 9 _ rfl rfl) ?_
    refine ag.k3 (Lin:= [⟨some cb,.var (s1.2.2.2:bm)⟩]) (Lr:=av.eraseIdx 9) Vb (OG cF) ⟨aa (aw _ _ rfl),aa (aw _ _ rfl),aa (aw _ _ rfl),trivial⟩ rfl fun eK=> ?_
    refine ag.nil ?_
    refine ah.back 9 (an 9 _ rfl rfl) ?_
    exact ah.fin (ee []) rfl rfl
   ·intro hd E' av aw an
    refine ag.app (i:=5) Tryz.underlying47 hD l1 (bytes:=64) (by kernel_rfl) (aa (aw _ _ rfl)) (an 5 _ rfl rfl) (aa (aw _ _ rfl)) gQ rfl fun hV fG=> ?_
    refine ag.nil ?_
    exact ah.fin (ee [hV,some fG]) rfl rfl
   ·intro hd E' av aw an
    refine ag.jw (i:=3) (γ:=b6) (b':=(({ s1.2.1 with c8:= [] } :bo):bo)) (os':= [(1,a5 (hd 7 0) bk.length ((hd 7 1).getD 0)),(4,a5 none ([]:List az).length 0)]) ((aO.id bo).comp m4) nj (aa (aw _ _ rfl)) (aa (aw _ _ rfl)) ih (an 3 _ rfl rfl) rfl rfl rfl ?_
    refine ag.nil ?_
    exact ah.fin (ee []) rfl rfl
   refine ah.dT (L2:= [⟨some iB,.var (aN ((aN al.bA bh).cv) cC:cu)⟩,⟨none,.row 43 (([]:List az):List az) 0⟩,⟨none,.row 88 (([]:List b6):List b6) 0⟩,⟨some c0,.bU (({ s1.2.1 with c8:= [] } :bo):bo) [(1,a5 (en 7 0) bk.length ((en 7 1).getD 0)),(4,a5 none ([]:List az).length 0)]⟩,⟨none,.row 43 (([]:List az):List az) 0⟩,⟨(en 7 0),.row 88 (bk:List b6) ((en 7 1).getD 0)⟩,⟨some (du 9),.var (aN al.bA bh:bw)⟩,⟨some bn,.var ((default:bo):bo)⟩,⟨some a8,.var (al:aZ)⟩,⟨some cb,.var (aK.2:bm)⟩]) rfl ?_
   refine jS [0,1,2,4,6,7,8,10,26,27,28,29,30,31,32,34,35,36,37,38,39,40] ?_
   refine ah.next ?_
   refine aG ?_
   refine ba (a1 yp) ?_
   refine c1 0 mo bP ?_
   refine bL gP ?_
   refine aD ?_
   refine eB (a1 yp) ?_
   refine fD (fun hb=>fE (i:=0) ((aO.id cu).comp mo) (r:=(aN ((aN al.bA bh).cv) cC).c9) bP (c2 rfl hb) rfl rfl rfl) ?_
   refine ji gP ?_
   obtain⟨bD,dG,h⟩:=aA h
   refine dd dG (y0 (aa rfl) (aa rfl) (fun h=>h)) ?_
   refine aV ?_
   obtain⟨bH,cM,h⟩:=aA h
   refine lb (γ:=Unit) [0,1,2,4,6,7,8,10,26,27,28,29,48] (fun bf=> []) (fun bf=> [(3,⟨some c0,.bU (bH.1:bo) [(1,a5 (en 7 0) bk.length ((en 7 1).getD 0)),(4,a5 none ([]:List az).length 0)]⟩),(9,⟨some cb,.var (bH.2:bm)⟩)]) (fun bf=> ?_) (fun hm aj=> ?_) fun hm aj=> ?_
   ·clear cM
    refine ah.fF ?_
    refine ah.next ?_
    refine ai.cO ?_
    refine bL ep ?_
    refine aD ?_
    refine ag.nil ?_
    obtain rfl:=aS h
    exact j7 ((en 7 0),((en 7 1).getD 0)) 1
   ·have h:=ij aj cM
    refine ai.cO ?_
    refine aD ?_
    refine ag.bt 9 rfl ?_
    obtain⟨b1,hY,h⟩:=aA h
    refine et 1 fP (fL hY) fun eu=> ?_
    refine bL ep ?_
    refine ba (a1 yt) ?_
    obtain⟨dp,hG,h⟩:=aA h
    refine ag.rS (i:=4) ((aO.id bo).comp w5) (v:=(bu (1 + b1.1):Int)) (b':=(dp:bo)) bP (aa rfl) (aa rfl) rfl rfl (aS hG) (by rfl) ?_
    refine ag.nil ?_
    refine ah.bt 9 rfl ?_
    refine ah.bt 9 rfl ?_
    refine ah.bt 9 rfl ?_
    refine ah.bt 9 rfl ?_
    refine ah.bt 9 rfl ?_
    refine ah.bt 9 rfl ?_
    refine ah.bt 9 rfl ?_
    refine ah.bt 9 rfl ?_
    refine ah.bt 9 rfl ?_
    obtain rfl:=aS h
    exact dZ 0 (hm ())
   ·have h:=ik aj cM
    refine ai.skip ?_
    obtain rfl:=aS h
    exact dZ 0 (hm ())
  ·refine ai.exit ?_
   refine ah.exit ?_
   obtain rfl:=aS h
   exact hn (ay.1,ay.2) 0
 ·clear ar
  refine ah.h4 ?_
  refine ah.next ?_
  refine ai.seq ?_
  obtain⟨cm,iv,h⟩:=aA h
  obtain⟨fu,kt,h⟩:=aA h
  obtain⟨ga,ld,h⟩:=aA h
  refine jh [0,1,2,4,6,7,8,26,27,28,29] ?_
  refine ai.j1 mixed (bb 54 [] [] _ :: bb 55 (0 :: []) (5 :: []) _ :: bb 56 [] [] _ :: bb 57 [] [] _ :: bb 58 (3 :: []) (5 :: []) _ :: bb 59 (4 :: []) [] _ :: ⟨some 60,(2 :: 5 :: []),(8 :: []),(8 :: []),fun _=>I.of (cm.1),fun hd _=>⟨some cb,.var (cm.2:bm)⟩⟩ :: bb 61 (1 :: 6 :: []) [] _ :: bb 62 (7 :: []) [] _ :: bb 63 [] [] _ :: ⟨none,(8 :: 9 :: []),(2 :: []),(2 :: []),fun _=>I.any,fun hd _=>⟨some c0,.bU (ga:bo) [(1,a5 ay.1 aE.2.2.2.1.length ay.2),(4,a5 none ([]:List az).length 0)]⟩⟩ :: []) _ (0 :: 1 :: 2 :: 4 :: 6 :: 7 :: 8 :: 26 :: 27 :: 28 :: 29 :: []) rfl rfl (by kernel_rfl) ⟨e6 (a1 Kt),mQ 5 u2 tW,fi,e6 (a1 Kt),mQ 5 u2 tW,e6 (gO Tryz.underlying63),?_,ca fun hd E' av aw an=>qy (k:=fu) Tryz.underlying63 bP (aa (aw _ _ rfl)) (aa (aw _ _ rfl)) (eU kt),e6 (eG bP),e6 (a1 Ku),?_,trivial⟩ fun ix=> ?_
  ·intro hd E' av aw an
   refine ag.bt 8 (an 8 _ rfl rfl) ?_
   refine ag.k3 (Lin:= [⟨some cb,.var (aE.2.2.2.2:bm)⟩]) (Lr:=av.eraseIdx 8) fP (fL iv) ⟨aa (aw _ _ rfl),aa (aw _ _ rfl),trivial⟩ rfl fun lr=> ?_
   refine ag.nil ?_
   refine ah.back 8 (an 8 _ rfl rfl) ?_
   exact ah.fin (ee []) rfl rfl
  ·intro hd E' av aw an
   refine ag.rS (i:=2) ((aO.id bo).comp DC) (v:=(aN ((aN al.bA bh).dC) fu:Int)) (b':=(ga:bo)) bP (aa (aw _ _ rfl)) (aa (aw _ _ rfl)) (an 2 _ rfl rfl) rfl (aS ld) (by rfl) ?_
   refine ag.nil ?_
   exact ah.fin (ee []) rfl rfl
  refine ah.dT (L2:= [⟨none,.row 43 (([]:List az):List az) 0⟩,⟨none,.row 88 (([]:List b6):List b6) 0⟩,⟨some c0,.bU (ga:bo) [(1,a5 ay.1 aE.2.2.2.1.length ay.2),(4,a5 none ([]:List az).length 0)]⟩,⟨none,.row 43 (([]:List az):List az) 0⟩,⟨ay.1,.row 88 (aE.2.2.2.1:List b6) ay.2⟩,⟨some (du 9),.var (aN al.bA bh:bw)⟩,⟨some bn,.var ((default:bo):bo)⟩,⟨some a8,.var (al:aZ)⟩,⟨some cb,.var (cm.2:bm)⟩]) rfl ?_
  refine jS [0,1,2,4,6,7,8,26,27,28,29,54,55,56,57,58,59,60,61,62,63] ?_
  refine ah.next ?_
  refine ai.seq ?_
  refine aG ?_
  refine cS 7 hC ?_
  refine ba (a1 Ku) ?_
  refine MN 2 DC bP ?_
  obtain⟨cD,iw,h⟩:=aA h
  refine hH Vc (O5 iw) ?_
  refine bp (ER AG Rw Tr rfl (aa rfl) rfl rfl) ?_
  refine ba (gO Tryz.underlying145) ?_
  refine aD ?_
  refine aV ?_
  refine ai.block ?_
  obtain⟨bd,ar,h⟩:=aA h
  refine la (γ:=(Option Nat × Nat)) (δ:=(Option Nat × Nat)) ar [0,1,2,4,6,7,8,26,27,28,29,68,69] (fun s2 bJ=> [(70,I.of (s2.1))]) (fun s2 bJ=> [(2,⟨some c0,.bU (s2.2.1:bo) [(1,a5 ay.1 aE.2.2.2.1.length ay.2),(4,a5 bJ.1 s2.2.2.1.length bJ.2)]⟩),(3,⟨bJ.1,.row 43 (s2.2.2.1:List az) bJ.2⟩),(8,⟨some cb,.var (s2.2.2.2:bm)⟩)]) (fun cY=>Exit.exit 2) (fun cY bJ=> [(70,I.of (cY.1)),(71,I.of (cY.2.1))]) (fun cY bJ=> [(2,⟨some c0,.bU (cY.2.2.1:bo) [(1,a5 ay.1 aE.2.2.2.1.length ay.2),(4,a5 bJ.1 cY.2.2.2.1.length bJ.2)]⟩),(3,⟨bJ.1,.row 43 (cY.2.2.2.1:List az) bJ.2⟩),(8,⟨some cb,.var (cY.2.2.2.2:bm)⟩)]) (none,0) (fun s2 r h bJ=> ?_) fun bJ=> ?_
  ·clear ar
   refine aG ?_
   refine bL gr ?_
   refine b2 ?_
   refine dv h (fun h=>?_) fun h=>?_
   ·refine dE ?_
    refine ai.seq ?_
    refine ai.block ?_
    refine aG ?_
    obtain⟨lO,wC,h⟩:=aA h
    refine jB wC Tryz.underlying145 vX ?_
    refine ba (eG vX) ?_
    refine dI rZ fun Hx=> ?_
    refine cP 0 vX ?_
    refine aV ?_
    obtain⟨ct,l7,h⟩:=aA h
    obtain⟨h0,nr,h⟩:=aA h
    obtain⟨dy,l8,h⟩:=aA h
    obtain⟨e1,o0,h⟩:=aA h
    refine jh [0,1,2,4,6,7,8,12,26,27,28,29,68,69,70,71,72,73] ?_
    refine ai.j1 mixed (bb 74 [] [] _ :: bb 75 (0 :: []) (3 :: []) _ :: bb 76 [] [] _ :: ⟨some 77,(2 :: []),(9 :: []),(9 :: []),fun _=>I.of (ct.1),fun hd _=>⟨some cb,.var (ct.2:bm)⟩⟩ :: bb 78 (3 :: []) [] _ :: bb 79 (4 :: []) [] _ :: bb 80 [] [] _ :: bb 81 (6 :: []) (0 :: []) _ :: bb 82 (5 :: 7 :: []) [] _ :: bb 83 (8 :: []) [] _ :: ⟨some 84,(1 :: 9 :: []),(4 :: []),(4 :: []),fun hd=>I.eq (a5 (hd 10 0) e1.length ((hd 10 1).getD 0)),fun hd _=>⟨(hd 10 0),.row 43 (e1:List az) ((hd 10 1).getD 0)⟩⟩ :: bb 85 [] [] _ :: ⟨none,(1 :: 10 :: 11 :: []),(3 :: []),(3 :: []),fun _=>I.any,fun hd _=>⟨some c0,.bU (({ s2.2.1 with lZ:= [] } :bo):bo) [(1,a5 ay.1 aE.2.2.2.1.length ay.2),(4,a5 (hd 10 0) e1.length ((hd 10 1).getD 0))]⟩⟩ :: []) _ (0 :: 1 :: 2 :: 4 :: 6 :: 7 :: 8 :: 12 :: 26 :: 27 :: 28 :: 29 :: 68 :: 69 :: 70 :: 71 :: 72 :: 73 :: []) rfl rfl (by kernel_rfl) ⟨e6 (a1 BJ),ca fun hd E' av aw an=>hM (i:=3) (q:=1) (β:=bo) (γ:=az) yW (aa (aw _ _ rfl)) (an 3 _ rfl rfl) rfl,fi,?_,e6 (iZ Tryz.underlying3 Tryz.underlying41),ca fun hd E' av aw an=>(cA (b:=({ (default:az) with bV:=BitVec.ofInt 64 ct.1 } :az)) rfl g1 er (.cons eM rfl (aa (aw _ _ rfl)) rfl (.nil))).as (aS nr),e6 (a1 Rx),mQ 0 xr bP,ca fun hd E' av aw an=>lz F4 (D6 l8) ⟨aa (aw _ _ rfl),aa (aw _ _ rfl),trivial⟩,ca fun hd E' av aw an=>iH (r:= [dy]) Tryz.underlying48 cw er rfl rfl (.cons (by simp) (aa (aw _ _ rfl)) (.nil)),?_,e6 (a1 BJ),?_,trivial⟩ fun n9=> ?_
    ·intro hd E' av aw an
     refine ag.bt 9 (an 9 _ rfl rfl) ?_
     refine ag.k3 (Lin:= [⟨some cb,.var (s2.2.2.2:bm)⟩]) (Lr:=av.eraseIdx 9) fP (fL l7) ⟨aa (aw _ _ rfl),bE 256,trivial⟩ rfl fun kD=> ?_
     refine ag.nil ?_
     refine ah.back 9 (an 9 _ rfl rfl) ?_
     exact ah.fin (ee []) rfl rfl
    ·intro hd E' av aw an
     refine ag.app (i:=4) Tryz.underlying48 cw er (bytes:=16) (by kernel_rfl) (aa (aw _ _ rfl)) (an 4 _ rfl rfl) (aa (aw _ _ rfl)) o0 rfl fun lG oR=> ?_
     refine ag.nil ?_
     exact ah.fin (ee [lG,some oR]) rfl rfl
    ·intro hd E' av aw an
     refine ag.jw (i:=3) (γ:=az) (b':=(({ s2.2.1 with lZ:= [] } :bo):bo)) (os':= [(1,a5 ay.1 aE.2.2.2.1.length ay.2),(4,a5 (hd 10 0) e1.length ((hd 10 1).getD 0))]) ((aO.id bo).comp AU) yW (aa (aw _ _ rfl)) (aa (aw _ _ rfl)) ih (an 3 _ rfl rfl) rfl rfl rfl ?_
     refine ag.nil ?_
     exact ah.fin (ee []) rfl rfl
    refine ah.dT (L2:= [⟨some Hx,.var (aN cD.jI lO:hT)⟩,⟨none,.row 43 (([]:List az):List az) 0⟩,⟨none,.row 88 (([]:List b6):List b6) 0⟩,⟨some c0,.bU (({ s2.2.1 with lZ:= [] } :bo):bo) [(1,a5 ay.1 aE.2.2.2.1.length ay.2),(4,a5 (n9 10 0) e1.length ((n9 10 1).getD 0))]⟩,⟨(n9 10 0),.row 43 (e1:List az) ((n9 10 1).getD 0)⟩,⟨ay.1,.row 88 (aE.2.2.2.1:List b6) ay.2⟩,⟨some (du 9),.var (aN al.bA bh:bw)⟩,⟨some bn,.var ((default:bo):bo)⟩,⟨some a8,.var (al:aZ)⟩,⟨some cb,.var (ct.2:bm)⟩]) rfl ?_
    refine jS [0,1,2,4,6,7,8,12,26,27,28,29,68,69,70,71,72,73,74,76,77,78,79,80,81,82,83,84,85] ?_
    refine ah.fF ?_
    refine ah.next ?_
    refine ai.cO ?_
    refine bL ep ?_
    refine aD ?_
    refine ag.nil ?_
    obtain rfl:=aS h
    exact j7 ((n9 10 0),((n9 10 1).getD 0)) 1
   ·refine ai.exit ?_
    refine ah.exit ?_
    obtain rfl:=aS h
    exact hn (bJ.1,bJ.2) 0
  ·clear ar
   refine ah.h4 ?_
   refine ah.next ?_
   refine aG ?_
   refine ag.kM (β:=bo) (γ:=b6) (b':=(({ bd.2.2.1 with c8:=aE.2.2.2.1 } :bo):bo)) ((aO.id bo).comp m4) 2 4 0 rfl rfl rfl rfl rfl rfl ?_
   refine ag.kM (β:=bo) (γ:=az) (b':=(({ ({ bd.2.2.1 with c8:=aE.2.2.2.1 } :bo) with lZ:=bd.2.2.2.1 } :bo):bo)) ((aO.id bo).comp AU) 2 3 0 rfl rfl rfl rfl rfl rfl ?_
   refine ag.nY 2 rfl ?_
   obtain⟨gS,ns,h⟩:=aA h
   refine dd ns (fE (i:=2) (aO.id bo) (r:=({ ({ bd.2.2.1 with c8:=aE.2.2.2.1 } :bo) with lZ:=bd.2.2.2.1 } :bo)) fH (aa rfl) rfl rfl rfl) ?_
   refine cP 6 fH ?_
   refine aV ?_
   refine ai.ret ?_
   refine ah.bt 8 rfl ?_
   obtain rfl:=aS h
   exact ah.ez () (.cons_cons _ (List.nil_sublist _)) rfl rfl (jK (i:=7) fH rfl rfl)
end Go.Proofs.YtmnggbjcnoffeaaGreat
namespace Go.Proofs.YtmnggbjcnoffeaaGreat
open Go Gv
set_option linter.unusedVariables false
set_option linter.unusedSimpArgs false
set_option maxRecDepth 100000
set_option maxHeartbeats 2000000
theorem P4 {hp:aI Cell} {ab:Int} {Q:Ref × (aI Cell)→Prop} (h:Bg hp ab Q):bF Tryz.prog 243 [I.of (ab)] ([] ++ aY hp) (δ:= {r:Ref × (aI Cell) // Q r} × Unit) (fun d=>I.of (d.1.1.1)) (fun d=> [] ++ aY d.1.1.2):=by
 unfold Bg at h
 refine bF.of Tryz.func243 rfl Tryz.ntmps243 rfl fun W A=> ?_
 refine aG ?_
 refine bp (eJ (nK)) ?_
 refine bY ?_
 refine aD ?_
 refine bL BX ?_
 refine bL yF ?_
 obtain⟨bD,dG,h⟩:=ao.bX h
 refine dd dG (cA (b:=({ (default:fb) with fm:=min (max 1 ab) 128 } :fb)) rfl Ts Tt (.cons va rfl (aa rfl) rfl (.nil))) ?_
 refine ag.wb 0 rfl (Cell.iK bD) (fun _=>rfl) (aa rfl) rfl fun cR qQ=> ?_
 replace h:=ao.pA h cR qQ
 refine aT ?_
 refine aV ?_
 refine ai.ret ?_
 exact ah.ez (⟨⟨((some cR.1:Ref),cR.2),h⟩,()⟩: {r // _} × _) (.refl _) rfl rfl (df rfl)
theorem H4 {ab:aH} {al:Int} {r:Bool} (h:u1 ab al=some r):b9 Tryz.prog 279 [I.of (ab),I.ptr al] (I.of (r)):=by
 unfold u1 at h
 refine b9.of Tryz.func279 rfl Tryz.ntmps279 rfl fun W A=> ?_
 refine aG ?_
 refine cL fun a8=> ?_
 refine aT ?_
 refine bY ?_
 refine ba (a1 nV) ?_
 refine c1 0 m2 bP ?_
 refine ba (eG bP) ?_
 refine bL gP ?_
 refine aT ?_
 refine aV ?_
 refine ai.ret ?_
 obtain rfl:=aS h
 exact e8
theorem HZ {ab:List aH} {al:aH→Option Bool} {r:Int} (h:uZ ab al=some r):b9 Tryz.prog 110 [I.of (ab),I.ue Tryz.prog al] (I.of (r)):=by
 unfold uZ at h
 refine b9.of Tryz.func110 rfl Tryz.ntmps110 rfl fun W A=> ?_
 refine aG ?_
 refine aT ?_
 refine b2 ?_
 refine aG ?_
 refine aD ?_
 refine ba (gO Tryz.underlying38) ?_
 refine aD ?_
 refine aV ?_
 refine ai.block ?_
 obtain⟨aE,ar,h⟩:=aA h
 refine la (γ:=Unit) (δ:=Unit) ar [0,1,7] (fun s1 ay=> [(4,I.of (0:Int)),(8,I.of (s1))]) (fun s1 ay=> []) (fun aM=>Sum.elim (fun aM=>Exit.exit 0) (fun aM=>Exit.ret) aM) (fun aM ay=>Sum.elim (fun aM=> [(4,I.of (0:Int)),(8,I.of (aM.1)),(9,I.of (aM.2))]) (fun aM=> [(4,I.of (aM.1)),(5,I.of (aM.2.1)),(8,I.of (aM.2.2.1)),(9,I.of (aM.2.2.2.1)),(16,I.of (aM.2.2.2.2))]) aM) (fun aM ay=>Sum.elim (fun aM=> []) (fun aM=> []) aM) () (fun s1 r h ay=> ?_) fun ay=> ?_
 ·clear ar
  refine aG ?_
  refine bL gr ?_
  refine b2 ?_
  refine dv h (fun h=>?_) fun h=>?_
  ·refine dE ?_
   refine ai.seq ?_
   refine ai.block ?_
   refine aG ?_
   refine aD ?_
   refine aT ?_
   refine bY ?_
   refine aD ?_
   refine aD ?_
   refine aD ?_
   obtain⟨bh,dF,h⟩:=aA h
   refine jB dF Tryz.underlying38 cZ ?_
   refine ba (eG cZ) ?_
   obtain⟨aB,bG,h⟩:=aA h
   refine bp (Bo (aa rfl) (aa rfl) bG) ?_
   refine aV ?_
   refine dv h (fun h=>?_) fun h=>?_
   ·refine aG ?_
    refine aD ?_
    refine aT ?_
    refine aV ?_
    refine ai.ret ?_
    refine ah.e4 ?_
    refine ah.ret ?_
    obtain rfl:=aS h
    exact hn () 0
   ·refine ai.skip ?_
    refine ah.fF ?_
    refine ah.next ?_
    refine ai.cO ?_
    refine bL ep ?_
    refine aD ?_
    refine ag.nil ?_
    obtain rfl:=aS h
    exact j7 () 0
  ·refine ai.exit ?_
   refine ah.exit ?_
   obtain rfl:=aS h
   exact hn () 0
 ·clear ar
  rcases aE with aE | aE
  ·simp only [Sum.elim_inl] at h
   refine ah.h4 ?_
   refine ah.next ?_
   refine aG ?_
   refine aT ?_
   refine aV ?_
   refine ai.ret ?_
   obtain rfl:=aS h
   exact e8
  ·simp only [Sum.elim_inr] at h
   refine ah.e4 ?_
   refine ah.ret ?_
   obtain rfl:=aS h
   exact e8
theorem NQ {ab:List aH} {al:aH} {aP:aH→aH→Option Int} {r:Int × Bool} (h:wY ab al aP=some r):b9 Tryz.prog 274 [I.of (ab),I.of (al),I.CG Tryz.prog aP] (I.eA [I.of (r.1),I.of (r.2)]):=by
 unfold wY at h
 refine b9.of Tryz.func274 rfl Tryz.ntmps274 rfl fun W A=> ?_
 refine aG ?_
 refine cL fun a8=> ?_
 refine aT ?_
 refine aT ?_
 refine bY ?_
 refine aD ?_
 refine ba (gO Tryz.underlying38) ?_
 refine aT ?_
 refine bY ?_
 refine aD ?_
 refine aT ?_
 refine aT ?_
 refine b2 ?_
 refine ai.block ?_
 obtain⟨aE,ar,h⟩:=aA h
 refine la (γ:=Unit) (δ:=Unit) ar [0,1,2,4,6,7,8] (fun s1 ay=> [(9,I.of (s1.1)),(10,I.of (s1.2))]) (fun s1 ay=> []) (fun aM=>Exit.exit 0) (fun aM ay=> [(9,I.of (aM.1)),(10,I.of (aM.2.1)),(17,I.of (aM.2.2))]) (fun aM ay=> []) () (fun s1 r h ay=> ?_) fun ay=> ?_
 ·clear ar
  refine ai.seq ?_
  refine aG ?_
  refine aD ?_
  refine aD ?_
  refine bL gr ?_
  refine aV ?_
  refine dv h (fun h=>?_) fun h=>?_
  ·refine dE ?_
   refine ai.block ?_
   refine aG ?_
   refine aD ?_
   refine aD ?_
   refine bL ep ?_
   refine ba (iZ Tryz.underlying3 Tryz.underlying130) ?_
   refine bp (ye (aa rfl) (hj 1 rfl)) ?_
   refine ba (Sf Tryz.underlying130 Tryz.underlying3) ?_
   refine aT ?_
   refine b2 ?_
   obtain⟨bh,dF,h⟩:=aA h
   obtain⟨aB,bG,h⟩:=aA h
   refine ai.draw mixed 8 [some 24,some 25,some 26,some 27,some 28,some 29,some 30,some 31] [[],[],[],[1,2],[3],[],[0,4,5],[6]] [.val _,.val _,.val _,.val _,.val _,.val _,.val _,.val _] [false,false,false,false,false,false,false,false] (by kernel_rfl) rfl rfl rfl (fun du=>⟨dW,dW,dW,qR dF Tryz.underlying38 cZ,H1 (eG cZ),hr 0 cZ,eO fun av an=>Jp (aa rfl) (aa rfl) (aa rfl) bG,lN gr,trivial⟩) fun du=> ?_
   refine aV ?_
   obtain⟨bH,cM,h⟩:=aA h
   refine lb (γ:=Unit) [0,1,2,4,6,7,8,11,17,31] (fun bf=> [(9,I.of (bH.1)),(10,I.of (bH.2))]) (fun bf=> []) (fun bf=> ?_) (fun hm aj=> ?_) fun hm aj=> ?_
   ·clear cM
    refine ah.fF ?_
    obtain rfl:=aS h
    exact j7 () 0
   ·have h:=ij aj cM
    refine ai.cO ?_
    refine aD ?_
    obtain⟨bD,dG,h⟩:=aA h
    refine dd dG (ep (aa rfl) (bE 1)) ?_
    refine aT ?_
    refine ag.nil ?_
    obtain rfl:=aS h
    exact dZ 0 (hm ())
   ·have h:=ik aj cM
    refine ai.cO ?_
    refine aD ?_
    refine aT ?_
    refine ag.nil ?_
    obtain rfl:=aS h
    exact dZ 0 (hm ())
  ·refine ai.exit ?_
   refine ah.exit ?_
   obtain rfl:=aS h
   exact hn () 0
 ·clear ar
  refine ah.h4 ?_
  refine ah.next ?_
  refine ai.seq ?_
  refine jh [0,1,2,4,7,8,9,10,17] ?_
  obtain⟨cC,dV,h⟩:=aA h
  obtain⟨aK,cF,h⟩:=aA h
  refine ai.draw mixed 15 [some 35,some 36,some 37,some 38,some 39,some 40,some 41,some 42,some 43,some 44,some 45,some 46,some 47,some 48,some 6] [[],[],[],[1,2],[3],[4],[4],[4],[4,6,7],[4,8],[4],[4,5,9,10],[4,11],[4,12],[0]] [.val _,.val _,.val _,.val _,.val _,.val _,.val _,.val _,.val _,.val _,.val _,.val _,.val _,.val _,.val _] [false,false,false,false,false,false,false,false,false,false,false,false,false,false,false] (by kernel_rfl) rfl rfl rfl (fun mP=>⟨dW,dW,dW,lN gr,dW,ia fun av an=>fun hb=>cj (aa rfl),ia fun av an=>fun hb=>cj (aa rfl),ia fun av an=>fun hb=>cj (aa rfl),ia fun av an=>fun hb=>qy (k:=cC) Tryz.underlying38 cZ (c2 rfl hb) (c2 rfl hb) (eU (h2 dV hb)),ia fun av an=>fun hb=>eG cZ (c2 rfl hb),ia fun av an=>fun hb=>fE (i:=0) (aO.id aH) (r:=al) cZ (aa rfl) (an _ _ rfl rfl) rfl rfl,ia fun av an=>fun hb=>Jp (c2 rfl hb) (c2 rfl hb) (c2 rfl hb) (h2 cF hb),ia fun av an=>fun hb=>gP (c2 rfl hb) (bE 0),eO fun av an=>oH (aa rfl) (aa rfl) (fun h=>h),Hw,trivial⟩) fun mP=> ?_
  refine aT ?_
  refine aV ?_
  refine ai.ret ?_
  obtain rfl:=aS h
  exact MM
theorem Io {ab:Int} {r:Bool} (h:xG ab=some r):b9 Tryz.prog 126 [I.of (ab)] (I.of (r)):=by
 unfold xG at h
 refine b9.of Tryz.func126 rfl Tryz.ntmps126 rfl fun W A=> ?_
 refine aG ?_
 refine aT ?_
 refine bY ?_
 refine aD ?_
 refine aD ?_
 refine bL oG ?_
 refine aT ?_
 refine aV ?_
 refine ai.ret ?_
 obtain rfl:=aS h
 exact e8
theorem NV {ab:List cu} {al:cu→Option Bool} {r:Int} (h:w1 ab al=some r):b9 Tryz.prog 146 [I.of (ab),I.ue Tryz.prog al] (I.of (r)):=by
 unfold w1 at h
 refine b9.of Tryz.func146 rfl Tryz.ntmps146 rfl fun W A=> ?_
 refine aG ?_
 refine aT ?_
 refine b2 ?_
 refine aG ?_
 refine aD ?_
 refine ba (gO Tryz.underlying62) ?_
 refine aD ?_
 refine aV ?_
 refine ai.block ?_
 obtain⟨aE,ar,h⟩:=aA h
 refine la (γ:=Unit) (δ:=Unit) ar [0,1,7] (fun s1 ay=> [(4,I.of (0:Int)),(8,I.of (s1))]) (fun s1 ay=> []) (fun aM=>Sum.elim (fun aM=>Exit.exit 0) (fun aM=>Exit.ret) aM) (fun aM ay=>Sum.elim (fun aM=> [(4,I.of (0:Int)),(8,I.of (aM.1)),(9,I.of (aM.2))]) (fun aM=> [(4,I.of (aM.1)),(5,I.of (aM.2.1)),(8,I.of (aM.2.2.1)),(9,I.of (aM.2.2.2.1)),(16,I.of (aM.2.2.2.2))]) aM) (fun aM ay=>Sum.elim (fun aM=> []) (fun aM=> []) aM) () (fun s1 r h ay=> ?_) fun ay=> ?_
 ·clear ar
  refine aG ?_
  refine bL gr ?_
  refine b2 ?_
  refine dv h (fun h=>?_) fun h=>?_
  ·refine dE ?_
   refine ai.seq ?_
   refine ai.block ?_
   refine aG ?_
   refine aD ?_
   refine aT ?_
   refine bY ?_
   refine aD ?_
   refine aD ?_
   refine aD ?_
   obtain⟨bh,dF,h⟩:=aA h
   refine jB dF Tryz.underlying62 j4 ?_
   refine ba (eG j4) ?_
   obtain⟨aB,bG,h⟩:=aA h
   refine bp (Bo (aa rfl) (aa rfl) bG) ?_
   refine aV ?_
   refine dv h (fun h=>?_) fun h=>?_
   ·refine aG ?_
    refine aD ?_
    refine aT ?_
    refine aV ?_
    refine ai.ret ?_
    refine ah.e4 ?_
    refine ah.ret ?_
    obtain rfl:=aS h
    exact hn () 0
   ·refine ai.skip ?_
    refine ah.fF ?_
    refine ah.next ?_
    refine ai.cO ?_
    refine bL ep ?_
    refine aD ?_
    refine ag.nil ?_
    obtain rfl:=aS h
    exact j7 () 0
  ·refine ai.exit ?_
   refine ah.exit ?_
   obtain rfl:=aS h
   exact hn () 0
 ·clear ar
  rcases aE with aE | aE
  ·simp only [Sum.elim_inl] at h
   refine ah.h4 ?_
   refine ah.next ?_
   refine aG ?_
   refine aT ?_
   refine aV ?_
   refine ai.ret ?_
   obtain rfl:=aS h
   exact e8
  ·simp only [Sum.elim_inr] at h
   refine ah.e4 ?_
   refine ah.ret ?_
   obtain rfl:=aS h
   exact e8
theorem OS {ab:cu} {r:Bool} (h:DQ ab=some r):b9 Tryz.prog 207 [I.of (ab)] (I.of (r)):=by
 unfold DQ at h
 refine b9.of Tryz.func207 rfl Tryz.ntmps207 rfl fun W A=> ?_
 refine aG ?_
 refine cL fun a8=> ?_
 refine aT ?_
 refine bY ?_
 refine ba (a1 yp) ?_
 refine c1 0 mo bP ?_
 refine bL gP ?_
 refine aT ?_
 refine aV ?_
 refine ai.ret ?_
 obtain rfl:=aS h
 exact e8
end Go.Proofs.YtmnggbjcnoffeaaGreat
namespace Go.Proofs.YtmnggbjcnoffeaaGreat
open Go Gv
set_option linter.unusedVariables false
set_option linter.unusedSimpArgs false
set_option maxRecDepth 100000
set_option maxHeartbeats 2000000
theorem Ij {hp:aI Cell} {ab:Ref} {r:Bool} (h:vg hp ab=some r):bF Tryz.prog 252 [I.of (ab)] ([] ++ aY hp) (δ:=Unit) (fun _=>I.of (r)) (fun _=> [] ++ aY hp):=by
 unfold vg at h
 refine bF.of Tryz.func252 rfl Tryz.ntmps252 rfl fun W A=> ?_
 refine aG ?_
 refine aT ?_
 refine bY ?_
 refine aD ?_
 obtain⟨bS,cU,h⟩:=aA h
 refine bp (de (dO (aa rfl) cU)) ?_
 refine ba (a1 qi) ?_
 obtain⟨bl,dw,h⟩:=aA h
 refine bp (e7 ((aO.id di).comp p9) (r:=bl.dr) lg (aa rfl) (ei (n:=0) rfl (ja dw) rfl) rfl rfl) ?_
 refine ba ko ?_
 refine aD ?_
 refine eB cj ?_
 obtain⟨bT,eW,h⟩:=aA h
 refine fD (fun hb=>de (dO (c2 rfl hb) (h2 eW hb))) ?_
 refine eB (a1 qj) ?_
 obtain⟨b7,e9,h⟩:=aA h
 refine fD (fun hb=>e7 ((aO.id di).comp p6) (r:=b7.cJ) K6 (c2 rfl hb) (ei (n:=0) rfl (ja (h2 e9 hb)) rfl) rfl rfl) ?_
 refine fD (fun hb=>QZ (b:=(default:Vector Ref 2)) (sz:=1) rfl Tryz.underlying333 (by kernel_rfl) Tu (.nil)) ?_
 refine fD (fun hb=>Q0 Tryz.underlying333 dY Tryz.underlying331 Sg (c2 rfl hb) (c2 rfl hb) Tv) ?_
 refine lI ?_
 refine aT ?_
 refine aV ?_
 refine ai.ret ?_
 obtain rfl:=aS h
 exact ah.ez () (.refl _) rfl rfl (df rfl)
theorem Oc {hp:aI Cell} {ab:Ref} {al:az} {aP:Int} {cE:List cW} {zr:Nat} {EU:Option Nat} {EV:Nat} {r:(List cW)} (h:AH hp ab al aP cE=some r):bF Tryz.prog 257 [I.of (ab),I.of (al),I.of (aP),I.eq (.pointer (some ⟨zr,0,none⟩))] ([⟨some zr,.bU ([]:List cW) [(0,a5 EU cE.length EV)]⟩,⟨EU,.row 347 (cE:List cW) EV⟩] ++ aY hp) (δ:=(Option Nat × Nat)) (fun d=>I.eA []) (fun d=> [⟨some zr,.bU ([]:List cW) [(0,a5 d.1 (r).length d.2)]⟩,⟨d.1,.row 347 (r:List cW) d.2⟩] ++ aY hp):=by
 unfold AH at h
 refine bF.of Tryz.func257 rfl Tryz.ntmps257 rfl fun W A=> ?_
 refine aG ?_
 refine cL fun a8=> ?_
 refine bY ?_
 refine aD ?_
 obtain⟨bS,cU,h⟩:=aA h
 refine bp (de (dO (aa rfl) cU)) ?_
 refine ba (a1 qi) ?_
 obtain⟨bl,dw,h⟩:=aA h
 refine bp (e7 ((aO.id di).comp p9) (r:=bl.dr) lg (aa rfl) (ei (n:=3) rfl (ja dw) rfl) rfl rfl) ?_
 refine aV ?_
 obtain⟨bH,cM,h⟩:=aA h
 refine ai.c5 (γ:=(Option Nat × Nat)) (fun ay=> [(0,I.of (ab)),(1,I.of (al)),(2,I.of (aP)),(3,I.eq (.pointer (some ⟨zr,0,none⟩))),(5,I.eq (.pointer (some ⟨a8,0,none⟩))),(10,I.of (bl.dr))]) (fun ay=>(⟨some a8,.var (al:az)⟩ :: ⟨some zr,.bU ([]:List cW) [(0,a5 ay.1 bH.length ay.2)]⟩ :: ⟨ay.1,.row 347 (bH:List cW) ay.2⟩ :: aY hp)) (aa rfl) (fun ay=> ?_) (fun hm aj=> ?_) (fun hm aj=> ?_)
 ·clear cM
  refine ah.oS ?_
  refine ah.bt 2 rfl ?_
  refine ah.bt 2 rfl ?_
  obtain rfl:=aS h
  exact ah.mD (ay.1,ay.2) (.cons_cons _ (.cons_cons _ (.cons _ (.refl _)))) rfl rfl
 ·have h:=ij aj cM
  refine ai.draw mixed 9 [some 11,some 12,some 13,some 14,some 15,some 16,some 17,some 18,some 19] [[],[],[],[],[3],[4],[5],[1,2,6],[7]] [.val _,.val _,.val _,.val _,.val _,.val _,.val _,.val _,.val _] [false,false,false,false,false,false,false,false,false] (by kernel_rfl) rfl rfl rfl (fun du=>⟨eO fun av an=>hM (i:=1) (q:=0) (β:=List cW) (γ:=cW) Fv (aa rfl) (an _ _ rfl rfl) rfl,hr 0 cw,dW,dW,eO fun av an=>de (dO (aa rfl) cU),H1 (a1 By),eO fun av an=>e7 ((aO.id di).comp A5) (r:=bl.hW) bP (aa rfl) (jx (fun i e q=>an i e q rfl) (ei (n:=3) rfl (ja dw) rfl)) rfl rfl,eO fun av an=>cA (b:= { db:=al,tb:=aP,bC:=bl.hW:cW }) rfl Tw Fw (.cons Od rfl (aa rfl) rfl (.cons N6 rfl (aa rfl) rfl (.cons OH rfl (aa rfl) rfl (.nil)))),eO fun av an=>iH (r:= [{ db:=al,tb:=aP,bC:=bl.hW:cW }]) Tryz.underlying342 K7 Fw rfl rfl (.cons (by simp) (aa rfl) (.nil)),trivial⟩) fun du=> ?_
  obtain⟨aB,bG,h⟩:=aA h
  refine n8 2 Tryz.underlying342 K7 Fw bG fun hV fG=> ?_
  refine ag.jw (i:=1) (γ:=cW) (b':=([]:List cW)) (os':= [(0,a5 hV aB.length fG)]) (aO.id (List cW)) Fv (aa rfl) (aa rfl) ih rfl rfl rfl rfl ?_
  refine ag.nil ?_
  obtain rfl:=aS h
  exact dZ 0 (hm (hV,fG))
 ·have h:=ik aj cM
  refine ai.skip ?_
  obtain rfl:=aS h
  exact dZ 0 (hm (EU,EV))
theorem P5 {ab:BitVec 64} {r:az} (h:Ee ab=some r):b9 Tryz.prog 166 [I.of (ab)] (I.of (r)):=by
 unfold Ee at h
 refine b9.of Tryz.func166 rfl Tryz.ntmps166 rfl fun W A=> ?_
 refine aG ?_
 refine dI er fun a8=> ?_
 refine bY ?_
 refine aD ?_
 refine g7 g1 er ({ (default:az) with bV:=ab } :az) (iu eM .nil) ?_
 refine cP 0 cw ?_
 refine aV ?_
 refine ai.ret ?_
 obtain rfl:=aS h
 exact ah.je rfl (ho 0 cw)
theorem PE {ab:az} {al:Int} {r:az} (h:xN ab al=some r):b9 Tryz.prog 165 [I.of (ab),I.of (al)] (I.of (r)):=by
 unfold xN at h
 refine b9.of Tryz.func165 rfl Tryz.ntmps165 rfl fun W A=> ?_
 refine aG ?_
 refine cL fun a8=> ?_
 refine dI er fun bn=> ?_
 refine b2 ?_
 refine ai.block ?_
 refine aG ?_
 refine aD ?_
 refine bL yG ?_
 refine aT ?_
 refine aV ?_
 refine dv h (fun h=>?_) fun h=>?_
 ·refine aG ?_
  refine cS 1 cw ?_
  refine cP 0 cw ?_
  refine aV ?_
  refine ai.ret ?_
  refine ah.e4 ?_
  refine ah.ret ?_
  obtain rfl:=aS h
  exact ah.je rfl (ho 0 cw)
 ·refine aG ?_
  refine aD ?_
  refine bL nX ?_
  refine aT ?_
  refine aV ?_
  refine dv h (fun h=>?_) fun h=>?_
  ·refine aG ?_
   refine ba (a1 kK) ?_
   refine c1 1 eM gh ?_
   refine aD ?_
   refine bL kn ?_
   refine ba (iZ Tryz.underlying3 Tryz.underlying130) ?_
   refine bL nP ?_
   obtain⟨bD,dG,h⟩:=aA h
   refine dd dG (cA (b:=({ (default:az) with eb:=ab.bV <<< (BitVec.ofInt 64 (bu (al - 64))).toNat } :az)) rfl g1 er (.cons js rfl (aa rfl) rfl (.nil))) ?_
   refine cP 0 cw ?_
   refine aV ?_
   refine ai.ret ?_
   refine ah.e4 ?_
   refine ah.ret ?_
   obtain rfl:=aS h
   exact ah.je rfl (ho 0 cw)
  ·refine ai.skip ?_
   refine ah.fF ?_
   refine ah.next ?_
   refine aG ?_
   refine ba (a1 oB) ?_
   refine c1 1 js gh ?_
   refine aD ?_
   refine ba (iZ Tryz.underlying3 Tryz.underlying130) ?_
   refine bL nP ?_
   refine ba (a1 kK) ?_
   refine c1 1 eM gh ?_
   refine aD ?_
   refine bL kn ?_
   refine ba (iZ Tryz.underlying3 Tryz.underlying130) ?_
   refine bL ye ?_
   obtain⟨dp,hG,h⟩:=aA h
   refine dd hG (vK (aa rfl) (aa rfl)) ?_
   refine ba (a1 kK) ?_
   refine c1 1 eM gh ?_
   refine aD ?_
   refine ba (iZ Tryz.underlying3 Tryz.underlying130) ?_
   refine bL nP ?_
   obtain⟨ga,ld,h⟩:=aA h
   refine dd ld (cA (b:= { eb:=dp,bV:=ab.bV <<< (BitVec.ofInt 64 al).toNat:az }) rfl g1 er (.cons js rfl (aa rfl) rfl (.cons eM rfl (aa rfl) rfl (.nil)))) ?_
   refine cP 0 cw ?_
   refine aV ?_
   refine ai.ret ?_
   obtain rfl:=aS h
   exact ah.je rfl (ho 0 cw)
theorem P6 {ab:az} {al:az} {r:az} (h:Ef ab al=some r):b9 Tryz.prog 167 [I.of (ab),I.of (al)] (I.of (r)):=by
 unfold Ef at h
 refine b9.of Tryz.func167 rfl Tryz.ntmps167 rfl fun W A=> ?_
 refine aG ?_
 refine cL fun a8=> ?_
 refine cL fun bn=> ?_
 refine dI er fun c0=> ?_
 refine bY ?_
 refine ba (a1 oB) ?_
 refine c1 2 js gh ?_
 refine ba (a1 oB) ?_
 refine c1 1 js gh ?_
 refine bL vK ?_
 refine ba (a1 kK) ?_
 refine c1 2 eM gh ?_
 refine ba (a1 kK) ?_
 refine c1 1 eM gh ?_
 refine bL vK ?_
 obtain⟨bD,dG,h⟩:=aA h
 refine dd dG (cA (b:= { eb:=ab.eb ||| al.eb,bV:=ab.bV ||| al.bV:az }) rfl g1 er (.cons js rfl (aa rfl) rfl (.cons eM rfl (aa rfl) rfl (.nil)))) ?_
 refine cP 0 cw ?_
 refine aV ?_
 refine ai.ret ?_
 obtain rfl:=aS h
 exact ah.je rfl (ho 0 cw)
end Go.Proofs.YtmnggbjcnoffeaaGreat
namespace Go.Proofs.YtmnggbjcnoffeaaGreat
open Go Gv
set_option linter.unusedVariables false
set_option linter.unusedSimpArgs false
set_option maxRecDepth 100000
set_option maxHeartbeats 2000000
theorem NW (n:Nat):∀ (hp:aI Cell) (ab:Ref) (al:Ref) (aP:az) (cE:Int) (hz:List cW) (nt:Nat) (qk:Option Nat) (ql:Nat) (r:(List cW)),sH n hp ab al aP cE hz=some r→bF Tryz.prog 258 [I.of (ab),I.of (al),I.of (aP),I.of (cE),I.of (⟨257,some [.pointer (some ⟨nt,0,none⟩)]⟩:Raw)] ([⟨some nt,.bU ([]:List cW) [(0,a5 qk hz.length ql)]⟩,⟨qk,.row 347 (hz:List cW) ql⟩] ++ aY hp) (δ:=(Option Nat × Nat)) (fun d=>I.eA []) (fun d=> [⟨some nt,.bU ([]:List cW) [(0,a5 d.1 (r).length d.2)]⟩,⟨d.1,.row 347 (r:List cW) d.2⟩] ++ aY hp):=by
 induction n with
 | zero=>intro hp ab al aP cE hz nt qk ql r h; simp [sH] at h
 | succ n bz=>
   intro hp ab al aP cE hz nt qk ql r h
   simp only [sH] at h
   refine bF.of Tryz.func258 rfl Tryz.ntmps258 rfl fun W A=> ?_
   refine aG ?_
   refine cL fun a8=> ?_
   refine b2 ?_
   refine aG ?_
   refine aD ?_
   refine bp (lT Tryz.underlying331 (aa rfl)) ?_
   refine aV ?_
   refine dv h (fun h=>?_) fun h=>?_
   ·refine ai.ret ?_
    refine ah.ret ?_
    refine ah.bt 2 rfl ?_
    refine ah.bt 2 rfl ?_
    obtain rfl:=aS h
    exact ah.mD (qk,ql) (.cons_cons _ (.cons_cons _ (.cons _ (.refl _)))) rfl rfl
   ·refine dE ?_
    refine aG ?_
    refine aD ?_
    refine aD ?_
    refine cS 0 cw ?_
    refine aD ?_
    refine ag.bt 2 rfl ?_
    refine ag.bt 2 rfl ?_
    obtain⟨aB,bG,h⟩:=aA h
    refine ag.uQ (fr.Vd (τs:= [I.of (al:Ref),I.of (aP:az),I.of (cE:Int)]) 3 2 rfl Tx (Q1 (aa rfl)) (Oc bG) rfl rfl ⟨aa rfl,aa rfl,aa rfl,trivial⟩) rfl rfl rfl fun aM=> ?_
    refine ag.dT (L2:=(⟨some nt,.bU ([]:List cW) [(0,a5 aM.1 aB.length aM.2)]⟩ :: ⟨aM.1,.row 347 (aB:List cW) aM.2⟩ :: ⟨some a8,.var (aP:az)⟩ :: aY hp)) rfl ?_
    refine b2 ?_
    obtain⟨bS,cU,h⟩:=aA h
    obtain⟨bl,dw,h⟩:=aA h
    refine ai.draw mixed 10 [some 17,some 18,some 19,some 20,some 21,some 22,some 23,some 24,some 25,some 26] [[],[],[1],[2],[3],[4],[],[],[7],[]] [.val _,.val _,.val _,.val _,.val _,.val _,.val _,.val _,.val _,.val _] [false,false,false,false,false,false,false,false,false,false] (by kernel_rfl) rfl rfl rfl (fun du=>⟨dW,dW,eO fun av an=>de (dO (aa rfl) cU),H1 (a1 qj),eO fun av an=>oN (k:=0) r1 (aa rfl) (bE 0) ⟨by decide,rfl⟩,eO fun av an=>e7 (((aO.id di).comp p6).comp (aO.idx (α:=Ref) 2 0 (⟨by decide,rfl⟩:0 < 2∧ (0:Int)=0).1)) (r:=cg bl.cJ 0) dY (aa rfl) (jx (fun i e q=>an i e q rfl) (ei (n:=3) rfl (ja dw) rfl)) rfl rfl,hr 2 cw,dW,lN ep,dW,trivial⟩) fun du=> ?_
    obtain⟨aK,cF,h⟩:=aA h
    refine ag.uQ (fr.im 3 2 rfl Fx (bz _ _ _ _ _ _ _ _ _ _ cF) rfl rfl ⟨aa rfl,aa rfl,aa rfl,aa rfl,aa rfl,trivial⟩) rfl rfl rfl fun eK=> ?_
    refine ag.dT (L2:=(⟨some nt,.bU ([]:List cW) [(0,a5 eK.1 aK.length eK.2)]⟩ :: ⟨eK.1,.row 347 (aK:List cW) eK.2⟩ :: ⟨some a8,.var (aP:az)⟩ :: aY hp)) rfl ?_
    refine aV ?_
    obtain⟨bk,gQ,h⟩:=aA h
    obtain⟨bT,eW,h⟩:=aA h
    obtain⟨b7,e9,h⟩:=aA h
    obtain⟨b1,hY,h⟩:=aA h
    obtain⟨cm,iv,h⟩:=aA h
    refine ai.draw mixed 20 ((some 28) :: (some 29) :: (some 30) :: (some 31) :: (some 32) :: (some 33) :: (some 34) :: (some 35) :: (some 36) :: (some 37) :: (some 38) :: (some 39) :: (some 40) :: (some 41) :: (some 42) :: (some 43) :: (some 44) :: (some 45) :: (some 46) :: (some 47) :: []) ([] :: [] :: [1] :: [2] :: [3] :: [4] :: [] :: [] :: [] :: [8] :: [9] :: [10] :: [11] :: [] :: [12,13] :: [7,14] :: [6,15] :: [] :: [17] :: [] :: []) (.val _ :: .val _ :: .val _ :: .val _ :: .val _ :: .val _ :: .val _ :: .val _ :: .val _ :: .val _ :: .val _ :: .val _ :: .val _ :: .val _ :: .val _ :: .val _ :: .val _ :: .val _ :: .val _ :: .val _ :: []) (false :: false :: false :: false :: false :: false :: false :: false :: false :: false :: false :: false :: false :: false :: false :: false :: false :: false :: false :: false :: []) (by kernel_rfl) rfl rfl rfl (fun mP=>⟨dW,dW,eO fun av an=>de (dO (aa rfl) cU),H1 (a1 qj),eO fun av an=>oN (k:=1) r1 (aa rfl) (bE 1) ⟨by decide,rfl⟩,eO fun av an=>e7 (((aO.id di).comp p6).comp (aO.idx (α:=Ref) 2 1 (⟨by decide,rfl⟩:1 < 2∧ (1:Int)=1).1)) (r:=cg bl.cJ 1) dY (aa rfl) (jx (fun i e q=>an i e q rfl) (ei (n:=3) rfl (ja dw) rfl)) rfl rfl,hr 2 cw,eO fun av an=>lz Ty (P5 gQ) ⟨hj 1 rfl,trivial⟩,dW,eO fun av an=>de (dO (aa rfl) eW),H1 (a1 yg),eO fun av an=>e7 ((aO.id fb).comp va) (r:=b7.fm) bP (aa rfl) (jx (fun i e q=>an i e q rfl) (ei (n:=3) rfl (mB e9) rfl)) rfl rfl,lN kn,dW,lN kn,iM Tz (PE hY),iM TA (P6 iv),dW,lN ep,dW,trivial⟩) fun mP=> ?_
    obtain⟨cD,iw,h⟩:=aA h
    refine ag.uQ (fr.im 3 2 rfl Fx (bz _ _ _ _ _ _ _ _ _ _ iw) rfl rfl ⟨aa rfl,aa rfl,aa rfl,aa rfl,aa rfl,trivial⟩) rfl rfl rfl fun eu=> ?_
    refine ag.dT (L2:=(⟨some nt,.bU ([]:List cW) [(0,a5 eu.1 cD.length eu.2)]⟩ :: ⟨eu.1,.row 347 (cD:List cW) eu.2⟩ :: ⟨some a8,.var (aP:az)⟩ :: aY hp)) rfl ?_
    refine ag.nil ?_
    refine ah.oS ?_
    refine ah.bt 1 rfl ?_
    refine ah.bt 1 rfl ?_
    obtain rfl:=aS h
    exact ah.mD (eu.1,eu.2) (.cons_cons _ (.cons_cons _ (.cons _ (.refl _)))) rfl rfl
theorem N0 {hp:aI Cell} {ab:Ref} {al:Ref} {aP:az} {cE:Int} {hz:List cW} {nt:Nat} {qk:Option Nat} {ql:Nat} {r:(List cW)} (h:Du hp ab al aP cE hz=some r):bF Tryz.prog 258 [I.of (ab),I.of (al),I.of (aP),I.of (cE),I.of (⟨257,some [.pointer (some ⟨nt,0,none⟩)]⟩:Raw)] ([⟨some nt,.bU ([]:List cW) [(0,a5 qk hz.length ql)]⟩,⟨qk,.row 347 (hz:List cW) ql⟩] ++ aY hp) (δ:=(Option Nat × Nat)) (fun d=>I.eA []) (fun d=> [⟨some nt,.bU ([]:List cW) [(0,a5 d.1 (r).length d.2)]⟩,⟨d.1,.row 347 (r:List cW) d.2⟩] ++ aY hp):=NW gu hp ab al aP cE hz nt qk ql r h
theorem N7 {ab:cG} {al:Int} {cb:Nat} {ki:Option Nat} {kj:Nat} {r:Int} (h:AD ab al=some r):bF Tryz.prog 272 [I.eq (.pointer (some ⟨cb,0,none⟩)),I.of (al)] [⟨some cb,.bU (({ ab with cK:= [] } :cG):cG) [(10,a5 ki ab.cK.length kj)]⟩,⟨ki,.row 52 (ab.cK:List aH) kj⟩] (δ:=Unit) (fun d=>I.of (r)) (fun d=> [⟨some cb,.bU (({ ab with cK:= [] } :cG):cG) [(10,a5 ki (ab.cK).length kj)]⟩,⟨ki,.row 52 (ab.cK:List aH) kj⟩]):=by
 unfold AD at h
 refine bF.of Tryz.func272 rfl Tryz.ntmps272 rfl fun W A=> ?_
 refine aG ?_
 refine cL fun a8=> ?_
 refine aT ?_
 refine b2 ?_
 refine aG ?_
 refine aD ?_
 refine bp (Fc Tryz.underlying170 (aa rfl)) ?_
 refine aV ?_
 refine ai.yI (aa rfl) rfl ?_
 refine dE ?_
 refine aG ?_
 refine aD ?_
 refine ba de ?_
 refine ba (a1 rK) ?_
 refine bp (hM (i:=1) (q:=0) (β:=cG) (γ:=aH) qH (aa rfl) rfl rfl) ?_
 refine ag.share (α:=Int) 0 3 rfl rfl ?_
 refine bp (BK (F:=(fun hy=>u1 hy al)) (τs:= [I.ptr al]) K8 ⟨aa rfl,trivial⟩ (fun _ _ h=>H4 h)) ?_
 obtain⟨aB,bG,h⟩:=aA h
 refine bp (bO.Ve (α:=aH) 2 10 rfl rfl tc (lz K9 (HZ bG) ⟨aa rfl,aa rfl,trivial⟩)) ?_
 refine aT ?_
 refine aV ?_
 refine ai.ret ?_
 refine ah.bt 2 rfl ?_
 refine ah.bt 2 rfl ?_
 obtain rfl:=aS h
 exact k9 ()
theorem mn {ab:bm} {cb:Nat} {r:Bool × bm} (h:kH ab=some r):bF Tryz.prog 55 [I.eq (.pointer (some ⟨cb,0,none⟩))] [⟨some cb,.var (ab:bm)⟩] (δ:=Unit) (fun d=>I.of (r.1)) (fun d=> [⟨some cb,.var (r.2:bm)⟩]):=by
 unfold kH at h
 refine bF.of Tryz.func55 rfl Tryz.ntmps55 rfl fun W A=> ?_
 refine aG ?_
 refine aT ?_
 refine bY ?_
 refine aD ?_
 refine ag.bt 0 rfl ?_
 obtain⟨aB,bG,h⟩:=aA h
 refine et 1 fP (fL bG) fun aM=> ?_
 refine bL gP ?_
 refine aT ?_
 refine aV ?_
 refine ai.ret ?_
 refine ah.bt 0 rfl ?_
 obtain rfl:=aS h
 exact k9 ()
end Go.Proofs.YtmnggbjcnoffeaaGreat
namespace Go.Proofs.YtmnggbjcnoffeaaGreat
open Go Gv
set_option linter.unusedVariables false
set_option linter.unusedSimpArgs false
set_option maxRecDepth 100000
set_option maxHeartbeats 2000000
theorem Ow {ab:bm} {cb:Nat} {r:(List dj) × bm} (h:xh ab=some r):bF Tryz.prog 68 [I.eq (.pointer (some ⟨cb,0,none⟩))] [⟨some cb,.var (ab:bm)⟩] (δ:=Unit) (fun d=>I.of (r.1)) (fun d=> [⟨some cb,.var (r.2:bm)⟩]):=by
 unfold xh at h
 refine bF.of Tryz.func68 rfl Tryz.ntmps68 rfl fun W A=> ?_
 refine aG ?_
 refine bp (eJ (look_nil (α:=dj))) ?_
 refine bY ?_
 refine hI ([0,0,65535,3]:List Int) Tryz.underlying63 bP kP ?_
 refine aT ?_
 refine bY ?_
 refine aD ?_
 refine aD ?_
 refine ag.bt 0 rfl ?_
 obtain⟨aB,bG,h⟩:=aA h
 refine et 1 fP (fL bG) fun aM=> ?_
 obtain⟨bh,dF,h⟩:=aA h
 refine jB dF Tryz.underlying63 bP ?_
 refine ba (eG bP) ?_
 refine bp (pz (b:=({ (default:dj) with bC:=1,hB:=1,mq:=4,gG:=aN ([0,0,65535,3]:List Int) bh } :dj)) [3] JZ rfl Fy tC (.cons DW rfl (bE 1) rfl (by rfl) (.cons DD rfl (bE 1) rfl (by rfl) (.cons H5 rfl (bE 4) rfl (by rfl) (.cons Dy rfl (aa rfl) rfl (by rfl) (.nil)))))) ?_
 refine ag.own (α:=fW) 195 ?_
 refine ag.nU (z:=(default:dj)) [3] JZ tC rfl fun a8=> ?_
 refine ag.own (α:=fW) 195 ?_
 refine ag.qs (i:=1) tD (aa rfl) (aa rfl) rfl ?_
 refine bY ?_
 refine bp (cA (b:=({ (default:az) with bV:=1#64 } :az)) rfl g1 er (.cons eM rfl (hj 1 rfl) rfl (.nil))) ?_
 refine bp (cA (b:=({ (default:az) with bV:=15#64 } :az)) rfl g1 er (.cons eM rfl (hj 15 rfl) rfl (.nil))) ?_
 obtain⟨bD,dG,h⟩:=aA h
 refine dd dG (cA (b:= { db:=({ (default:az) with bV:=1#64 } :az),il:=({ (default:az) with bV:=15#64 } :az),oD:=2:fW }) rfl B4 r2 (.cons AW rfl (aa rfl) rfl (.cons A1 rfl (aa rfl) rfl (.cons A2 rfl (bE 2) rfl (.nil))))) ?_
 refine bp (cA (b:=({ (default:az) with bV:=2#64 } :az)) rfl g1 er (.cons eM rfl (hj 2 rfl) rfl (.nil))) ?_
 refine bp (cA (b:=({ (default:az) with bV:=3#64 } :az)) rfl g1 er (.cons eM rfl (hj 3 rfl) rfl (.nil))) ?_
 obtain⟨dp,hG,h⟩:=aA h
 refine dd hG (cA (b:= { db:=({ (default:az) with bV:=2#64 } :az),il:=({ (default:az) with bV:=3#64 } :az),oD:=3:fW }) rfl B4 r2 (.cons AW rfl (aa rfl) rfl (.cons A1 rfl (aa rfl) rfl (.cons A2 rfl (bE 3) rfl (.nil))))) ?_
 refine ag.pN (α:=fW) (r:= [bD,dp]) Tryz.underlying191 B5 r2 rfl rfl (.cons (by simp) (aa rfl) (.cons (by simp) (aa rfl) (.nil))) rfl fun hV=> ?_
 refine ba (a1 Bz) ?_
 refine ag.jw (i:=2) (γ:=fW) (b':=(({ ({ (default:dj) with bC:=1,hB:=1,mq:=4,gG:=aN ([0,0,65535,3]:List Int) bh } :dj) with nQ:= [] } :dj):dj)) (os':= [(3,a5 hV [bD,dp].length 2)]) ((aO.id dj).comp AK) yJ (aa rfl) (aa rfl) ih rfl rfl rfl rfl ?_
 refine b2 ?_
 refine aG ?_
 refine aD ?_
 refine ag.bt 4 rfl ?_
 obtain⟨aK,cF,h⟩:=aA h
 refine et 1 mM (mn cF) fun eK=> ?_
 refine aV ?_
 obtain⟨bH,cM,h⟩:=aA h
 refine lb (γ:=(Option Nat × Nat)) [0,2,3,4,23] (fun ay=> []) (fun ay=> [(0,⟨some cb,.var (bH.1:bm)⟩),(1,⟨ay.1,.row 195 (bH.2:List fW) ay.2⟩),(3,⟨some a8,.bU (({ ({ (default:dj) with bC:=1,hB:=1,mq:=4,gG:=aN ([0,0,65535,3]:List Int) bh } :dj) with nQ:= [] } :dj):dj) [(3,a5 ay.1 bH.2.length ay.2)]⟩)]) (fun ay=> ?_) (fun hm aj=> ?_) fun hm aj=> ?_
 ·clear cM
  refine ah.next ?_
  refine aG ?_
  refine aD ?_
  refine aD ?_
  refine ag.bt 0 rfl ?_
  obtain⟨bk,gQ,h⟩:=aA h
  refine et 1 fP (fL gQ) fun eu=> ?_
  obtain⟨cC,dV,h⟩:=aA h
  refine jB dV Tryz.underlying63 bP ?_
  refine ba (eG bP) ?_
  obtain⟨ga,ld,h⟩:=aA h
  refine dd ld (cA (b:=({ (default:dj) with bC:=2,hB:=2,gG:=aN ([0,0,65535,3]:List Int) cC } :dj)) rfl Fy tC (.cons DW rfl (bE 2) rfl (.cons DD rfl (bE 2) rfl (.cons Dy rfl (aa rfl) rfl (.nil))))) ?_
  refine dI tC fun bn=> ?_
  refine cP 0 tD ?_
  refine bY ?_
  obtain⟨h0,nr,h⟩:=aA h
  refine dd nr (cA (b:=({ (default:dj) with bC:=3,hB:=3,mq:=9,gG:=0 } :dj)) rfl Fy tC (.cons DW rfl (bE 3) rfl (.cons DD rfl (bE 3) rfl (.cons H5 rfl (bE 9) rfl (.cons Dy rfl (bE 0) rfl (.nil)))))) ?_
  refine dI tC fun c0=> ?_
  refine cP 0 tD ?_
  refine b2 ?_
  refine aG ?_
  refine aD ?_
  refine ag.bt 2 rfl ?_
  obtain⟨b1,hY,h⟩:=aA h
  refine et 1 fP (fL hY) fun lr=> ?_
  refine bL gP ?_
  refine aV ?_
  obtain⟨cI,ek,h⟩:=aA h
  refine lb (γ:=Unit) [0,2,3,4,5,6,23,50] (fun bf=> []) (fun bf=> [(0,⟨some cb,.var (cI.1:bm)⟩),(1,⟨some c0,.var (cI.2:dj)⟩)]) (fun bf=> ?_) (fun hm aj=> ?_) fun hm aj=> ?_
  ·clear ek
   refine ah.next ?_
   refine aG ?_
   refine ag.kM (β:=dj) (γ:=fW) (b':=(({ ({ (default:dj) with bC:=1,hB:=1,mq:=4,gG:=aN ([0,0,65535,3]:List Int) bh } :dj) with nQ:=bH.2 } :dj):dj)) ((aO.id dj).comp AK) 5 3 0 rfl rfl rfl rfl rfl rfl ?_
   refine ag.nY 5 rfl ?_
   obtain⟨gS,ns,h⟩:=aA h
   refine dd ns (fE (i:=5) (aO.id dj) (r:=({ ({ (default:dj) with bC:=1,hB:=1,mq:=4,gG:=aN ([0,0,65535,3]:List Int) bh } :dj) with nQ:=bH.2 } :dj)) tD (aa rfl) rfl rfl rfl) ?_
   refine cS 2 tD ?_
   refine cS 1 tD ?_
   refine hI [gS,ga,cI.2] Tryz.underlying26 tD tC ?_
   refine aT ?_
   refine aV ?_
   refine ai.ret ?_
   refine ah.bt 0 rfl ?_
   obtain rfl:=aS h
   exact k9 ()
  ·have h:=ij aj ek
   refine ai.cO ?_
   refine bp (cA (b:=({ (default:az) with bV:=5#64 } :az)) rfl g1 er (.cons eM rfl (hj 5 rfl) rfl (.nil))) ?_
   refine bp (cA (b:=({ (default:az) with bV:=15#64 } :az)) rfl g1 er (.cons eM rfl (hj 15 rfl) rfl (.nil))) ?_
   refine aD ?_
   refine ag.bt 0 rfl ?_
   obtain⟨cm,iv,h⟩:=aA h
   refine et 1 fP (fL iv) fun cY=> ?_
   refine bL ep ?_
   obtain⟨jW,qT,h⟩:=aA h
   refine dd qT (cA (b:= { db:=({ (default:az) with bV:=5#64 } :az),il:=({ (default:az) with bV:=15#64 } :az),oD:=bu (1 + cm.1):fW }) rfl B4 r2 (.cons AW rfl (aa rfl) rfl (.cons A1 rfl (aa rfl) rfl (.cons A2 rfl (aa rfl) rfl (.nil))))) ?_
   refine hI [jW] Tryz.underlying191 B5 r2 ?_
   refine ba (a1 Bz) ?_
   refine wz 1 AK yJ ?_
   refine ag.nil ?_
   obtain rfl:=aS h
   exact dZ 0 (hm ())
  ·have h:=ik aj ek
   refine ai.skip ?_
   obtain rfl:=aS h
   exact dZ 0 (hm ())
 ·have h:=ij aj cM
  obtain⟨cD,iw,h⟩:=aA h
  obtain⟨jE,qU,h⟩:=aA h
  obtain⟨ct,l7,h⟩:=aA h
  obtain⟨fu,kt,h⟩:=aA h
  obtain⟨gX,qV,h⟩:=aA h
  obtain⟨dy,l8,h⟩:=aA h
  refine jh [0,2,3,4,7,8,9,10,11,12,13,14,15,16,17,18,19,20,21,22,23] ?_
  refine ai.j1 mixed (bb 24 [] [] _ :: bb 25 (0 :: []) (3 :: []) _ :: bb 26 [] [] _ :: ⟨some 27,(2 :: []),(0 :: []),(0 :: []),fun _=>I.of (cD.1),fun hd _=>⟨some cb,.var (cD.2:bm)⟩⟩ :: bb 28 (3 :: []) [] _ :: bb 29 (4 :: []) [] _ :: bb 30 (5 :: []) [] _ :: bb 31 [] [] _ :: bb 32 [] [] _ :: bb 33 [] [] _ :: ⟨some 34,(3 :: 9 :: []),(0 :: []),(0 :: []),fun _=>I.of (ct.1),fun hd _=>⟨some cb,.var (ct.2:bm)⟩⟩ :: bb 35 (8 :: 10 :: []) [] _ :: bb 36 (11 :: []) [] _ :: bb 37 (6 :: 7 :: 12 :: []) [] _ :: bb 38 (13 :: []) [] _ :: ⟨some 39,(1 :: 14 :: []),(1 :: []),(1 :: []),fun hd=>I.eq (a5 (hd 15 0) dy.length ((hd 15 1).getD 0)),fun hd _=>⟨(hd 15 0),.row 195 (dy:List fW) ((hd 15 1).getD 0)⟩⟩ :: bb 40 [] [] _ :: ⟨none,(1 :: 15 :: 16 :: []),(3 :: []),(3 :: []),fun _=>I.any,fun hd _=>⟨some a8,.bU (({ ({ (default:dj) with bC:=1,hB:=1,mq:=4,gG:=aN ([0,0,65535,3]:List Int) bh } :dj) with nQ:= [] } :dj):dj) [(3,a5 (hd 15 0) dy.length ((hd 15 1).getD 0))]⟩⟩ :: []) _ (0 :: 2 :: 3 :: 4 :: 7 :: 8 :: 9 :: 10 :: 11 :: 12 :: 13 :: 14 :: 15 :: 16 :: 17 :: 18 :: 19 :: 20 :: 21 :: 22 :: 23 :: []) rfl rfl (by kernel_rfl) ⟨e6 (a1 Bz),ca fun hd E' av aw an=>hM (i:=3) (q:=0) (β:=dj) (γ:=fW) yJ (aa (aw _ _ rfl)) (an 3 _ rfl rfl) rfl,fi,?_,uP TB,e6 (iZ Tryz.underlying3 Tryz.underlying41),ca fun hd E' av aw an=>(cA (b:=({ (default:az) with bV:=BitVec.ofInt 64 (bu (8 * cD.1)) } :az)) rfl g1 er (.cons eM rfl (aa (aw _ _ rfl)) rfl (.nil))).as (aS qU),ca fun hd E' av aw an=>cA (b:=({ (default:az) with bV:=8#64 } :az)) rfl g1 er (.cons eM rfl (hj 8 rfl) rfl (.nil)),fi,fi,?_,ca fun hd E' av aw an=>qy (k:=fu) Tryz.underlying63 bP (aa (aw _ _ rfl)) (aa (aw _ _ rfl)) (eU kt),e6 (eG bP),ca fun hd E' av aw an=>(cA (b:= { db:=jE,il:=({ (default:az) with bV:=8#64 } :az),oD:=aN ([0,0,65535,3]:List Int) fu:fW }) rfl B4 r2 (.cons AW rfl (aa (aw _ _ rfl)) rfl (.cons A1 rfl (aa (aw _ _ rfl)) rfl (.cons A2 rfl (aa (aw _ _ rfl)) rfl (.nil))))).as (aS qV),ca fun hd E' av aw an=>iH (r:= [gX]) Tryz.underlying191 B5 r2 rfl rfl (.cons (by simp) (aa (aw _ _ rfl)) (.nil)),?_,e6 (a1 Bz),?_,trivial⟩ fun en=> ?_
  ·intro hd E' av aw an
   refine ag.bt 0 (an 0 _ rfl rfl) ?_
   refine ag.k3 (Lin:= [⟨some cb,.var (aK.2:bm)⟩]) (Lr:=av.eraseIdx 0) fP (fL iw) ⟨aa (aw _ _ rfl),bE 2,trivial⟩ rfl fun kD=> ?_
   refine ag.nil ?_
   refine ah.back 0 (an 0 _ rfl rfl) ?_
   exact ah.fin (ee []) rfl rfl
  ·intro hd E' av aw an
   refine ag.bt 0 (an 0 _ rfl rfl) ?_
   refine ag.k3 (Lin:= [⟨some cb,.var (cD.2:bm)⟩]) (Lr:=av.eraseIdx 0) fP (fL l7) ⟨aa (aw _ _ rfl),bE 4,trivial⟩ rfl fun wR=> ?_
   refine ag.nil ?_
   refine ah.back 0 (an 0 _ rfl rfl) ?_
   exact ah.fin (ee []) rfl rfl
  ·intro hd E' av aw an
   refine ag.app (i:=1) Tryz.underlying191 B5 r2 (bytes:=40) (by kernel_rfl) (aa (aw _ _ rfl)) (an 1 _ rfl rfl) (aa (aw _ _ rfl)) l8 rfl fun lG fG=> ?_
   refine ag.nil ?_
   exact ah.fin (ee [lG,some fG]) rfl rfl
  ·intro hd E' av aw an
   refine ag.jw (i:=3) (γ:=fW) (b':=(({ ({ (default:dj) with bC:=1,hB:=1,mq:=4,gG:=aN ([0,0,65535,3]:List Int) bh } :dj) with nQ:= [] } :dj):dj)) (os':= [(3,a5 (hd 15 0) dy.length ((hd 15 1).getD 0))]) ((aO.id dj).comp AK) yJ (aa (aw _ _ rfl)) (aa (aw _ _ rfl)) ih (an 3 _ rfl rfl) rfl rfl rfl ?_
   refine ag.nil ?_
   exact ah.fin (ee []) rfl rfl
  refine ah.dT (L2:= [⟨some cb,.var (ct.2:bm)⟩,⟨(en 15 0),.row 195 (dy:List fW) ((en 15 1).getD 0)⟩,⟨none,.row 195 (([]:List fW):List fW) 0⟩,⟨some a8,.bU (({ ({ (default:dj) with bC:=1,hB:=1,mq:=4,gG:=aN ([0,0,65535,3]:List Int) bh } :dj) with nQ:= [] } :dj):dj) [(3,a5 (en 15 0) dy.length ((en 15 1).getD 0))]⟩,⟨none,.row 195 (([]:List fW):List fW) 0⟩]) rfl ?_
  refine jS [0,2,3,4,7,8,9,10,11,12,13,14,15,16,17,18,19,21,22,23,24,26,27,28,29,30,31,32,33,34,35,36,37,38,39,40] ?_
  obtain rfl:=aS h
  exact dZ 0 (hm ((en 15 0),((en 15 1).getD 0)))
 ·have h:=ik aj cM
  refine ai.skip ?_
  obtain rfl:=aS h
  exact dZ 0 (hm (hV,2))
end Go.Proofs.YtmnggbjcnoffeaaGreat
namespace Go.Proofs.YtmnggbjcnoffeaaGreat
open Go Gv
set_option linter.unusedVariables false
set_option linter.unusedSimpArgs false
set_option maxRecDepth 100000
set_option maxHeartbeats 2000000
theorem On {ab:bm} {cb:Nat} {r:(List dB) × bm} (h:xb ab=some r):bF Tryz.prog 69 [I.eq (.pointer (some ⟨cb,0,none⟩))] [⟨some cb,.var (ab:bm)⟩] (δ:=Unit) (fun d=>I.of (r.1)) (fun d=> [⟨some cb,.var (r.2:bm)⟩]):=by
 unfold xb at h
 refine bF.of Tryz.func69 rfl Tryz.ntmps69 rfl fun W A=> ?_
 refine aG ?_
 refine bp (eJ (look_nil (α:=dB))) ?_
 refine bY ?_
 refine g7 B6 yK ({ (default:fc) with c9:=3 } :fc) (iu AJ .nil) ?_
 refine dI yK fun a8=> ?_
 refine cP 0 B7 ?_
 refine b2 ?_
 obtain⟨bD,dG,h⟩:=aA h
 obtain⟨dp,hG,h⟩:=aA h
 obtain⟨ga,ld,h⟩:=aA h
 obtain⟨h0,nr,h⟩:=aA h
 obtain⟨gS,ns,h⟩:=aA h
 obtain⟨jW,qT,h⟩:=aA h
 obtain⟨jE,qU,h⟩:=aA h
 obtain⟨gX,qV,h⟩:=aA h
 obtain⟨kX,uk,h⟩:=aA h
 obtain⟨ku,tU,h⟩:=aA h
 obtain⟨j8,tV,h⟩:=aA h
 obtain⟨lh,tX,h⟩:=aA h
 obtain⟨j9,y1,h⟩:=aA h
 obtain⟨aB,bG,h⟩:=aA h
 obtain⟨kv,y2,h⟩:=aA h
 obtain⟨aK,cF,h⟩:=aA h
 obtain⟨nu,y3,h⟩:=aA h
 obtain⟨oa,y4,h⟩:=aA h
 obtain⟨l9,F5,h⟩:=aA h
 refine ai.pP 1 ?_
 refine jh [0,2,3,5] ?_
 refine ai.j1 mixed (bb 6 [] [] _ :: bb 7 [] [] _ :: bb 8 (1 :: []) [] _ :: bb 9 (2 :: []) [] _ :: bb 10 [] [] _ :: bb 11 (4 :: []) [] _ :: bb 12 [] (0 :: []) _ :: bb 13 (6 :: []) [] _ :: bb 14 (7 :: []) [] _ :: bb 15 (5 :: 8 :: []) [] _ :: bb 16 [] [] _ :: bb 17 (10 :: []) [] _ :: bb 18 [] (0 :: []) _ :: bb 19 (12 :: []) [] _ :: bb 20 [] [] _ :: bb 21 (14 :: []) [] _ :: bb 22 (13 :: 15 :: []) [] _ :: bb 23 (11 :: 16 :: []) [] _ :: bb 24 [] [] _ :: bb 25 [] [] _ :: bb 26 (18 :: 19 :: []) [] _ :: bb 27 [] [] _ :: bb 28 [] (0 :: []) _ :: bb 29 (22 :: []) [] _ :: bb 30 [] [] _ :: bb 31 (24 :: []) [] _ :: bb 32 (21 :: 23 :: 25 :: []) [] _ :: bb 33 (20 :: 26 :: []) [] _ :: bb 34 [] [] _ :: ⟨some 35,(28 :: []),(1 :: []),(1 :: []),fun _=>I.of (aB.1),fun hd _=>⟨some cb,.var (aB.2:bm)⟩⟩ :: bb 36 (29 :: []) [] _ :: bb 37 (30 :: []) [] _ :: bb 38 [] [] _ :: ⟨some 39,(29 :: 32 :: []),(1 :: []),(1 :: []),fun _=>I.of (aK.1),fun hd _=>⟨some cb,.var (aK.2:bm)⟩⟩ :: bb 40 (33 :: []) [] _ :: bb 41 (34 :: []) [] _ :: bb 42 (35 :: []) [] _ :: bb 43 (36 :: []) [] _ :: bb 44 (31 :: 37 :: []) [] _ :: bb 45 (38 :: []) [] _ :: ⟨some 46,(0 :: 3 :: 9 :: 17 :: 27 :: 39 :: []),(2 :: []),(2 :: []),fun hd=>I.eq (a5 (hd 40 0) [bD,dp,gS,gX,j9,l9].length 6),fun hd _=>⟨(hd 40 0),.row 148 ([bD,dp,gS,gX,j9,l9]:List dB) 6⟩⟩ :: ⟨some 4,(40 :: []),[],[],fun hd=>I.eq (a5 (hd 40 0) [bD,dp,gS,gX,j9,l9].length 6),fun _ _=>⟨none,.dead⟩⟩ :: []) _ (0 :: 2 :: 3 :: 5 :: []) rfl rfl (by kernel_rfl) ⟨ca fun hd E' av aw an=>(cA (b:=({ (default:dB) with bC:=1,bZ:=ByteArray.mk #[110,111,112] } :dB)) rfl tB pH (.cons sP rfl (bE 1) rfl (.cons u5 rfl (dn (ByteArray.mk #[110,111,112])) rfl (.nil)))).as (aS dG),ca fun hd E' av aw an=>cA (b:=({ (default:eD) with hF:=6 } :eD)) rfl qz mE (.cons qc rfl (bE 6) rfl (.nil)),ca fun hd E' av aw an=>iH (r:= [({ (default:eD) with hF:=6 } :eD)]) Tryz.underlying146 yL mE rfl rfl (.cons (by simp) (aa (aw _ _ rfl)) (.nil)),ca fun hd E' av aw an=>(cA (b:=({ (default:dB) with bC:=2,bZ:=ByteArray.mk #[100,114,111,112],nb:= [({ (default:eD) with hF:=6 } :eD)] } :dB)) rfl tB pH (.cons sP rfl (bE 2) rfl (.cons u5 rfl (dn (ByteArray.mk #[100,114,111,112])) rfl (.cons xi rfl (aa (aw _ _ rfl)) rfl (.nil))))).as (aS hG),ca fun hd E' av aw an=>(cA (b:= { bZ:=ByteArray.mk #[112,111,114,116],e2:=16:hT }) rfl B8 rZ (.cons AX rfl (dn (ByteArray.mk #[112,111,114,116])) rfl (.cons xr rfl (bE 16) rfl (.nil)))).as (aS ld),ca fun hd E' av aw an=>iH (r:= [ga]) Tryz.underlying145 vX rZ rfl rfl (.cons (by simp) (aa (aw _ _ rfl)) (.nil)),nq 0 B7,ca fun hd E' av aw an=>(cA (b:=({ (default:eD) with hF:=7,j2:=({ (default:fc) with c9:=3 } :fc) } :eD)) rfl qz mE (.cons qc rfl (bE 7) rfl (.cons vh rfl (aa (aw _ _ rfl)) rfl (.nil)))).as (aS nr),ca fun hd E' av aw an=>iH (r:= [h0]) Tryz.underlying146 yL mE rfl rfl (.cons (by simp) (aa (aw _ _ rfl)) (.nil)),ca fun hd E' av aw an=>(cA (b:=({ (default:dB) with bC:=3,bZ:=ByteArray.mk #[102,111,114,119,97,114,100],jI:= [ga],nb:= [h0] } :dB)) rfl tB pH (.cons sP rfl (bE 3) rfl (.cons u5 rfl (dn (ByteArray.mk #[102,111,114,119,97,114,100])) rfl (.cons AG rfl (aa (aw _ _ rfl)) rfl (.cons xi rfl (aa (aw _ _ rfl)) rfl (.nil)))))).as (aS ns),ca fun hd E' av aw an=>cA (b:= { bZ:=ByteArray.mk #[120],e2:=4:hT }) rfl B8 rZ (.cons AX rfl (dn (ByteArray.mk #[120])) rfl (.cons xr rfl (bE 4) rfl (.nil))),ca fun hd E' av aw an=>iH (r:= [{ bZ:=ByteArray.mk #[120],e2:=4:hT }]) Tryz.underlying145 vX rZ rfl rfl (.cons (by simp) (aa (aw _ _ rfl)) (.nil)),nq 0 B7,ca fun hd E' av aw an=>(cA (b:= { hF:=1,jb:=5,j2:=({ (default:fc) with c9:=3 } :fc):eD }) rfl qz mE (.cons qc rfl (bE 1) rfl (.cons sS rfl (bE 5) rfl (.cons vh rfl (aa (aw _ _ rfl)) rfl (.nil))))).as (aS qT),ca fun hd E' av aw an=>(cA (b:=({ (default:fc) with c9:=2,um:=5 } :fc)) rfl B6 yK (.cons AJ rfl (bE 2) rfl (.cons Ic rfl (bE 5) rfl (.nil)))).as (aS qU),ca fun hd E' av aw an=>cA (b:= { hF:=2,jb:=3,j2:=jE:eD }) rfl qz mE (.cons qc rfl (bE 2) rfl (.cons sS rfl (bE 3) rfl (.cons vh rfl (aa (aw _ _ rfl)) rfl (.nil)))),ca fun hd E' av aw an=>iH (r:= [jW,{ hF:=2,jb:=3,j2:=jE:eD }]) Tryz.underlying146 yL mE rfl rfl (.cons (by simp) (aa (aw _ _ rfl)) (.cons (by simp) (aa (aw _ _ rfl)) (.nil))),ca fun hd E' av aw an=>(cA (b:=({ (default:dB) with bC:=4,bZ:=ByteArray.mk #[116,97,103],jI:= [{ bZ:=ByteArray.mk #[120],e2:=4:hT }],nb:= [jW,{ hF:=2,jb:=3,j2:=jE:eD }] } :dB)) rfl tB pH (.cons sP rfl (bE 4) rfl (.cons u5 rfl (dn (ByteArray.mk #[116,97,103])) rfl (.cons AG rfl (aa (aw _ _ rfl)) rfl (.cons xi rfl (aa (aw _ _ rfl)) rfl (.nil)))))).as (aS qV),ca fun hd E' av aw an=>cA (b:= { bZ:=ByteArray.mk #[120],e2:=4:hT }) rfl B8 rZ (.cons AX rfl (dn (ByteArray.mk #[120])) rfl (.cons xr rfl (bE 4) rfl (.nil))),ca fun hd E' av aw an=>cA (b:= { bZ:=ByteArray.mk #[121],e2:=12:hT }) rfl B8 rZ (.cons AX rfl (dn (ByteArray.mk #[121])) rfl (.cons xr rfl (bE 12) rfl (.nil))),ca fun hd E' av aw an=>(iH (r:= [{ bZ:=ByteArray.mk #[120],e2:=4:hT },{ bZ:=ByteArray.mk #[121],e2:=12:hT }]) Tryz.underlying145 vX rZ rfl rfl (.cons (by simp) (aa (aw _ _ rfl)) (.cons (by simp) (aa (aw _ _ rfl)) (.nil)))).as (aS uk),ca fun hd E' av aw an=>cA (b:=({ (default:eD) with hF:=4,jb:=3 } :eD)) rfl qz mE (.cons qc rfl (bE 4) rfl (.cons sS rfl (bE 3) rfl (.nil))),nq 0 B7,ca fun hd E' av aw an=>(cA (b:= { hF:=1,jb:=9,j2:=({ (default:fc) with c9:=3 } :fc):eD }) rfl qz mE (.cons qc rfl (bE 1) rfl (.cons sS rfl (bE 9) rfl (.cons vh rfl (aa (aw _ _ rfl)) rfl (.nil))))).as (aS tU),ca fun hd E' av aw an=>(cA (b:=({ (default:fc) with c9:=3,um:=1 } :fc)) rfl B6 yK (.cons AJ rfl (bE 3) rfl (.cons Ic rfl (bE 1) rfl (.nil)))).as (aS tV),ca fun hd E' av aw an=>cA (b:= { hF:=3,jb:=8,j2:=j8:eD }) rfl qz mE (.cons qc rfl (bE 3) rfl (.cons sS rfl (bE 8) rfl (.cons vh rfl (aa (aw _ _ rfl)) rfl (.nil)))),ca fun hd E' av aw an=>(iH (r:= [({ (default:eD) with hF:=4,jb:=3 } :eD),ku,{ hF:=3,jb:=8,j2:=j8:eD }]) Tryz.underlying146 yL mE rfl rfl (.cons (by simp) (aa (aw _ _ rfl)) (.cons (by simp) (aa (aw _ _ rfl)) (.cons (by simp) (aa (aw _ _ rfl)) (.nil))))).as (aS tX),ca fun hd E' av aw an=>(cA (b:=({ (default:dB) with bC:=5,bZ:=ByteArray.mk #[119,114,97,112],jI:=kX,nb:=lh } :dB)) rfl tB pH (.cons sP rfl (bE 5) rfl (.cons u5 rfl (dn (ByteArray.mk #[119,114,97,112])) rfl (.cons AG rfl (aa (aw _ _ rfl)) rfl (.cons xi rfl (aa (aw _ _ rfl)) rfl (.nil)))))).as (aS y1),fi,?_,uP ep,ca fun hd E' av aw an=>(cA (b:=({ (default:eD) with hF:=5,jb:=bu (2 + aB.1) } :eD)) rfl qz mE (.cons qc rfl (bE 5) rfl (.cons sS rfl (aa (aw _ _ rfl)) rfl (.nil)))).as (aS y2),fi,?_,e6 (iZ Tryz.underlying3 Tryz.underlying41),ca fun hd E' av aw an=>(cA (b:=({ (default:az) with bV:=BitVec.ofInt 64 aK.1 } :az)) rfl g1 er (.cons eM rfl (aa (aw _ _ rfl)) rfl (.nil))).as (aS y3),ca fun hd E' av aw an=>(cA (b:=({ (default:fc) with c9:=1,db:=nu } :fc)) rfl B6 yK (.cons AJ rfl (bE 1) rfl (.cons Oe rfl (aa (aw _ _ rfl)) rfl (.nil)))).as (aS y4),ca fun hd E' av aw an=>cA (b:= { hF:=2,jb:=6,j2:=oa:eD }) rfl qz mE (.cons qc rfl (bE 2) rfl (.cons sS rfl (bE 6) rfl (.cons vh rfl (aa (aw _ _ rfl)) rfl (.nil)))),ca fun hd E' av aw an=>iH (r:= [kv,{ hF:=2,jb:=6,j2:=oa:eD }]) Tryz.underlying146 yL mE rfl rfl (.cons (by simp) (aa (aw _ _ rfl)) (.cons (by simp) (aa (aw _ _ rfl)) (.nil))),ca fun hd E' av aw an=>(cA (b:=({ (default:dB) with bC:=6,bZ:=ByteArray.mk #[115,116,114,105,112],nb:= [kv,{ hF:=2,jb:=6,j2:=oa:eD }] } :dB)) rfl tB pH (.cons sP rfl (bE 6) rfl (.cons u5 rfl (dn (ByteArray.mk #[115,116,114,105,112])) rfl (.cons xi rfl (aa (aw _ _ rfl)) rfl (.nil))))).as (aS F5),?_,?_,trivial⟩ fun en=> ?_
 ·intro hd E' av aw an
  refine ag.bt 1 (an 1 _ rfl rfl) ?_
  refine ag.k3 (Lin:= [⟨some cb,.var (ab:bm)⟩]) (Lr:=av.eraseIdx 1) fP (fL bG) ⟨aa (aw _ _ rfl),bE 2,trivial⟩ rfl fun aM=> ?_
  refine ag.nil ?_
  refine ah.back 1 (an 1 _ rfl rfl) ?_
  exact ah.fin (ee []) rfl rfl
 ·intro hd E' av aw an
  refine ag.bt 1 (an 1 _ rfl rfl) ?_
  refine ag.k3 (Lin:= [⟨some cb,.var (aB.2:bm)⟩]) (Lr:=av.eraseIdx 1) fP (fL cF) ⟨aa (aw _ _ rfl),bE 256,trivial⟩ rfl fun eK=> ?_
  refine ag.nil ?_
  refine ah.back 1 (an 1 _ rfl rfl) ?_
  exact ah.fin (ee []) rfl rfl
 ·intro hd E' av aw an
  refine ag.pN (α:=dB) (r:= [bD,dp,gS,gX,j9,l9]) Tryz.underlying27 oF pH rfl rfl (.cons (by simp) (aa (aw _ _ rfl)) (.cons (by simp) (aa (aw _ _ rfl)) (.cons (by simp) (aa (aw _ _ rfl)) (.cons (by simp) (aa (aw _ _ rfl)) (.cons (by simp) (aa (aw _ _ rfl)) (.cons (by simp) (aa (aw _ _ rfl)) (.nil))))))) rfl fun hV=> ?_
  refine ag.nil ?_
  refine ah.place 2 (an 2 _ rfl rfl) ?_
  exact ah.fin (ee [hV]) rfl rfl
 ·intro hd E' av aw an
  refine bp (eJ (aa (aw _ _ rfl))) ?_
  refine ag.nil ?_
  exact ah.fin (ee []) rfl rfl
 refine ah.dT (L2:= [⟨some a8,.var (({ (default:fc) with c9:=3 } :fc):fc)⟩,⟨some cb,.var (aK.2:bm)⟩,⟨(en 40 0),.row 148 ([bD,dp,gS,gX,j9,l9]:List dB) 6⟩]) rfl ?_
 refine jS [0,2,3,4,5,6,7,8,9,10,11,12,13,14,15,16,17,18,19,20,21,22,23,24,25,26,27,28,29,30,31,32,33,34,35,36,37,38,39,40,41,42,43,44,45,46] ?_
 refine ah.bt 2 rfl ?_
 refine ah.next ?_
 refine ai.seq ?_
 refine aG ?_
 refine aD ?_
 refine ag.bt 2 rfl ?_
 obtain⟨bk,gQ,h⟩:=aA h
 refine et 1 mM (mn gQ) fun eu=> ?_
 refine aV ?_
 obtain⟨bH,cM,h⟩:=aA h
 refine lb (γ:=(Option Nat × Nat)) [0,2,3,48] (fun ay=> [(4,I.eq (a5 ay.1 bH.length ay.2))]) (fun ay=> [(1,⟨ay.1,.row 148 (bH:List dB) ay.2⟩)]) (fun ay=> ?_) (fun hm aj=> ?_) fun hm aj=> ?_
 ·clear cM
  refine ah.next ?_
  refine ai.seq ?_
  refine aG ?_
  refine aD ?_
  refine ag.bt 0 rfl ?_
  obtain⟨b1,hY,h⟩:=aA h
  refine et 1 mM (mn hY) fun lr=> ?_
  refine aV ?_
  obtain⟨cI,ek,h⟩:=aA h
  refine lb (γ:=(Option Nat × Nat)) [0,2,3,48,53] (fun bf=> [(4,I.eq (a5 bf.1 cI.length bf.2))]) (fun bf=> [(1,⟨bf.1,.row 148 (cI:List dB) bf.2⟩)]) (fun bf=> ?_) (fun hm aj=> ?_) fun hm aj=> ?_
  ·clear ek
   refine ah.next ?_
   refine aG ?_
   refine aD ?_
   refine aT ?_
   refine aV ?_
   refine ai.ret ?_
   refine ah.m7 (α:=dB) 1 [2,4,57] ⟨rfl,rfl,rfl,trivial⟩ rfl ?_
   refine ah.bt 0 rfl ?_
   obtain rfl:=aS h
   exact k9 ()
  ·have h:=ij aj ek
   refine ai.cO ?_
   refine aD ?_
   obtain⟨bh,dF,h⟩:=aA h
   refine bp (oI (i:=1) (k:=bh) (xs:=(bH:List dB)) Tryz.underlying27 oF (aa rfl) (bE 4) rfl (eU dF)) ?_
   refine ba (a1 J0) ?_
   obtain⟨qW,y5,h⟩:=aA h
   refine ag.yu (i:=1) (k:=bh) ((aO.id dB).comp H0) (v:=(ByteArray.mk #[120,32,60,32,121,32,124,124,32,120,32,61,61,32,49,53]:ByteArray)) (r:=(qW:List dB)) o1 (aa rfl) (dn (ByteArray.mk #[120,32,60,32,121,32,124,124,32,120,32,61,61,32,49,53])) rfl (eU dF).1 rfl (aS y5) ?_
   refine ag.nZ (m:=qW.length) 4 rfl (oz (aS y5)) ?_
   refine ag.nZ (m:=qW.length) 54 rfl (oz (aS y5)) ?_
   refine ag.nil ?_
   obtain rfl:=aS h
   exact dZ 0 (hm (ay.1,ay.2))
  ·have h:=ik aj ek
   refine ai.skip ?_
   obtain rfl:=aS h
   exact dZ 0 (hm (ay.1,ay.2))
 ·have h:=ij aj cM
  refine ai.cO ?_
  refine aD ?_
  obtain⟨cC,dV,h⟩:=aA h
  refine bp (oI (i:=1) (k:=cC) (xs:=([bD,dp,gS,gX,j9,l9]:List dB)) Tryz.underlying27 oF (aa rfl) (bE 2) rfl (eU dV)) ?_
  refine ba (a1 J0) ?_
  obtain⟨pU,we,h⟩:=aA h
  refine ag.yu (i:=1) (k:=cC) ((aO.id dB).comp H0) (v:=(ByteArray.mk #[112,111,114,116,32,33,61,32,48]:ByteArray)) (r:=(pU:List dB)) o1 (aa rfl) (dn (ByteArray.mk #[112,111,114,116,32,33,61,32,48])) rfl (eU dV).1 rfl (aS we) ?_
  refine ag.nZ (m:=pU.length) 4 rfl (oz (aS we)) ?_
  refine ag.nZ (m:=pU.length) 46 rfl (oz (aS we)) ?_
  refine ag.nZ (m:=pU.length) 49 rfl (oz (aS we)) ?_
  refine ag.nil ?_
  obtain rfl:=aS h
  exact dZ 0 (hm ((en 40 0),6))
 ·have h:=ik aj cM
  refine ai.skip ?_
  obtain rfl:=aS h
  exact dZ 0 (hm ((en 40 0),6))
end Go.Proofs.YtmnggbjcnoffeaaGreat
namespace Go.Proofs.YtmnggbjcnoffeaaGreat
open Go Gv
set_option linter.unusedVariables false
set_option linter.unusedSimpArgs false
set_option maxRecDepth 100000
set_option maxHeartbeats 2000000
theorem Ox {ab:bm} {cb:Nat} {r:(List bw) × bm} (h:xj ab=some r):bF Tryz.prog 70 [I.eq (.pointer (some ⟨cb,0,none⟩))] [⟨some cb,.var (ab:bm)⟩] (δ:=Unit) (fun d=>I.of (r.1)) (fun d=> [⟨some cb,.var (r.2:bm)⟩]):=by
 unfold xj at h
 refine bF.of Tryz.func70 rfl Tryz.ntmps70 rfl fun W A=> ?_
 refine aG ?_
 refine bp (eJ (look_nil (α:=bw))) ?_
 refine bY ?_
 obtain⟨bD,dG,h⟩:=aA h
 refine dd dG (cA (b:= { bZ:=ByteArray.mk #[97],gq:=4,c9:=1:cu }) rfl qI jM (.cons qb rfl (dn (ByteArray.mk #[97])) rfl (.cons ov rfl (bE 4) rfl (.cons mo rfl (bE 1) rfl (.nil))))) ?_
 refine hI [bD] Tryz.underlying62 j4 jM ?_
 refine hI ([1,2,4]:List Int) Tryz.underlying63 bP kP ?_
 refine aD ?_
 refine ag.bt 0 rfl ?_
 obtain⟨aB,bG,h⟩:=aA h
 refine et 1 fP (fL bG) fun aM=> ?_
 refine bL ep ?_
 refine aD ?_
 refine ag.bt 0 rfl ?_
 obtain⟨aK,cF,h⟩:=aA h
 refine et 1 fP (fL cF) fun eK=> ?_
 refine bL ep ?_
 obtain⟨dp,hG,h⟩:=aA h
 refine dd hG (cA (b:=({ (default:bw) with bC:=1,bZ:=ByteArray.mk #[112,111,114,116,115],cv:= [bD],dC:=([1,2,4]:List Int),gG:=bu (1 + aB.1),fv:=bu (2 + aK.1) } :bw)) rfl y6 k6 (.cons lv rfl (bE 1) rfl (.cons AY rfl (dn (ByteArray.mk #[112,111,114,116,115])) rfl (.cons kg rfl (aa rfl) rfl (.cons u2 rfl (aa rfl) rfl (.cons AI rfl (aa rfl) rfl (.cons rC rfl (aa rfl) rfl (.nil)))))))) ?_
 refine dI k6 fun a8=> ?_
 refine cP 0 fX ?_
 refine bY ?_
 obtain⟨ga,ld,h⟩:=aA h
 refine dd ld (cA (b:= { bZ:=ByteArray.mk #[100],gq:=7,c9:=2:cu }) rfl qI jM (.cons qb rfl (dn (ByteArray.mk #[100])) rfl (.cons ov rfl (bE 7) rfl (.cons mo rfl (bE 2) rfl (.nil))))) ?_
 refine ag.pN (α:=cu) (r:= [ga]) Tryz.underlying62 j4 jM rfl rfl (.cons (by simp) (aa rfl) (.nil)) rfl fun hV=> ?_
 refine hI ([1,2,3,4]:List Int) Tryz.underlying63 bP kP ?_
 refine aD ?_
 refine ag.bt 2 rfl ?_
 obtain⟨bk,gQ,h⟩:=aA h
 refine et 1 fP (fL gQ) fun eu=> ?_
 refine bL ep ?_
 refine bp (pz (b:=({ (default:bw) with bC:=2,bZ:=ByteArray.mk #[114,111,117,116,101,115],dC:=([1,2,3,4]:List Int),gG:=2,fv:=bu (3 + bk.1) } :bw)) [] Fe rfl y6 k6 (.cons lv rfl (bE 2) rfl (by rfl) (.cons AY rfl (dn (ByteArray.mk #[114,111,117,116,101,115])) rfl (by rfl) (.hole kg rfl (aa rfl) ih rfl rfl (.cons u2 rfl (aa rfl) rfl (by rfl) (.cons AI rfl (bE 2) rfl (by rfl) (.cons rC rfl (aa rfl) rfl (by rfl) (.nil)))))))) ?_
 refine ag.nU (z:=(default:bw)) [2] Ff k6 rfl fun bn=> ?_
 refine ag.own (α:=cu) 86 ?_
 refine ag.qs (i:=1) fX (aa rfl) (aa rfl) rfl ?_
 refine b2 ?_
 refine aG ?_
 refine aD ?_
 refine ag.bt 2 rfl ?_
 obtain⟨b1,hY,h⟩:=aA h
 refine et 1 mM (mn hY) fun lr=> ?_
 refine aV ?_
 obtain⟨bH,cM,h⟩:=aA h
 refine lb (γ:=(Option Nat × Nat)) [0,2,3,4,28] (fun ay=> []) (fun ay=> [(2,⟨some bn,.bU (bH.1:bw) [(2,a5 ay.1 bH.2.length ay.2)]⟩),(3,⟨ay.1,.row 86 (bH.2:List cu) ay.2⟩)]) (fun ay=> ?_) (fun hm aj=> ?_) fun hm aj=> ?_
 ·clear cM
  refine ah.next ?_
  refine aG ?_
  obtain⟨h0,nr,h⟩:=aA h
  refine dd nr (cA (b:= { bZ:=ByteArray.mk #[101],gq:=6,c9:=3:cu }) rfl qI jM (.cons qb rfl (dn (ByteArray.mk #[101])) rfl (.cons ov rfl (bE 6) rfl (.cons mo rfl (bE 3) rfl (.nil))))) ?_
  obtain⟨gS,ns,h⟩:=aA h
  refine dd ns (cA (b:= { bZ:=ByteArray.mk #[97],gq:=4,c9:=3:cu }) rfl qI jM (.cons qb rfl (dn (ByteArray.mk #[97])) rfl (.cons ov rfl (bE 4) rfl (.cons mo rfl (bE 3) rfl (.nil))))) ?_
  refine ag.pN (α:=cu) (r:= [h0,gS]) Tryz.underlying62 j4 jM rfl rfl (.cons (by simp) (aa rfl) (.cons (by simp) (aa rfl) (.nil))) rfl fun lG=> ?_
  refine hI ([1,2,3,5,6]:List Int) Tryz.underlying63 bP kP ?_
  refine aD ?_
  refine ag.bt 1 rfl ?_
  obtain⟨cm,iv,h⟩:=aA h
  refine et 1 fP (fL iv) fun cY=> ?_
  refine bL ep ?_
  refine bp (pz (b:=({ (default:bw) with bC:=3,bZ:=ByteArray.mk #[97,99,108],dC:=([1,2,3,5,6]:List Int),gG:=1,fv:=bu (4 + cm.1) } :bw)) [] Fe rfl y6 k6 (.cons lv rfl (bE 3) rfl (by rfl) (.cons AY rfl (dn (ByteArray.mk #[97,99,108])) rfl (by rfl) (.hole kg rfl (aa rfl) ih rfl rfl (.cons u2 rfl (aa rfl) rfl (by rfl) (.cons AI rfl (bE 1) rfl (by rfl) (.cons rC rfl (aa rfl) rfl (by rfl) (.nil)))))))) ?_
  refine ag.nU (z:=(default:bw)) [2] Ff k6 rfl fun c0=> ?_
  refine ag.own (α:=cu) 86 ?_
  refine ag.qs (i:=1) fX (aa rfl) (aa rfl) rfl ?_
  refine b2 ?_
  refine aG ?_
  refine aD ?_
  refine ag.bt 2 rfl ?_
  obtain⟨cD,iw,h⟩:=aA h
  refine et 1 mM (mn iw) fun kD=> ?_
  refine aV ?_
  obtain⟨cI,ek,h⟩:=aA h
  refine lb (γ:=(Option Nat × Nat)) [0,2,3,4,5,28,44] (fun bf=> []) (fun bf=> [(2,⟨some c0,.bU (cI.1:bw) [(2,a5 bf.1 cI.2.length bf.2)]⟩),(3,⟨bf.1,.row 86 (cI.2:List cu) bf.2⟩)]) (fun bf=> ?_) (fun hm aj=> ?_) fun hm aj=> ?_
  ·clear ek
   refine ah.next ?_
   refine aG ?_
   obtain⟨jW,qT,h⟩:=aA h
   refine dd qT (cA (b:= { bZ:=ByteArray.mk #[102],gq:=8,c9:=4:cu }) rfl qI jM (.cons qb rfl (dn (ByteArray.mk #[102])) rfl (.cons ov rfl (bE 8) rfl (.cons mo rfl (bE 4) rfl (.nil))))) ?_
   refine ag.pN (α:=cu) (r:= [jW]) Tryz.underlying62 j4 jM rfl rfl (.cons (by simp) (aa rfl) (.nil)) rfl fun nm=> ?_
   refine hI ([1,3,5]:List Int) Tryz.underlying63 bP kP ?_
   refine bp (cA (b:=({ (default:az) with bV:=7#64 } :az)) rfl g1 er (.cons eM rfl (hj 7 rfl) rfl (.nil))) ?_
   refine hI [({ (default:az) with bV:=7#64 } :az)] Tryz.underlying48 cw er ?_
   refine aD ?_
   refine ag.bt 1 rfl ?_
   obtain⟨ct,l7,h⟩:=aA h
   refine et 1 fP (fL l7) fun wR=> ?_
   refine bL ep ?_
   refine bp (pz (b:=({ (default:bw) with bC:=4,bZ:=ByteArray.mk #[115,112,97,110,115],dC:=([1,3,5]:List Int),gG:=3,sX:= [({ (default:az) with bV:=7#64 } :az)],fv:=bu (3 + ct.1) } :bw)) [] Fe rfl y6 k6 (.cons lv rfl (bE 4) rfl (by rfl) (.cons AY rfl (dn (ByteArray.mk #[115,112,97,110,115])) rfl (by rfl) (.hole kg rfl (aa rfl) ih rfl rfl (.cons u2 rfl (aa rfl) rfl (by rfl) (.cons AI rfl (bE 3) rfl (by rfl) (.cons NX rfl (aa rfl) rfl (by rfl) (.cons rC rfl (aa rfl) rfl (by rfl) (.nil))))))))) ?_
   refine ag.nU (z:=(default:bw)) [2] Ff k6 rfl fun iB=> ?_
   refine ag.own (α:=cu) 86 ?_
   refine ag.qs (i:=1) fX (aa rfl) (aa rfl) rfl ?_
   refine b2 ?_
   refine aG ?_
   refine aD ?_
   refine ag.bt 2 rfl ?_
   obtain⟨dy,l8,h⟩:=aA h
   refine et 1 mM (mn l8) fun Ac=> ?_
   refine aV ?_
   obtain⟨ft,ht,h⟩:=aA h
   refine lb (γ:=(Option Nat × Nat)) [0,2,3,4,5,6,28,44,61] (fun bJ=> []) (fun bJ=> [(2,⟨some iB,.bU (ft.1:bw) [(2,a5 bJ.1 ft.2.length bJ.2)]⟩),(3,⟨bJ.1,.row 86 (ft.2:List cu) bJ.2⟩)]) (fun bJ=> ?_) (fun hm aj=> ?_) fun hm aj=> ?_
   ·clear ht
    refine ah.next ?_
    refine aG ?_
    refine cS 10 fX ?_
    refine ag.kM (β:=bw) (γ:=cu) (b':=(({ bH.1 with cv:=bH.2 } :bw):bw)) ((aO.id bw).comp kg) 8 9 0 rfl rfl rfl rfl rfl rfl ?_
    refine ag.nY 8 rfl ?_
    refine cS 8 fX ?_
    refine ag.kM (β:=bw) (γ:=cu) (b':=(({ cI.1 with cv:=cI.2 } :bw):bw)) ((aO.id bw).comp kg) 5 6 0 rfl rfl rfl rfl rfl rfl ?_
    refine ag.nY 5 rfl ?_
    refine cS 5 fX ?_
    refine ag.kM (β:=bw) (γ:=cu) (b':=(({ ft.1 with cv:=ft.2 } :bw):bw)) ((aO.id bw).comp kg) 2 3 0 rfl rfl rfl rfl rfl rfl ?_
    refine ag.nY 2 rfl ?_
    refine cS 2 fX ?_
    obtain⟨jE,qU,h⟩:=aA h
    refine ag.Me (α:=bw) (r0:= [dp,({ bH.1 with cv:=bH.2 } :bw),({ cI.1 with cv:=cI.2 } :bw),({ ft.1 with cv:=ft.2 } :bw)]) (r:=jE) Tryz.underlying28 fX k6 rfl rfl (.cons (by simp) (aa rfl) (.cons (by simp) (aa rfl) (.cons (by simp) (aa rfl) (.cons (by simp) (aa rfl) (.nil))))) (aS qU) rfl fun wg=> ?_
    refine aT ?_
    refine bY ?_
    obtain⟨gX,qV,h⟩:=aA h
    refine dd qV (iH (r:= [ByteArray.mk #[],ByteArray.mk #[97,32,33,61,32,48],ByteArray.mk #[97,32,60,32,49,52,32,38,38,32,97,32,33,61,32,51]]) Tryz.underlying200 o1 CH rfl rfl (.cons (by simp) (dn (ByteArray.mk #[])) (.cons (by simp) (dn (ByteArray.mk #[97,32,33,61,32,48])) (.cons (by simp) (dn (ByteArray.mk #[97,32,60,32,49,52,32,38,38,32,97,32,33,61,32,51])) (.nil))))) ?_
    obtain⟨kX,uk,h⟩:=aA h
    refine dd uk (iH (r:= [ByteArray.mk #[],ByteArray.mk #[100,58,58,112,114,101,102,105,120,95,108,101,110,103,116,104,32,62,61,32,56],ByteArray.mk #[100,58,58,112,114,101,102,105,120,95,108,101,110,103,116,104,32,61,61,32,51,50,32,45,62,32,100,58,58,118,97,108,117,101,32,62,32,48,120,102,102]]) Tryz.underlying200 o1 CH rfl rfl (.cons (by simp) (dn (ByteArray.mk #[])) (.cons (by simp) (dn (ByteArray.mk #[100,58,58,112,114,101,102,105,120,95,108,101,110,103,116,104,32,62,61,32,56])) (.cons (by simp) (dn (ByteArray.mk #[100,58,58,112,114,101,102,105,120,95,108,101,110,103,116,104,32,61,61,32,51,50,32,45,62,32,100,58,58,118,97,108,117,101,32,62,32,48,120,102,102])) (.nil))))) ?_
    obtain⟨ku,tU,h⟩:=aA h
    refine dd tU (iH (r:= [ByteArray.mk #[],ByteArray.mk #[112,114,105,111,114,105,116,121,32,60,32,49,48,48,32,38,38,32,40,101,58,58,109,97,115,107,32,33,61,32,48,32,124,124,32,97,58,58,109,97,115,107,32,33,61,32,48,41],ByteArray.mk #[101,58,58,109,97,115,107,32,61,61,32,48,32,45,62,32,112,114,105,111,114,105,116,121,32,62,32,53]]) Tryz.underlying200 o1 CH rfl rfl (.cons (by simp) (dn (ByteArray.mk #[])) (.cons (by simp) (dn (ByteArray.mk #[112,114,105,111,114,105,116,121,32,60,32,49,48,48,32,38,38,32,40,101,58,58,109,97,115,107,32,33,61,32,48,32,124,124,32,97,58,58,109,97,115,107,32,33,61,32,48,41])) (.cons (by simp) (dn (ByteArray.mk #[101,58,58,109,97,115,107,32,61,61,32,48,32,45,62,32,112,114,105,111,114,105,116,121,32,62,32,53])) (.nil))))) ?_
    obtain⟨j8,tV,h⟩:=aA h
    refine dd tV (iH (r:= [ByteArray.mk #[],ByteArray.mk #[102,58,58,104,105,103,104,32,45,32,102,58,58,108,111,119,32,60,61,32,48,120,49,48,48],ByteArray.mk #[33,40,102,58,58,108,111,119,32,61,61,32,48,32,38,38,32,102,58,58,104,105,103,104,32,62,32,49,48,48,48,41]]) Tryz.underlying200 o1 CH rfl rfl (.cons (by simp) (dn (ByteArray.mk #[])) (.cons (by simp) (dn (ByteArray.mk #[102,58,58,104,105,103,104,32,45,32,102,58,58,108,111,119,32,60,61,32,48,120,49,48,48])) (.cons (by simp) (dn (ByteArray.mk #[33,40,102,58,58,108,111,119,32,61,61,32,48,32,38,38,32,102,58,58,104,105,103,104,32,62,32,49,48,48,48,41])) (.nil))))) ?_
    refine hI [gX,kX,ku,j8] Tryz.underlying201 Fz TC ?_
    refine aT ?_
    refine b2 ?_
    refine aG ?_
    refine aD ?_
    refine bp (rR (i:=0) Tryz.underlying28 (aa rfl) rfl rfl) ?_
    refine aD ?_
    refine aV ?_
    refine ai.block ?_
    obtain⟨aE,ar,h⟩:=aA h
    refine la (γ:=(Option Nat × Nat)) (δ:=(Option Nat × Nat)) ar [0,2,3,4,5,6,8,28,44,61,80] (fun s1 dz=> [(7,I.eq (a5 dz.1 s1.2.1.length dz.2)),(81,I.of (s1.1))]) (fun s1 dz=> [(0,⟨dz.1,.row 65 (s1.2.1:List bw) dz.2⟩),(1,⟨some cb,.var (s1.2.2:bm)⟩)]) (fun pf=>Exit.exit 0) (fun pf dz=> [(7,I.eq (a5 dz.1 pf.2.2.1.length dz.2)),(81,I.of (pf.1)),(82,I.of (pf.2.1))]) (fun pf dz=> [(0,⟨dz.1,.row 65 (pf.2.2.1:List bw) dz.2⟩),(1,⟨some cb,.var (pf.2.2.2:bm)⟩)]) (wg,4) (fun s1 r h dz=> ?_) fun dz=> ?_
    ·clear ar
     refine aG ?_
     refine bL gr ?_
     refine b2 ?_
     refine dv h (fun h=>?_) fun h=>?_
     ·refine dE ?_
      refine ai.seq ?_
      refine ai.block ?_
      refine aG ?_
      refine aD ?_
      refine aT ?_
      refine aV ?_
      obtain⟨bh,dF,h⟩:=aA h
      obtain⟨e1,o0,h⟩:=aA h
      obtain⟨cC,dV,h⟩:=aA h
      obtain⟨fu,kt,h⟩:=aA h
      obtain⟨lh,tX,h⟩:=aA h
      refine jh [0,2,3,4,5,6,7,8,9,28,44,61,80,81,82,83] ?_
      refine ai.j1 mixed (bb 84 [] [] _ :: bb 85 [] [] _ :: bb 86 [] [] _ :: bb 87 [] [] _ :: bb 88 (2 :: 3 :: []) [] _ :: bb 89 (4 :: []) [] _ :: bb 90 [] [] _ :: ⟨some 91,(6 :: []),(1 :: []),(1 :: []),fun _=>I.of (e1.1),fun hd _=>⟨some cb,.var (e1.2:bm)⟩⟩ :: bb 92 (5 :: 7 :: []) [] _ :: bb 93 (8 :: []) [] _ :: bb 94 (0 :: 1 :: []) (0 :: []) _ :: bb 95 (10 :: []) [] _ :: ⟨none,(9 :: 10 :: 11 :: []),(0 :: []),(0 :: []),fun _=>I.any,fun hd _=>⟨dz.1,.row 65 (lh:List bw) dz.2⟩⟩ :: []) _ (0 :: 2 :: 3 :: 4 :: 5 :: 6 :: 7 :: 8 :: 9 :: 28 :: 44 :: 61 :: 80 :: 81 :: 82 :: 83 :: []) rfl rfl (by kernel_rfl) ⟨fi,fi,fi,fi,ca fun hd E' av aw an=>qy (k:=bh) Tryz.underlying201 Fz (aa (aw _ _ rfl)) (aa (aw _ _ rfl)) (eU dF),e6 (eG Fz),fi,?_,ca fun hd E' av aw an=>qy (k:=cC) Tryz.underlying200 o1 (aa (aw _ _ rfl)) (aa (aw _ _ rfl)) (eU dV),e6 (eG o1),ca fun hd E' av aw an=>oI (i:=0) (k:=fu) (xs:=(s1.2.1:List bw)) Tryz.underlying28 fX (aa (aw _ _ rfl)) (aa (aw _ _ rfl)) (an 0 _ rfl rfl) (eU kt),e6 (a1 Sh),?_,trivial⟩ fun en=> ?_
      ·intro hd E' av aw an
       refine ag.bt 1 (an 1 _ rfl rfl) ?_
       refine ag.k3 (Lin:= [⟨some cb,.var (s1.2.2:bm)⟩]) (Lr:=av.eraseIdx 1) fP (fL o0) ⟨aa (aw _ _ rfl),bE 3,trivial⟩ rfl fun CF=> ?_
       refine ag.nil ?_
       refine ah.back 1 (an 1 _ rfl rfl) ?_
       exact ah.fin (ee []) rfl rfl
      ·intro hd E' av aw an
       refine ag.yu (i:=0) (k:=fu) ((aO.id bw).comp NY) (v:=(aN (aN [gX,kX,ku,j8] bh) cC:ByteArray)) (r:=(lh:List bw)) o1 (aa (aw _ _ rfl)) (aa (aw _ _ rfl)) (an 0 _ rfl rfl) (eU kt).1 rfl (aS tX) ?_
       refine ag.nil ?_
       exact ah.fin (ee []) rfl rfl
      refine ah.dT (L2:= [⟨dz.1,.row 65 (lh:List bw) dz.2⟩,⟨some cb,.var (e1.2:bm)⟩,⟨none,.row 86 (([]:List cu):List cu) 0⟩,⟨some iB,.var (({ ft.1 with cv:=ft.2 } :bw):bw)⟩,⟨none,.dead⟩,⟨none,.row 86 (([]:List cu):List cu) 0⟩,⟨some c0,.var (({ cI.1 with cv:=cI.2 } :bw):bw)⟩,⟨none,.dead⟩,⟨none,.row 86 (([]:List cu):List cu) 0⟩,⟨some bn,.var (({ bH.1 with cv:=bH.2 } :bw):bw)⟩,⟨none,.dead⟩,⟨some a8,.var (dp:bw)⟩]) rfl ?_
      refine ah.nZ (m:=lh.length) 7 rfl (oz (aS tX)) ?_
      refine ah.nZ (m:=lh.length) 84 rfl (oz (aS tX)) ?_
      refine jS [0,2,3,4,5,6,7,8,9,28,44,61,80,81,82,83,84,85,86,87,88,89,90,91,92,93,94,95] ?_
      refine ah.fF ?_
      refine ah.next ?_
      refine ai.cO ?_
      refine bL ep ?_
      refine aD ?_
      refine ag.nil ?_
      obtain rfl:=aS h
      exact j7 (dz.1,dz.2) 0
     ·refine ai.exit ?_
      refine ah.exit ?_
      obtain rfl:=aS h
      exact hn (dz.1,dz.2) 0
    ·clear ar
     refine ah.h4 ?_
     refine ah.next ?_
     refine aG ?_
     refine aD ?_
     refine aT ?_
     refine aV ?_
     refine ai.ret ?_
     refine ah.m7 (α:=bw) 0 [2,7,97] ⟨rfl,rfl,rfl,trivial⟩ rfl ?_
     refine ah.bt 1 rfl ?_
     obtain rfl:=aS h
     exact k9 ()
   ·have h:=ij aj ht
    refine ai.cO ?_
    refine ba (a1 lW) ?_
    refine bp (hM (i:=2) (q:=0) (β:=bw) (γ:=cu) lF (aa rfl) rfl rfl) ?_
    obtain⟨j9,y1,h⟩:=aA h
    refine dd y1 (cA (b:= { bZ:=ByteArray.mk #[103],gq:=9,c9:=1:cu }) rfl qI jM (.cons qb rfl (dn (ByteArray.mk #[103])) rfl (.cons ov rfl (bE 9) rfl (.cons mo rfl (bE 1) rfl (.nil))))) ?_
    obtain⟨kv,y2,h⟩:=aA h
    refine dd y2 (cA (b:= { bZ:=ByteArray.mk #[100],gq:=7,c9:=2:cu }) rfl qI jM (.cons qb rfl (dn (ByteArray.mk #[100])) rfl (.cons ov rfl (bE 7) rfl (.cons mo rfl (bE 2) rfl (.nil))))) ?_
    refine hI [j9,kv] Tryz.underlying62 j4 jM ?_
    obtain⟨dJ,tT,h⟩:=aA h
    refine n8 3 Tryz.underlying62 j4 jM tT fun tY fG=> ?_
    refine ba (a1 lW) ?_
    refine ag.jw (i:=2) (γ:=cu) (b':=(({ ({ (default:bw) with bC:=4,bZ:=ByteArray.mk #[115,112,97,110,115],dC:=([1,3,5]:List Int),gG:=3,sX:= [({ (default:az) with bV:=7#64 } :az)],fv:=bu (3 + ct.1) } :bw) with cv:= [] } :bw):bw)) (os':= [(2,a5 tY dJ.length fG)]) ((aO.id bw).comp kg) lF (aa rfl) (aa rfl) ih rfl rfl rfl rfl ?_
    refine ag.nil ?_
    obtain rfl:=aS h
    exact dZ 0 (hm (tY,fG))
   ·have h:=ik aj ht
    refine ai.skip ?_
    obtain rfl:=aS h
    exact dZ 0 (hm (nm,1))
  ·have h:=ij aj ek
   refine ai.cO ?_
   refine ba (a1 lW) ?_
   refine bp (hM (i:=2) (q:=0) (β:=bw) (γ:=cu) lF (aa rfl) rfl rfl) ?_
   obtain⟨nu,y3,h⟩:=aA h
   refine dd y3 (cA (b:= { bZ:=ByteArray.mk #[98],gq:=5,c9:=1:cu }) rfl qI jM (.cons qb rfl (dn (ByteArray.mk #[98])) rfl (.cons ov rfl (bE 5) rfl (.cons mo rfl (bE 1) rfl (.nil))))) ?_
   refine hI [nu] Tryz.underlying62 j4 jM ?_
   obtain⟨gv,oP,h⟩:=aA h
   refine n8 3 Tryz.underlying62 j4 jM oP fun Mf oR=> ?_
   refine ba (a1 lW) ?_
   refine ag.jw (i:=2) (γ:=cu) (b':=(({ ({ (default:bw) with bC:=3,bZ:=ByteArray.mk #[97,99,108],dC:=([1,2,3,5,6]:List Int),gG:=1,fv:=bu (4 + cm.1) } :bw) with cv:= [] } :bw):bw)) (os':= [(2,a5 Mf gv.length oR)]) ((aO.id bw).comp kg) lF (aa rfl) (aa rfl) ih rfl rfl rfl rfl ?_
   refine ag.nil ?_
   obtain rfl:=aS h
   exact dZ 0 (hm (Mf,oR))
  ·have h:=ik aj ek
   refine ai.skip ?_
   obtain rfl:=aS h
   exact dZ 0 (hm (lG,2))
 ·have h:=ij aj cM
  refine ai.cO ?_
  refine ba (a1 lW) ?_
  refine bp (hM (i:=2) (q:=0) (β:=bw) (γ:=cu) lF (aa rfl) rfl rfl) ?_
  obtain⟨oa,y4,h⟩:=aA h
  refine dd y4 (cA (b:= { bZ:=ByteArray.mk #[109],gq:=3,c9:=1:cu }) rfl qI jM (.cons qb rfl (dn (ByteArray.mk #[109])) rfl (.cons ov rfl (bE 3) rfl (.cons mo rfl (bE 1) rfl (.nil))))) ?_
  refine hI [oa] Tryz.underlying62 j4 jM ?_
  obtain⟨gH,oQ,h⟩:=aA h
  refine n8 3 Tryz.underlying62 j4 jM oQ fun Mg tZ=> ?_
  refine ba (a1 lW) ?_
  refine ag.jw (i:=2) (γ:=cu) (b':=(({ ({ (default:bw) with bC:=2,bZ:=ByteArray.mk #[114,111,117,116,101,115],dC:=([1,2,3,4]:List Int),gG:=2,fv:=bu (3 + bk.1) } :bw) with cv:= [] } :bw):bw)) (os':= [(2,a5 Mg gH.length tZ)]) ((aO.id bw).comp kg) lF (aa rfl) (aa rfl) ih rfl rfl rfl rfl ?_
  refine ag.nil ?_
  obtain rfl:=aS h
  exact dZ 0 (hm (Mg,tZ))
 ·have h:=ik aj cM
  refine ai.skip ?_
  obtain rfl:=aS h
  exact dZ 0 (hm (hV,1))
end Go.Proofs.YtmnggbjcnoffeaaGreat
namespace Go.Proofs.YtmnggbjcnoffeaaGreat
open Go Gv
set_option linter.unusedVariables false
set_option linter.unusedSimpArgs false
set_option maxRecDepth 100000
set_option maxHeartbeats 2000000
theorem OI {ab:bm} {al:List bw} {cb:Nat} {r:(List ch) × bm} (h:xt ab al=some r):bF Tryz.prog 71 [I.eq (.pointer (some ⟨cb,0,none⟩)),I.of (al)] [⟨some cb,.var (ab:bm)⟩] (δ:=Unit) (fun d=>I.of (r.1)) (fun d=> [⟨some cb,.var (r.2:bm)⟩]):=by
 unfold xt at h
 refine bF.of Tryz.func71 rfl Tryz.ntmps71 rfl fun W A=> ?_
 refine aG ?_
 refine bp (eJ (look_nil (α:=ch))) ?_
 refine bY ?_
 refine hI ([1,2,3,4,5,6]:List Int) Tryz.underlying63 bP kP ?_
 refine bp (pz (b:=({ (default:ch) with bC:=1,bZ:=ByteArray.mk #[97,108,108],dC:=([1,2,3,4,5,6]:List Int),qm:=40,yh:=true } :ch)) [2] vD rfl FA tE (.cons DZ rfl (bE 1) rfl (by rfl) (.cons DR rfl (dn (ByteArray.mk #[97,108,108])) rfl (by rfl) (.cons DE rfl (aa rfl) rfl (by rfl) (.cons DM rfl (bE 40) rfl (by rfl) (.cons OJ rfl (fz true) rfl (by rfl) (.nil))))))) ?_
 refine ag.own (α:=c7) 207 ?_
 refine ag.nU (z:=(default:ch)) [2] vD tE rfl fun a8=> ?_
 refine ag.own (α:=c7) 207 ?_
 refine ag.qs (i:=1) tF (aa rfl) (aa rfl) rfl ?_
 refine bY ?_
 refine aD ?_
 refine ag.bt 3 rfl ?_
 obtain⟨aB,bG,h⟩:=aA h
 refine et 1 fP (fL bG) fun aM=> ?_
 refine bL ep ?_
 refine hI ([1,2,bu (3 + aB.1)]:List Int) Tryz.underlying63 bP kP ?_
 refine aD ?_
 refine ag.bt 0 rfl ?_
 obtain⟨aK,cF,h⟩:=aA h
 refine et 1 fP (fL cF) fun eK=> ?_
 refine bL ep ?_
 refine bp (pz (b:=({ (default:ch) with bC:=2,bZ:=ByteArray.mk #[115,111,109,101],dC:=([1,2,bu (3 + aB.1)]:List Int),qm:=bu (1 + aK.1) } :ch)) [2] vD rfl FA tE (.cons DZ rfl (bE 2) rfl (by rfl) (.cons DR rfl (dn (ByteArray.mk #[115,111,109,101])) rfl (by rfl) (.cons DE rfl (aa rfl) rfl (by rfl) (.cons DM rfl (aa rfl) rfl (by rfl) (.nil)))))) ?_
 refine ag.own (α:=c7) 207 ?_
 refine ag.nU (z:=(default:ch)) [2] vD tE rfl fun bn=> ?_
 refine ag.own (α:=c7) 207 ?_
 refine ag.qs (i:=1) tF (aa rfl) (aa rfl) rfl ?_
 refine bY ?_
 refine aD ?_
 refine ag.bt 3 rfl ?_
 obtain⟨bk,gQ,h⟩:=aA h
 refine et 1 fP (fL gQ) fun eu=> ?_
 refine bL ep ?_
 refine hI [bu (1 + bk.1)] Tryz.underlying63 bP kP ?_
 refine aD ?_
 refine ag.bt 0 rfl ?_
 obtain⟨b1,hY,h⟩:=aA h
 refine et 1 fP (fL hY) fun lr=> ?_
 refine bp (pz (b:=({ (default:ch) with bC:=7,bZ:=ByteArray.mk #[102,101,119],dC:= [bu (1 + bk.1)],qm:=b1.1 } :ch)) [2] vD rfl FA tE (.cons DZ rfl (bE 7) rfl (by rfl) (.cons DR rfl (dn (ByteArray.mk #[102,101,119])) rfl (by rfl) (.cons DE rfl (aa rfl) rfl (by rfl) (.cons DM rfl (aa rfl) rfl (by rfl) (.nil)))))) ?_
 refine ag.own (α:=c7) 207 ?_
 refine ag.nU (z:=(default:ch)) [2] vD tE rfl fun c0=> ?_
 refine ag.own (α:=c7) 207 ?_
 refine ag.qs (i:=1) tF (aa rfl) (aa rfl) rfl ?_
 refine b2 ?_
 refine aG ?_
 refine aD ?_
 refine ba (gO Tryz.underlying28) ?_
 refine aD ?_
 refine aV ?_
 refine ai.block ?_
 obtain⟨aE,ar,h⟩:=aA h
 refine la (γ:=(Option Nat × Nat) × (Option Nat × Nat) × (Option Nat × Nat)) (δ:=(Option Nat × Nat) × (Option Nat × Nat) × (Option Nat × Nat)) ar [0,1,4,5,6,7,30,31] (fun s1 ay=> [(32,I.of (s1.1))]) (fun s1 ay=> [(1,⟨some c0,.bU (s1.2.1:ch) [(2,a5 ay.1.1 s1.2.2.1.length ay.1.2)]⟩),(2,⟨ay.1.1,.row 207 (s1.2.2.1:List c7) ay.1.2⟩),(3,⟨some cb,.var (s1.2.2.2.1:bm)⟩),(5,⟨some bn,.bU (s1.2.2.2.2.1:ch) [(2,a5 ay.2.1.1 s1.2.2.2.2.2.1.length ay.2.1.2)]⟩),(6,⟨ay.2.1.1,.row 207 (s1.2.2.2.2.2.1:List c7) ay.2.1.2⟩),(8,⟨some a8,.bU (s1.2.2.2.2.2.2.1:ch) [(2,a5 ay.2.2.1 s1.2.2.2.2.2.2.2.length ay.2.2.2)]⟩),(9,⟨ay.2.2.1,.row 207 (s1.2.2.2.2.2.2.2:List c7) ay.2.2.2⟩)]) (fun cY=>Exit.exit 0) (fun cY ay=> [(32,I.of (cY.1)),(33,I.of (cY.2.1))]) (fun cY ay=> [(1,⟨some c0,.bU (cY.2.2.1:ch) [(2,a5 ay.1.1 cY.2.2.2.1.length ay.1.2)]⟩),(2,⟨ay.1.1,.row 207 (cY.2.2.2.1:List c7) ay.1.2⟩),(3,⟨some cb,.var (cY.2.2.2.2.1:bm)⟩),(5,⟨some bn,.bU (cY.2.2.2.2.2.1:ch) [(2,a5 ay.2.1.1 cY.2.2.2.2.2.2.1.length ay.2.1.2)]⟩),(6,⟨ay.2.1.1,.row 207 (cY.2.2.2.2.2.2.1:List c7) ay.2.1.2⟩),(8,⟨some a8,.bU (cY.2.2.2.2.2.2.2.1:ch) [(2,a5 ay.2.2.1 cY.2.2.2.2.2.2.2.2.length ay.2.2.2)]⟩),(9,⟨ay.2.2.1,.row 207 (cY.2.2.2.2.2.2.2.2:List c7) ay.2.2.2⟩)]) ((none,0),(none,0),(none,0)) (fun s1 r h ay=> ?_) fun ay=> ?_
 ·clear ar
  refine aG ?_
  refine bL gr ?_
  refine b2 ?_
  refine dv h (fun h=>?_) fun h=>?_
  ·refine dE ?_
   refine ai.seq ?_
   refine ai.block ?_
   refine aG ?_
   obtain⟨bh,dF,h⟩:=aA h
   refine jB dF Tryz.underlying28 fX ?_
   refine ba (eG fX) ?_
   refine dI k6 fun iB=> ?_
   refine cP 0 fX ?_
   refine bY ?_
   refine ba (a1 lW) ?_
   refine c1 0 kg lF ?_
   refine ba (gO Tryz.underlying62) ?_
   obtain⟨cm,iv,h⟩:=aA h
   refine ag.MO Tryz.underlying205 lg MP rfl (by kernel_rfl) (aa rfl) (aa rfl) iv rfl fun hV=> ?_
   refine aT ?_
   refine bY ?_
   refine ba (a1 lW) ?_
   refine c1 1 kg lF ?_
   refine ba (gO Tryz.underlying62) ?_
   obtain⟨cD,iw,h⟩:=aA h
   refine ag.MO Tryz.underlying205 lg MP rfl (by kernel_rfl) (aa rfl) (aa rfl) iw rfl fun lG=> ?_
   refine aT ?_
   refine b2 ?_
   refine aG ?_
   refine aD ?_
   refine bp (rR (i:=1) Tryz.underlying205 (aa rfl) rfl rfl) ?_
   refine aD ?_
   refine aV ?_
   refine ai.block ?_
   obtain⟨bd,ar,h⟩:=aA h
   refine la (γ:=(Option Nat × Nat) × (Option Nat × Nat)) (δ:=(Option Nat × Nat) × (Option Nat × Nat)) ar [0,1,4,5,6,7,9,30,31,32,33,45] (fun s2 bf=> [(10,I.eq (a5 bf.2.1 s2.2.2.1.length bf.2.2)),(11,I.eq (a5 bf.1.1 s2.2.1.length bf.1.2)),(46,I.of (s2.1))]) (fun s2 bf=> [(0,⟨bf.1.1,.row 4 (s2.2.1:List Bool) bf.1.2⟩),(1,⟨bf.2.1,.row 4 (s2.2.2.1:List Bool) bf.2.2⟩),(6,⟨some cb,.var (s2.2.2.2:bm)⟩)]) (fun kD=>Exit.exit 2) (fun kD bf=> [(10,I.eq (a5 bf.2.1 kD.2.2.2.1.length bf.2.2)),(11,I.eq (a5 bf.1.1 kD.2.2.1.length bf.1.2)),(46,I.of (kD.1)),(47,I.of (kD.2.1))]) (fun kD bf=> [(0,⟨bf.1.1,.row 4 (kD.2.2.1:List Bool) bf.1.2⟩),(1,⟨bf.2.1,.row 4 (kD.2.2.2.1:List Bool) bf.2.2⟩),(6,⟨some cb,.var (kD.2.2.2.2:bm)⟩)]) ((lG,cD.length),(hV,cm.length)) (fun s2 r h bf=> ?_) fun bf=> ?_
   ·clear ar
    refine aG ?_
    refine bL gr ?_
    refine b2 ?_
    refine dv h (fun h=>?_) fun h=>?_
    ·refine dE ?_
     refine ai.seq ?_
     refine ai.block ?_
     refine aG ?_
     refine aD ?_
     refine aT ?_
     refine aV ?_
     refine ai.cO ?_
     refine aD ?_
     refine aD ?_
     refine aD ?_
     refine aD ?_
     refine aD ?_
     refine ag.bt 6 rfl ?_
     obtain⟨ct,l7,h⟩:=aA h
     refine et 1 fP (fL l7) fun wR=> ?_
     refine bL qx ?_
     obtain⟨cC,dV,h⟩:=aA h
     refine bp (oI (i:=2) (k:=cC) (xs:=(s2.2.2.1:List Bool)) Tryz.underlying205 lg (aa rfl) (aa rfl) rfl (eU dV)) ?_
     refine ag.yu (i:=2) (k:=cC) (aO.id Bool) (v:=(true:Bool)) (r:=(iL s2.2.2.1 cC true:List Bool)) lg (aa rfl) (fz true) rfl (eU dV).1 rfl rfl ?_
     refine ag.nZ (m:=(iL s2.2.2.1 cC true).length) 10 rfl (oz rfl) ?_
     refine ag.nZ (m:=(iL s2.2.2.1 cC true).length) 49 rfl (oz rfl) ?_
     obtain⟨fu,kt,h⟩:=aA h
     refine bp (oI (i:=1) (k:=fu) (xs:=(s2.2.1:List Bool)) Tryz.underlying205 lg (aa rfl) (aa rfl) rfl (eU kt)) ?_
     refine ag.yu (i:=1) (k:=fu) (aO.id Bool) (v:=(decide (ct.1 > 0):Bool)) (r:=(iL s2.2.1 fu (decide (ct.1 > 0)):List Bool)) lg (aa rfl) (aa rfl) rfl (eU kt).1 rfl rfl ?_
     refine ag.nZ (m:=(iL s2.2.1 fu (decide (ct.1 > 0))).length) 11 rfl (oz rfl) ?_
     refine ag.nZ (m:=(iL s2.2.1 fu (decide (ct.1 > 0))).length) 51 rfl (oz rfl) ?_
     refine ag.nil ?_
     refine ah.fF ?_
     refine ah.next ?_
     refine ai.cO ?_
     refine bL ep ?_
     refine aD ?_
     refine ag.nil ?_
     refine ah.bt 6 rfl ?_
     refine ah.bt 6 rfl ?_
     refine ah.bt 6 rfl ?_
     refine ah.bt 6 rfl ?_
     refine ah.bt 6 rfl ?_
     refine ah.bt 6 rfl ?_
     obtain rfl:=aS h
     exact j7 ((bf.1.1,bf.1.2),(bf.2.1,bf.2.2)) 0
    ·refine ai.exit ?_
     refine ah.exit ?_
     obtain rfl:=aS h
     exact hn ((bf.1.1,bf.1.2),(bf.2.1,bf.2.2)) 0
   ·clear ar
    refine ah.h4 ?_
    refine ah.next ?_
    refine aG ?_
    refine ba (a1 vE) ?_
    refine bp (hM (i:=11) (q:=0) (β:=ch) (γ:=c7) tG (aa rfl) rfl rfl) ?_
    refine ba (a1 nS) ?_
    refine c1 2 lv bP ?_
    refine aD ?_
    refine ag.m7 (α:=Bool) 1 [63,10] ⟨rfl,rfl,trivial⟩ rfl ?_
    obtain⟨bD,dG,h⟩:=aA h
    refine dd dG (cA (b:= { dD:=(aN al bh).bC,qt:=true,qn:=true,cv:=bd.2.2.2.1:c7 }) rfl FB qA (.cons DG rfl (aa rfl) rfl (.cons DN rfl (fz true) rfl (.cons DH rfl (fz true) rfl (.cons DO rfl (aa rfl) rfl (.nil)))))) ?_
    refine hI [bD] Tryz.underlying202 vY qA ?_
    obtain⟨dy,l8,h⟩:=aA h
    refine n8 12 Tryz.underlying202 vY qA l8 fun nm fG=> ?_
    refine ba (a1 vE) ?_
    refine ag.jw (i:=11) (γ:=c7) (b':=(({ s1.2.2.2.2.2.2.1 with iF:= [] } :ch):ch)) (os':= [(2,a5 nm dy.length fG)]) ((aO.id ch).comp u6) tG (aa rfl) (aa rfl) ih rfl rfl rfl rfl ?_
    refine b2 ?_
    refine aG ?_
    refine aD ?_
    refine ag.bt 6 rfl ?_
    obtain⟨e1,o0,h⟩:=aA h
    refine et 1 fP (fL o0) fun Ac=> ?_
    refine bL qx ?_
    refine aV ?_
    refine ai.freeze (α:=Bool) 1 11 rfl rfl ?_
    obtain⟨bH,cM,h⟩:=aA h
    refine lb (γ:=(Option Nat × Nat)) [0,1,4,5,6,7,9,10,11,30,31,32,33,45,46,47,70] (fun bJ=> []) (fun bJ=> [(0,⟨some cb,.var (bH.1:bm)⟩),(8,⟨some bn,.bU (bH.2.1:ch) [(2,a5 bJ.1 bH.2.2.length bJ.2)]⟩),(9,⟨bJ.1,.row 207 (bH.2.2:List c7) bJ.2⟩)]) (fun bJ=> ?_) (fun hm aj=> ?_) fun hm aj=> ?_
    ·clear cM
     refine ah.next ?_
     refine aG ?_
     refine aD ?_
     refine ag.bt 0 rfl ?_
     obtain⟨dJ,tT,h⟩:=aA h
     refine et 1 mM (mn tT) fun pf=> ?_
     refine aV ?_
     obtain⟨cI,ek,h⟩:=aA h
     refine lb (γ:=(Option Nat × Nat)) [0,1,4,5,6,7,9,10,11,30,31,32,33,45,46,47,70,86] (fun dz=> []) (fun dz=> [(0,⟨some cb,.var (cI.1:bm)⟩),(5,⟨some c0,.bU (cI.2.1:ch) [(2,a5 dz.1 cI.2.2.length dz.2)]⟩),(6,⟨dz.1,.row 207 (cI.2.2:List c7) dz.2⟩)]) (fun dz=> ?_) (fun hm aj=> ?_) fun hm aj=> ?_
     ·clear ek
      refine ah.fF ?_
      refine ah.next ?_
      refine ai.cO ?_
      refine bL ep ?_
      refine aD ?_
      refine ag.nil ?_
      refine ah.bt 6 rfl ?_
      refine ah.bt 6 rfl ?_
      refine ah.bt 6 rfl ?_
      refine ah.bt 6 rfl ?_
      refine ah.bt 6 rfl ?_
      refine ah.bt 6 rfl ?_
      obtain rfl:=aS h
      exact j7 ((dz.1,dz.2),(bJ.1,bJ.2),(nm,fG)) 3
     ·have h:=ij aj ek
      obtain⟨gv,oP,h⟩:=aA h
      obtain⟨gH,oQ,h⟩:=aA h
      obtain⟨dp,hG,h⟩:=aA h
      obtain⟨gj,yY,h⟩:=aA h
      refine jh [0,1,4,5,6,7,9,10,11,30,31,32,33,45,46,47,70,85,86] ?_
      refine ai.j1 mixed (bb 87 [] [] _ :: bb 88 (0 :: []) (5 :: []) _ :: bb 89 [] [] _ :: bb 90 (2 :: []) (3 :: []) _ :: bb 91 [] [] _ :: ⟨some 92,(4 :: []),(0 :: []),(0 :: []),fun _=>I.of (gv.1),fun hd _=>⟨some cb,.var (gv.2:bm)⟩⟩ :: bb 93 [] [] _ :: ⟨some 94,(5 :: 6 :: []),(0 :: []),(0 :: []),fun _=>I.of (gH.1),fun hd _=>⟨some cb,.var (gH.2:bm)⟩⟩ :: bb 95 [] [] _ :: bb 96 (3 :: 5 :: 7 :: 8 :: []) [] _ :: bb 97 (9 :: []) [] _ :: ⟨some 98,(1 :: 10 :: []),(6 :: []),(6 :: []),fun hd=>I.eq (a5 (hd 11 0) gj.length ((hd 11 1).getD 0)),fun hd _=>⟨(hd 11 0),.row 207 (gj:List c7) ((hd 11 1).getD 0)⟩⟩ :: bb 99 [] [] _ :: ⟨none,(1 :: 11 :: 12 :: []),(5 :: []),(5 :: []),fun _=>I.any,fun hd _=>⟨some c0,.bU (({ s1.2.1 with iF:= [] } :ch):ch) [(2,a5 (hd 11 0) gj.length ((hd 11 1).getD 0))]⟩⟩ :: []) _ (0 :: 1 :: 4 :: 5 :: 6 :: 7 :: 9 :: 10 :: 11 :: 30 :: 31 :: 32 :: 33 :: 45 :: 46 :: 47 :: 70 :: 85 :: 86 :: []) rfl rfl (by kernel_rfl) ⟨e6 (a1 vE),ca fun hd E' av aw an=>hM (i:=5) (q:=0) (β:=ch) (γ:=c7) tG (aa (aw _ _ rfl)) (an 5 _ rfl rfl) rfl,e6 (a1 nS),mQ 3 lv bP,fi,?_,fi,?_,fi,ca fun hd E' av aw an=>(cA (b:= { dD:=(aN al bh).bC,qt:=gv.1,qn:=gH.1,cv:=bd.2.2.2.1:c7 }) rfl FB qA (.cons DG rfl (aa (aw _ _ rfl)) rfl (.cons DN rfl (aa (aw _ _ rfl)) rfl (.cons DH rfl (aa (aw _ _ rfl)) rfl (.cons DO rfl (aa (aw _ _ rfl)) rfl (.nil)))))).as (aS hG),ca fun hd E' av aw an=>iH (r:= [dp]) Tryz.underlying202 vY qA rfl rfl (.cons (by simp) (aa (aw _ _ rfl)) (.nil)),?_,e6 (a1 vE),?_,trivial⟩ fun en=> ?_
      ·intro hd E' av aw an
       refine ag.bt 0 (an 0 _ rfl rfl) ?_
       refine ag.k3 (Lin:= [⟨some cb,.var (dJ.2:bm)⟩]) (Lr:=av.eraseIdx 0) mM (mn oP) ⟨aa (aw _ _ rfl),trivial⟩ rfl fun CF=> ?_
       refine ag.nil ?_
       refine ah.back 0 (an 0 _ rfl rfl) ?_
       exact ah.fin (ee []) rfl rfl
      ·intro hd E' av aw an
       refine ag.bt 0 (an 0 _ rfl rfl) ?_
       refine ag.k3 (Lin:= [⟨some cb,.var (gv.2:bm)⟩]) (Lr:=av.eraseIdx 0) mM (mn oQ) ⟨aa (aw _ _ rfl),trivial⟩ rfl fun Wh=> ?_
       refine ag.nil ?_
       refine ah.back 0 (an 0 _ rfl rfl) ?_
       exact ah.fin (ee []) rfl rfl
      ·intro hd E' av aw an
       refine ag.app (i:=6) Tryz.underlying202 vY qA (bytes:=40) (by kernel_rfl) (aa (aw _ _ rfl)) (an 6 _ rfl rfl) (aa (aw _ _ rfl)) yY rfl fun wg oR=> ?_
       refine ag.nil ?_
       exact ah.fin (ee [wg,some oR]) rfl rfl
      ·intro hd E' av aw an
       refine ag.jw (i:=5) (γ:=c7) (b':=(({ s1.2.1 with iF:= [] } :ch):ch)) (os':= [(2,a5 (hd 11 0) gj.length ((hd 11 1).getD 0))]) ((aO.id ch).comp u6) tG (aa (aw _ _ rfl)) (aa (aw _ _ rfl)) ih (an 5 _ rfl rfl) rfl rfl rfl ?_
       refine ag.nil ?_
       exact ah.fin (ee []) rfl rfl
      refine ah.dT (L2:= [⟨some cb,.var (gH.2:bm)⟩,⟨none,.dead⟩,⟨none,.dead⟩,⟨some iB,.var (aN al bh:bw)⟩,⟨none,.row 207 (([]:List c7):List c7) 0⟩,⟨some c0,.bU (({ s1.2.1 with iF:= [] } :ch):ch) [(2,a5 (en 11 0) gj.length ((en 11 1).getD 0))]⟩,⟨(en 11 0),.row 207 (gj:List c7) ((en 11 1).getD 0)⟩,⟨none,.row 207 (([]:List c7):List c7) 0⟩,⟨some bn,.bU (bH.2.1:ch) [(2,a5 bJ.1 bH.2.2.length bJ.2)]⟩,⟨bJ.1,.row 207 (bH.2.2:List c7) bJ.2⟩,⟨none,.row 207 (([]:List c7):List c7) 0⟩,⟨some a8,.bU (({ s1.2.2.2.2.2.2.1 with iF:= [] } :ch):ch) [(2,a5 nm dy.length fG)]⟩,⟨nm,.row 207 (dy:List c7) fG⟩]) rfl ?_
      refine jS [0,1,4,5,6,7,9,10,11,30,31,32,33,45,46,47,70,85,86,87,89,90,91,92,93,94,95,96,97,98,99] ?_
      obtain rfl:=aS h
      exact dZ 0 (hm ((en 11 0),((en 11 1).getD 0)))
     ·have h:=ik aj ek
      refine ai.skip ?_
      obtain rfl:=aS h
      exact dZ 0 (hm (ay.1.1,ay.1.2))
    ·have h:=ij aj cM
     obtain⟨kR,yZ,h⟩:=aA h
     obtain⟨sl,Vf,h⟩:=aA h
     obtain⟨ga,ld,h⟩:=aA h
     obtain⟨sm,Vg,h⟩:=aA h
     refine jh [0,1,4,5,6,7,9,10,11,30,31,32,33,45,46,47,59,61,62,63,64,65,66,67,68,69,70] ?_
     refine ai.j1 mixed (bb 71 [] [] _ :: bb 72 (0 :: []) (8 :: []) _ :: bb 73 [] [] _ :: bb 74 (2 :: []) (3 :: []) _ :: bb 75 [] [] _ :: ⟨some 76,(4 :: []),(0 :: []),(0 :: []),fun _=>I.of (kR.1),fun hd _=>⟨some cb,.var (kR.2:bm)⟩⟩ :: bb 77 (5 :: []) [] _ :: bb 78 [] [] _ :: ⟨some 79,(5 :: 7 :: []),(0 :: []),(0 :: []),fun _=>I.of (sl.1),fun hd _=>⟨some cb,.var (sl.2:bm)⟩⟩ :: bb 80 [] [] _ :: bb 81 (3 :: 6 :: 8 :: 9 :: []) [] _ :: bb 82 (10 :: []) [] _ :: ⟨some 83,(1 :: 11 :: []),(9 :: []),(9 :: []),fun hd=>I.eq (a5 (hd 12 0) sm.length ((hd 12 1).getD 0)),fun hd _=>⟨(hd 12 0),.row 207 (sm:List c7) ((hd 12 1).getD 0)⟩⟩ :: bb 84 [] [] _ :: ⟨none,(1 :: 12 :: 13 :: []),(8 :: []),(8 :: []),fun _=>I.any,fun hd _=>⟨some bn,.bU (({ s1.2.2.2.2.1 with iF:= [] } :ch):ch) [(2,a5 (hd 12 0) sm.length ((hd 12 1).getD 0))]⟩⟩ :: []) _ (0 :: 1 :: 4 :: 5 :: 6 :: 7 :: 9 :: 10 :: 11 :: 30 :: 31 :: 32 :: 33 :: 45 :: 46 :: 47 :: 59 :: 61 :: 62 :: 63 :: 64 :: 65 :: 66 :: 67 :: 68 :: 69 :: 70 :: []) rfl rfl (by kernel_rfl) ⟨e6 (a1 vE),ca fun hd E' av aw an=>hM (i:=8) (q:=0) (β:=ch) (γ:=c7) tG (aa (aw _ _ rfl)) (an 8 _ rfl rfl) rfl,e6 (a1 nS),mQ 3 lv bP,fi,?_,uP qx,fi,?_,fi,ca fun hd E' av aw an=>(cA (b:= { dD:=(aN al bh).bC,qt:=decide (kR.1 > 0),qn:=sl.1,cv:=bd.2.2.1:c7 }) rfl FB qA (.cons DG rfl (aa (aw _ _ rfl)) rfl (.cons DN rfl (aa (aw _ _ rfl)) rfl (.cons DH rfl (aa (aw _ _ rfl)) rfl (.cons DO rfl (aa (aw _ _ rfl)) rfl (.nil)))))).as (aS ld),ca fun hd E' av aw an=>iH (r:= [ga]) Tryz.underlying202 vY qA rfl rfl (.cons (by simp) (aa (aw _ _ rfl)) (.nil)),?_,e6 (a1 vE),?_,trivial⟩ fun ix=> ?_
     ·intro hd E' av aw an
      refine ag.bt 0 (an 0 _ rfl rfl) ?_
      refine ag.k3 (Lin:= [⟨some cb,.var (e1.2:bm)⟩]) (Lr:=av.eraseIdx 0) fP (fL yZ) ⟨aa (aw _ _ rfl),bE 4,trivial⟩ rfl fun X8=> ?_
      refine ag.nil ?_
      refine ah.back 0 (an 0 _ rfl rfl) ?_
      exact ah.fin (ee []) rfl rfl
     ·intro hd E' av aw an
      refine ag.bt 0 (an 0 _ rfl rfl) ?_
      refine ag.k3 (Lin:= [⟨some cb,.var (kR.2:bm)⟩]) (Lr:=av.eraseIdx 0) mM (mn Vf) ⟨aa (aw _ _ rfl),trivial⟩ rfl fun X9=> ?_
      refine ag.nil ?_
      refine ah.back 0 (an 0 _ rfl rfl) ?_
      exact ah.fin (ee []) rfl rfl
     ·intro hd E' av aw an
      refine ag.app (i:=9) Tryz.underlying202 vY qA (bytes:=40) (by kernel_rfl) (aa (aw _ _ rfl)) (an 9 _ rfl rfl) (aa (aw _ _ rfl)) Vg rfl fun tY tZ=> ?_
      refine ag.nil ?_
      exact ah.fin (ee [tY,some tZ]) rfl rfl
     ·intro hd E' av aw an
      refine ag.jw (i:=8) (γ:=c7) (b':=(({ s1.2.2.2.2.1 with iF:= [] } :ch):ch)) (os':= [(2,a5 (hd 12 0) sm.length ((hd 12 1).getD 0))]) ((aO.id ch).comp u6) tG (aa (aw _ _ rfl)) (aa (aw _ _ rfl)) ih (an 8 _ rfl rfl) rfl rfl rfl ?_
      refine ag.nil ?_
      exact ah.fin (ee []) rfl rfl
     refine ah.dT (L2:= [⟨some cb,.var (sl.2:bm)⟩,⟨none,.dead⟩,⟨none,.dead⟩,⟨some iB,.var (aN al bh:bw)⟩,⟨none,.row 207 (([]:List c7):List c7) 0⟩,⟨some c0,.bU (s1.2.1:ch) [(2,a5 ay.1.1 s1.2.2.1.length ay.1.2)]⟩,⟨ay.1.1,.row 207 (s1.2.2.1:List c7) ay.1.2⟩,⟨none,.row 207 (([]:List c7):List c7) 0⟩,⟨some bn,.bU (({ s1.2.2.2.2.1 with iF:= [] } :ch):ch) [(2,a5 (ix 12 0) sm.length ((ix 12 1).getD 0))]⟩,⟨(ix 12 0),.row 207 (sm:List c7) ((ix 12 1).getD 0)⟩,⟨none,.row 207 (([]:List c7):List c7) 0⟩,⟨some a8,.bU (({ s1.2.2.2.2.2.2.1 with iF:= [] } :ch):ch) [(2,a5 nm dy.length fG)]⟩,⟨nm,.row 207 (dy:List c7) fG⟩]) rfl ?_
     refine jS [0,1,4,5,6,7,9,10,11,30,31,32,33,45,46,47,59,61,62,63,64,65,66,67,68,69,70,71,73,74,75,76,77,78,79,80,81,82,83,84] ?_
     obtain rfl:=aS h
     exact dZ 0 (hm ((ix 12 0),((ix 12 1).getD 0)))
    ·have h:=ik aj cM
     refine ai.skip ?_
     obtain rfl:=aS h
     exact dZ 0 (hm (ay.2.1.1,ay.2.1.2))
  ·refine ai.exit ?_
   refine ah.exit ?_
   obtain rfl:=aS h
   exact hn ((ay.1.1,ay.1.2),(ay.2.1.1,ay.2.1.2),(ay.2.2.1,ay.2.2.2)) 0
 ·clear ar
  refine ah.h4 ?_
  refine ah.next ?_
  refine aG ?_
  refine ag.kM (β:=ch) (γ:=c7) (b':=(({ aE.2.2.2.2.2.2.2.1 with iF:=aE.2.2.2.2.2.2.2.2 } :ch):ch)) ((aO.id ch).comp u6) 8 9 0 rfl rfl rfl rfl rfl rfl ?_
  refine ag.nY 8 rfl ?_
  obtain⟨h0,nr,h⟩:=aA h
  refine dd nr (fE (i:=8) (aO.id ch) (r:=({ aE.2.2.2.2.2.2.2.1 with iF:=aE.2.2.2.2.2.2.2.2 } :ch)) tF (aa rfl) rfl rfl rfl) ?_
  refine ag.kM (β:=ch) (γ:=c7) (b':=(({ aE.2.2.2.2.2.1 with iF:=aE.2.2.2.2.2.2.1 } :ch):ch)) ((aO.id ch).comp u6) 5 6 0 rfl rfl rfl rfl rfl rfl ?_
  refine ag.nY 5 rfl ?_
  refine cS 5 tF ?_
  refine ag.kM (β:=ch) (γ:=c7) (b':=(({ aE.2.2.1 with iF:=aE.2.2.2.1 } :ch):ch)) ((aO.id ch).comp u6) 1 2 0 rfl rfl rfl rfl rfl rfl ?_
  refine ag.nY 1 rfl ?_
  refine cS 1 tF ?_
  obtain⟨gS,ns,h⟩:=aA h
  refine dd ns (iH (r:= [h0,({ aE.2.2.2.2.2.1 with iF:=aE.2.2.2.2.2.2.1 } :ch),({ aE.2.2.1 with iF:=aE.2.2.2.1 } :ch)]) Tryz.underlying30 tF tE rfl rfl (.cons (by simp) (aa rfl) (.cons (by simp) (aa rfl) (.cons (by simp) (aa rfl) (.nil))))) ?_
  refine aT ?_
  refine aV ?_
  refine ai.ret ?_
  refine ah.bt 3 rfl ?_
  obtain rfl:=aS h
  exact k9 ()
end Go.Proofs.YtmnggbjcnoffeaaGreat
namespace Go.Proofs.YtmnggbjcnoffeaaGreat
open Go Gv
set_option linter.unusedVariables false
set_option linter.unusedSimpArgs false
set_option maxRecDepth 100000
set_option maxHeartbeats 2000000
theorem DI {ab:bm} {cb:Nat} {r:aZ × bm} (h:sM ab=some r):bF Tryz.prog 16 [I.eq (.pointer (some ⟨cb,0,none⟩))] [⟨some cb,.var (ab:bm)⟩] (δ:=Unit) (fun d=>I.of (r.1)) (fun d=> [⟨some cb,.var (r.2:bm)⟩]):=by
 unfold sM at h
 refine bF.of Tryz.func16 rfl Tryz.ntmps16 rfl fun W A=> ?_
 refine aG ?_
 refine dI y7 fun a8=> ?_
 refine bY ?_
 refine aD ?_
 refine ag.bt 1 rfl ?_
 obtain⟨aB,bG,h⟩:=aA h
 refine et 1 fP (fL bG) fun aM=> ?_
 refine bL ep ?_
 refine aD ?_
 refine ag.bt 0 rfl ?_
 obtain⟨aK,cF,h⟩:=aA h
 refine et 1 fP (fL cF) fun eK=> ?_
 refine bL ep ?_
 refine bp (pz (b:=({ (default:aZ) with xT:=bu (2 + aB.1),x6:=bu (12 + aK.1) } :aZ)) [5,7] Jq rfl Vh y7 (.cons N5 rfl (aa rfl) rfl (by rfl) (.cons Of rfl (aa rfl) rfl (by rfl) (.nil)))) ?_
 refine ag.own (α:=fe) 127 ?_
 refine ag.own (α:=eE) 129 ?_
 refine ag.nU (z:=(default:aZ)) [5,7] Jq y7 rfl fun bn=> ?_
 refine ag.own (α:=fe) 127 ?_
 refine ag.own (α:=eE) 129 ?_
 refine ag.qs (i:=2) hC (aa rfl) (aa rfl) rfl ?_
 refine bY ?_
 obtain⟨bD,dG,h⟩:=aA h
 refine dd dG (cA (b:= { bC:=1,bZ:=ByteArray.mk #[105,110,103,114,101,115,115],e2:=16:e3 }) rfl qB oE (.cons ow rfl (bE 1) rfl (.cons qa rfl (dn (ByteArray.mk #[105,110,103,114,101,115,115])) rfl (.cons ou rfl (bE 16) rfl (.nil))))) ?_
 obtain⟨dp,hG,h⟩:=aA h
 refine dd hG (cA (b:= { bC:=2,bZ:=ByteArray.mk #[101,103,114,101,115,115],e2:=16:e3 }) rfl qB oE (.cons ow rfl (bE 2) rfl (.cons qa rfl (dn (ByteArray.mk #[101,103,114,101,115,115])) rfl (.cons ou rfl (bE 16) rfl (.nil))))) ?_
 obtain⟨ga,ld,h⟩:=aA h
 refine dd ld (cA (b:= { bC:=3,bZ:=ByteArray.mk #[109,101,116,97],e2:=8:e3 }) rfl qB oE (.cons ow rfl (bE 3) rfl (.cons qa rfl (dn (ByteArray.mk #[109,101,116,97])) rfl (.cons ou rfl (bE 8) rfl (.nil))))) ?_
 refine g7 qB oE { bC:=4,bZ:=ByteArray.mk #[97],e2:=4:e3 } (iu ow (iu qa (iu ou .nil))) ?_
 refine g7 qB oE { bC:=5,bZ:=ByteArray.mk #[98],e2:=4:e3 } (iu ow (iu qa (iu ou .nil))) ?_
 obtain⟨h0,nr,h⟩:=aA h
 refine dd nr (cA (b:= { bC:=6,bZ:=ByteArray.mk #[101],e2:=8:e3 }) rfl qB oE (.cons ow rfl (bE 6) rfl (.cons qa rfl (dn (ByteArray.mk #[101])) rfl (.cons ou rfl (bE 8) rfl (.nil))))) ?_
 obtain⟨gS,ns,h⟩:=aA h
 refine dd ns (cA (b:= { bC:=7,bZ:=ByteArray.mk #[100],e2:=32:e3 }) rfl qB oE (.cons ow rfl (bE 7) rfl (.cons qa rfl (dn (ByteArray.mk #[100])) rfl (.cons ou rfl (bE 32) rfl (.nil))))) ?_
 obtain⟨jW,qT,h⟩:=aA h
 refine dd qT (cA (b:= { bC:=8,bZ:=ByteArray.mk #[102],e2:=12:e3 }) rfl qB oE (.cons ow rfl (bE 8) rfl (.cons qa rfl (dn (ByteArray.mk #[102])) rfl (.cons ou rfl (bE 12) rfl (.nil))))) ?_
 obtain⟨jE,qU,h⟩:=aA h
 refine dd qU (cA (b:= { bC:=9,bZ:=ByteArray.mk #[103],e2:=4:e3 }) rfl qB oE (.cons ow rfl (bE 9) rfl (.cons qa rfl (dn (ByteArray.mk #[103])) rfl (.cons ou rfl (bE 4) rfl (.nil))))) ?_
 obtain⟨gX,qV,h⟩:=aA h
 refine dd qV (iH (r:= [bD,dp,ga,{ bC:=4,bZ:=ByteArray.mk #[97],e2:=4:e3 },{ bC:=5,bZ:=ByteArray.mk #[98],e2:=4:e3 },h0,gS,jW,jE]) Tryz.underlying24 tA oE rfl rfl (.cons (by simp) (aa rfl) (.cons (by simp) (aa rfl) (.cons (by simp) (aa rfl) (.cons (by simp) (aa rfl) (.cons (by simp) (aa rfl) (.cons (by simp) (aa rfl) (.cons (by simp) (aa rfl) (.cons (by simp) (aa rfl) (.cons (by simp) (aa rfl) (.nil))))))))))) ?_
 refine ba (a1 BI) ?_
 obtain⟨kX,uk,h⟩:=aA h
 refine ag.rS (i:=2) ((aO.id aZ).comp AE) (v:=(gX:List e3)) (b':=(kX:aZ)) yV (aa rfl) (aa rfl) rfl rfl (aS uk) (by rfl) ?_
 refine bY ?_
 refine hI ([4,5,6]:List Int) Tryz.underlying63 bP kP ?_
 obtain⟨ku,tU,h⟩:=aA h
 refine dd tU (cA (b:= { bC:=1,bZ:=ByteArray.mk #[111,110,101],gy:=([4,5,6]:List Int):iY }) rfl FC B9 (.cons DS rfl (bE 1) rfl (.cons DJ rfl (dn (ByteArray.mk #[111,110,101])) rfl (.cons Dz rfl (aa rfl) rfl (.nil))))) ?_
 refine hI ([7]:List Int) Tryz.underlying63 bP kP ?_
 obtain⟨j8,tV,h⟩:=aA h
 refine dd tV (cA (b:= { bC:=2,bZ:=ByteArray.mk #[116,119,111],gy:=([7]:List Int):iY }) rfl FC B9 (.cons DS rfl (bE 2) rfl (.cons DJ rfl (dn (ByteArray.mk #[116,119,111])) rfl (.cons Dz rfl (aa rfl) rfl (.nil))))) ?_
 refine hI ([8,9]:List Int) Tryz.underlying63 bP kP ?_
 obtain⟨lh,tX,h⟩:=aA h
 refine dd tX (cA (b:= { bC:=3,bZ:=ByteArray.mk #[116,104,114,101,101],gy:=([8,9]:List Int):iY }) rfl FC B9 (.cons DS rfl (bE 3) rfl (.cons DJ rfl (dn (ByteArray.mk #[116,104,114,101,101])) rfl (.cons Dz rfl (aa rfl) rfl (.nil))))) ?_
 refine hI [ku,j8,lh] Tryz.underlying25 TD B9 ?_
 refine ba (a1 Si) ?_
 refine ag.rS (i:=2) ((aO.id aZ).comp N8) (v:=([ku,j8,lh]:List iY)) (b':=(({ kX with rI:= [ku,j8,lh] } :aZ):aZ)) Mh (aa rfl) (aa rfl) rfl rfl rfl (by rfl) ?_
 refine bY ?_
 refine aD ?_
 refine ag.bt 5 rfl ?_
 obtain⟨bk,gQ,h⟩:=aA h
 refine et 1 Vi (Ow gQ) fun eu=> ?_
 refine aD ?_
 refine ag.bt 0 rfl ?_
 obtain⟨b1,hY,h⟩:=aA h
 refine et 1 Vj (On hY) fun lr=> ?_
 refine aD ?_
 refine ag.bt 0 rfl ?_
 obtain⟨cm,iv,h⟩:=aA h
 refine et 1 Vk (Ox iv) fun cY=> ?_
 refine ba (a1 Sj) ?_
 obtain⟨j9,y1,h⟩:=aA h
 refine ag.rS (i:=3) ((aO.id aZ).comp Og) (v:=(bk.1:List dj)) (b':=(j9:aZ)) Mi (aa rfl) (aa rfl) rfl rfl (aS y1) (by rfl) ?_
 refine ba (a1 Ko) ?_
 refine ag.rS (i:=3) ((aO.id aZ).comp H3) (v:=(b1.1:List dB)) (b':=(({ j9 with dC:=b1.1 } :aZ):aZ)) F0 (aa rfl) (aa rfl) rfl rfl rfl (by rfl) ?_
 refine ba (a1 na) ?_
 obtain⟨kv,y2,h⟩:=aA h
 refine ag.rS (i:=3) ((aO.id aZ).comp m5) (v:=(cm.1:List bw)) (b':=(kv:aZ)) mL (aa rfl) (aa rfl) rfl rfl (aS y2) (by rfl) ?_
 refine bY ?_
 refine aD ?_
 refine ba (a1 na) ?_
 refine MN 3 m5 mL ?_
 refine ag.bt 0 rfl ?_
 obtain⟨cD,iw,h⟩:=aA h
 refine et 1 Vl (OI iw) fun kD=> ?_
 refine ba (a1 Sk) ?_
 refine ag.rS (i:=3) ((aO.id aZ).comp Oo) (v:=(cD.1:List ch)) (b':=(({ kv with m9:=cD.1 } :aZ):aZ)) Mj (aa rfl) (aa rfl) rfl rfl rfl (by rfl) ?_
 refine bY ?_
 refine g7 yM r3 { dD:=1,hB:=1:fe } (iu xk (iu DF .nil)) ?_
 refine g7 yM r3 { dD:=2,hB:=2:fe } (iu xk (iu DF .nil)) ?_
 refine g7 yM r3 ({ (default:fe) with dD:=3 } :fe) (iu xk .nil) ?_
 refine g7 yM r3 { dD:=4,hB:=3:fe } (iu xk (iu DF .nil)) ?_
 obtain⟨nu,y3,h⟩:=aA h
 refine ag.Me (α:=fe) (r0:= [{ dD:=1,hB:=1:fe },{ dD:=2,hB:=2:fe },({ (default:fe) with dD:=3 } :fe),{ dD:=4,hB:=3:fe }]) (r:=nu) Tryz.underlying29 FD r3 rfl rfl (.cons (by simp) (aa rfl) (.cons (by simp) (aa rfl) (.cons (by simp) (aa rfl) (.cons (by simp) (aa rfl) (.nil))))) (aS y3) rfl fun hV=> ?_
 refine ba (a1 Fg) ?_
 refine ag.jw (i:=4) (γ:=fe) (b':=(({ ({ kv with m9:=cD.1 } :aZ) with mr:= [] } :aZ):aZ)) (os':= [(5,a5 hV nu.length 4),(7,a5 none ([]:List eE).length 0)]) ((aO.id aZ).comp DA) Cm (aa rfl) (aa rfl) ih rfl rfl rfl rfl ?_
 refine b2 ?_
 refine aG ?_
 refine aD ?_
 refine ag.bt 1 rfl ?_
 obtain⟨ct,l7,h⟩:=aA h
 refine et 1 mM (mn l7) fun wR=> ?_
 refine aV ?_
 obtain⟨bH,cM,h⟩:=aA h
 refine lb (γ:=(Option Nat × Nat)) [0,2,3,51] (fun ay=> []) (fun ay=> [(1,⟨ay.1,.row 127 (bH:List fe) ay.2⟩),(4,⟨some bn,.bU (({ ({ kv with m9:=cD.1 } :aZ) with mr:= [] } :aZ):aZ) [(5,a5 ay.1 bH.length ay.2),(7,a5 none ([]:List eE).length 0)]⟩)]) (fun ay=> ?_) (fun hm aj=> ?_) fun hm aj=> ?_
 ·clear cM
  refine ah.next ?_
  refine ai.seq ?_
  refine aG ?_
  refine aD ?_
  refine ag.bt 0 rfl ?_
  obtain⟨dy,l8,h⟩:=aA h
  refine et 1 mM (mn l8) fun Ac=> ?_
  refine aV ?_
  obtain⟨cI,ek,h⟩:=aA h
  refine lb (γ:=(Option Nat × Nat)) [0,2,3,51,59] (fun bf=> []) (fun bf=> [(4,⟨some bn,.bU (cI.1:aZ) [(5,a5 ay.1 bH.length ay.2),(7,a5 bf.1 cI.2.length bf.2)]⟩),(5,⟨bf.1,.row 129 (cI.2:List eE) bf.2⟩)]) (fun bf=> ?_) (fun hm aj=> ?_) fun hm aj=> ?_
  ·clear ek
   refine ah.next ?_
   refine ai.seq ?_
   refine aG ?_
   refine aD ?_
   refine ag.bt 0 rfl ?_
   obtain⟨e1,o0,h⟩:=aA h
   refine et 1 mM (mn o0) fun pf=> ?_
   refine aD ?_
   refine eB (a1 na) ?_
   refine fD (fun hb=>EW (i:=4) ((aO.id aZ).comp m5) (r:=cI.1.bA) mL (c2 rfl hb) rfl rfl rfl (by rfl)) ?_
   obtain⟨bh,dF,h⟩:=aA h
   refine fD (fun hb=>qy (k:=bh) Tryz.underlying28 fX (c2 rfl hb) (bE 2) (eU (h2 dF hb))) ?_
   refine fD (fun hb=>Ca kg lW (c2 rfl hb) rfl rfl) ?_
   refine eB (eG lF) ?_
   refine eB (gO Tryz.underlying62) ?_
   refine ji gP ?_
   refine lI ?_
   refine aV ?_
   obtain⟨ft,ht,h⟩:=aA h
   refine lb (γ:=(Option Nat × Nat)) [0,2,3,51,59,76] (fun bJ=> []) (fun bJ=> [(4,⟨some bn,.bU (ft.1:aZ) [(5,a5 ay.1 bH.length ay.2),(7,a5 bJ.1 ft.2.length bJ.2)]⟩),(5,⟨bJ.1,.row 129 (ft.2:List eE) bJ.2⟩)]) (fun bJ=> ?_) (fun hm aj=> ?_) fun hm aj=> ?_
   ·clear ht
    refine ah.next ?_
    refine ai.seq ?_
    refine aG ?_
    refine aD ?_
    refine ag.bt 0 rfl ?_
    obtain⟨dJ,tT,h⟩:=aA h
    refine et 1 mM (mn tT) fun CF=> ?_
    refine aD ?_
    refine eB (a1 na) ?_
    refine fD (fun hb=>EW (i:=4) ((aO.id aZ).comp m5) (r:=ft.1.bA) mL (c2 rfl hb) rfl rfl rfl (by rfl)) ?_
    obtain⟨cC,dV,h⟩:=aA h
    refine fD (fun hb=>qy (k:=cC) Tryz.underlying28 fX (c2 rfl hb) (bE 3) (eU (h2 dV hb))) ?_
    refine fD (fun hb=>Ca kg lW (c2 rfl hb) rfl rfl) ?_
    refine eB (eG lF) ?_
    refine eB (gO Tryz.underlying62) ?_
    refine ji gP ?_
    refine lI ?_
    refine aV ?_
    obtain⟨om,zs,h⟩:=aA h
    refine lb (γ:=(Option Nat × Nat)) [0,2,3,51,59,76,93] (fun dz=> []) (fun dz=> [(4,⟨some bn,.bU (om.1:aZ) [(5,a5 ay.1 bH.length ay.2),(7,a5 dz.1 om.2.length dz.2)]⟩),(5,⟨dz.1,.row 129 (om.2:List eE) dz.2⟩)]) (fun dz=> ?_) (fun hm aj=> ?_) fun hm aj=> ?_
    ·clear zs
     refine ah.next ?_
     refine aG ?_
     refine ag.kM (β:=aZ) (γ:=fe) (b':=(({ om.1 with mr:=bH } :aZ):aZ)) ((aO.id aZ).comp DA) 4 1 0 rfl rfl rfl rfl rfl rfl ?_
     refine ag.kM (β:=aZ) (γ:=eE) (b':=(({ ({ om.1 with mr:=bH } :aZ) with nc:=om.2 } :aZ):aZ)) ((aO.id aZ).comp AL) 4 5 0 rfl rfl rfl rfl rfl rfl ?_
     refine ag.nY 4 rfl ?_
     obtain⟨oa,y4,h⟩:=aA h
     refine dd y4 (fE (i:=4) (aO.id aZ) (r:=({ ({ om.1 with mr:=bH } :aZ) with nc:=om.2 } :aZ)) hC (aa rfl) rfl rfl rfl) ?_
     refine cP 7 hC ?_
     refine aV ?_
     refine ai.ret ?_
     refine ah.bt 0 rfl ?_
     obtain rfl:=aS h
     exact ah.ez () (.cons_cons _ (List.nil_sublist _)) rfl rfl (jK (i:=7) hC rfl rfl)
    ·have h:=ij aj zs
     refine ai.cO ?_
     refine ba (a1 vN) ?_
     refine bp (hM (i:=4) (q:=1) (β:=aZ) (γ:=eE) ua (aa rfl) rfl rfl) ?_
     obtain⟨l9,F5,h⟩:=aA h
     refine dd F5 (cA (b:=({ (default:eE) with dD:=4,tH:=1,ox:=1 } :eE)) rfl Cb pK (.cons A3 rfl (bE 4) rfl (.cons Ik rfl (bE 1) rfl (.cons AM rfl (bE 1) rfl (.nil))))) ?_
     obtain⟨qW,y5,h⟩:=aA h
     refine dd y5 (cA (b:=({ (default:eE) with dD:=4,lx:=5,ox:=1 } :eE)) rfl Cb pK (.cons A3 rfl (bE 4) rfl (.cons Ib rfl (bE 5) rfl (.cons AM rfl (bE 1) rfl (.nil))))) ?_
     refine hI [l9,qW] Tryz.underlying31 vZ pK ?_
     obtain⟨gv,oP,h⟩:=aA h
     refine n8 5 Tryz.underlying31 vZ pK oP fun lG fG=> ?_
     refine ba (a1 vN) ?_
     refine ag.jw (i:=4) (γ:=eE) (b':=(({ ft.1 with nc:= [] } :aZ):aZ)) (os':= [(5,a5 ay.1 bH.length ay.2),(7,a5 lG gv.length fG)]) ((aO.id aZ).comp AL) ua (aa rfl) (aa rfl) ih rfl rfl rfl rfl ?_
     refine ag.nil ?_
     obtain rfl:=aS h
     exact dZ 0 (hm (lG,fG))
    ·have h:=ik aj zs
     refine ai.skip ?_
     obtain rfl:=aS h
     exact dZ 0 (hm (bJ.1,bJ.2))
   ·have h:=ij aj ht
    refine ai.cO ?_
    refine ba (a1 vN) ?_
    refine bp (hM (i:=4) (q:=1) (β:=aZ) (γ:=eE) ua (aa rfl) rfl rfl) ?_
    obtain⟨pU,we,h⟩:=aA h
    refine dd we (cA (b:=({ (default:eE) with dD:=3,tH:=2,ox:=1 } :eE)) rfl Cb pK (.cons A3 rfl (bE 3) rfl (.cons Ik rfl (bE 2) rfl (.cons AM rfl (bE 1) rfl (.nil))))) ?_
    refine hI [pU] Tryz.underlying31 vZ pK ?_
    obtain⟨gH,oQ,h⟩:=aA h
    refine n8 5 Tryz.underlying31 vZ pK oQ fun nm oR=> ?_
    refine ba (a1 vN) ?_
    refine ag.jw (i:=4) (γ:=eE) (b':=(({ cI.1 with nc:= [] } :aZ):aZ)) (os':= [(5,a5 ay.1 bH.length ay.2),(7,a5 nm gH.length oR)]) ((aO.id aZ).comp AL) ua (aa rfl) (aa rfl) ih rfl rfl rfl rfl ?_
    refine ag.nil ?_
    obtain rfl:=aS h
    exact dZ 0 (hm (nm,oR))
   ·have h:=ik aj ht
    refine ai.skip ?_
    obtain rfl:=aS h
    exact dZ 0 (hm (bf.1,bf.2))
  ·have h:=ij aj ek
   refine ai.cO ?_
   refine ba (a1 vN) ?_
   refine bp (hM (i:=4) (q:=1) (β:=aZ) (γ:=eE) ua (aa rfl) rfl rfl) ?_
   obtain⟨Gz,Vm,h⟩:=aA h
   refine dd Vm (cA (b:=({ (default:eE) with dD:=2,lx:=4,ox:=1 } :eE)) rfl Cb pK (.cons A3 rfl (bE 2) rfl (.cons Ib rfl (bE 4) rfl (.cons AM rfl (bE 1) rfl (.nil))))) ?_
   refine hI [Gz] Tryz.underlying31 vZ pK ?_
   obtain⟨gj,yY,h⟩:=aA h
   refine n8 5 Tryz.underlying31 vZ pK yY fun wg tZ=> ?_
   refine ba (a1 vN) ?_
   refine ag.jw (i:=4) (γ:=eE) (b':=(({ ({ ({ kv with m9:=cD.1 } :aZ) with mr:= [] } :aZ) with nc:= [] } :aZ):aZ)) (os':= [(5,a5 ay.1 bH.length ay.2),(7,a5 wg gj.length tZ)]) ((aO.id aZ).comp AL) ua (aa rfl) (aa rfl) ih rfl rfl rfl rfl ?_
   refine ag.nil ?_
   obtain rfl:=aS h
   exact dZ 0 (hm (wg,tZ))
  ·have h:=ik aj ek
   refine ai.skip ?_
   obtain rfl:=aS h
   exact dZ 0 (hm (none,0))
 ·have h:=ij aj cM
  refine ai.cO ?_
  refine ba (a1 Fg) ?_
  refine bp (hM (i:=4) (q:=0) (β:=aZ) (γ:=fe) Cm (aa rfl) rfl rfl) ?_
  refine g7 yM r3 ({ (default:fe) with dD:=1 } :fe) (iu xk .nil) ?_
  refine hI [({ (default:fe) with dD:=1 } :fe)] Tryz.underlying29 FD r3 ?_
  obtain⟨kR,yZ,h⟩:=aA h
  refine n8 1 Tryz.underlying29 FD r3 yZ fun tY Mk=> ?_
  refine ba (a1 Fg) ?_
  refine ag.jw (i:=4) (γ:=fe) (b':=(({ ({ kv with m9:=cD.1 } :aZ) with mr:= [] } :aZ):aZ)) (os':= [(5,a5 tY kR.length Mk),(7,a5 none ([]:List eE).length 0)]) ((aO.id aZ).comp DA) Cm (aa rfl) (aa rfl) ih rfl rfl rfl rfl ?_
  refine ag.nil ?_
  obtain rfl:=aS h
  exact dZ 0 (hm (tY,Mk))
 ·have h:=ik aj cM
  refine ai.skip ?_
  obtain rfl:=aS h
  exact dZ 0 (hm (hV,4))
end Go.Proofs.YtmnggbjcnoffeaaGreat
namespace Go.Proofs.YtmnggbjcnoffeaaGreat
open Go Gv
set_option linter.unusedVariables false
set_option linter.unusedSimpArgs false
set_option maxRecDepth 100000
set_option maxHeartbeats 2000000
theorem OT {hp:aI Cell} {ab:jG} {al:aH} {r:(aI Cell)} (h:xx hp ab al=some r):bF Tryz.prog 229 [I.of (ab),I.of (al)] ([] ++ aY hp) (δ:=Unit) (fun d=>I.eA []) (fun d=> [] ++ aY r):=by
 unfold xx at h
 refine bF.of Tryz.func229 rfl Tryz.ntmps229 rfl fun W A=> ?_
 refine aG ?_
 refine cL fun a8=> ?_
 refine cL fun bn=> ?_
 refine aV ?_
 obtain⟨aB,bG,h⟩:=aA h
 refine ai.draw mixed 7 [some 4,some 5,some 6,some 7,some 8,some 9,some 10] [[],[0],[],[2],[3],[],[5]] [.val _,.val _,.val _,.val _,.val _,.val _,.val _] [false,false,false,false,false,false,false] (by kernel_rfl) rfl rfl rfl (fun du=>⟨H1 (a1 EP),hl 1 AT B1,H1 (a1 nW),hl 0 m3 fH,iM B2 (A8 bG),H1 (a1 nV),hl 0 m2 bP,trivial⟩) fun du=> ?_
 obtain⟨aK,cF,h⟩:=aA h
 refine ag.im 2 0 rfl TE (O0 cF) rfl rfl ⟨aa rfl,aa rfl,aa rfl,trivial⟩ rfl fun aM=> ?_
 refine ag.dT (L2:=(⟨some bn,.var (al:aH)⟩ :: ⟨some a8,.var (ab:jG)⟩ :: aY aK.2)) rfl ?_
 refine ag.nil ?_
 refine ah.oS ?_
 obtain rfl:=aS h
 exact ah.mD () (.cons _ (.cons _ (.refl _))) rfl rfl
theorem Oq {ab:cG} {al:Int} {r:Int} (h:xc ab al=some r):b9 Tryz.prog 272 [I.ptr ab,I.of (al)] (I.of (r)):=by
 unfold xc at h
 refine b9.of Tryz.func272 rfl Tryz.ntmps272 rfl fun W A=> ?_
 refine aG ?_
 refine cL fun a8=> ?_
 refine aT ?_
 refine b2 ?_
 refine aG ?_
 refine aD ?_
 refine bp (Ry Tryz.underlying170 (aa rfl)) ?_
 refine aV ?_
 refine ai.yI (aa rfl) rfl ?_
 refine dE ?_
 refine aG ?_
 refine aD ?_
 refine ba yq ?_
 refine Gy u7 rK ?_
 refine ba (eG qH) ?_
 refine ag.share (α:=Int) 0 3 rfl rfl ?_
 refine bp (BK (F:=(fun hy=>u1 hy al)) (τs:= [I.ptr al]) K8 ⟨aa rfl,trivial⟩ (fun _ _ h=>H4 h)) ?_
 obtain⟨aB,bG,h⟩:=aA h
 refine hH K9 (HZ bG) ?_
 refine aT ?_
 refine aV ?_
 refine ai.ret ?_
 obtain rfl:=aS h
 exact e8
theorem DX {ab:Int} {al:Int} {r:Int} (h:sT ab al=some r):b9 Tryz.prog 92 [I.of (ab),I.of (al)] (I.of (r)):=by
 unfold sT at h
 refine b9.of Tryz.func92 rfl Tryz.ntmps92 rfl fun W A=> ?_
 refine aG ?_
 refine aT ?_
 refine bY ?_
 refine aD ?_
 obtain⟨aB,bG,h⟩:=aA h
 refine hH La (Io bG) ?_
 refine aT ?_
 refine bY ?_
 refine aD ?_
 obtain⟨aK,cF,h⟩:=aA h
 refine hH La (Io cF) ?_
 refine aT ?_
 refine b2 ?_
 refine aG ?_
 refine aD ?_
 refine aV ?_
 refine dv h (fun h=>?_) fun h=>?_
 ·refine ai.seq ?_
  refine aG ?_
  refine aD ?_
  refine aV ?_
  refine dv h (fun h=>?_) fun h=>?_
  ·refine aG ?_
   refine aT ?_
   refine aV ?_
   refine ai.ret ?_
   refine ah.ret ?_
   refine ah.ret ?_
   obtain rfl:=aS h
   exact e8
  ·refine dE ?_
   refine aG ?_
   refine aT ?_
   refine aV ?_
   refine ai.ret ?_
   refine ah.ret ?_
   obtain rfl:=aS h
   exact e8
 ·refine dE ?_
  refine ai.seq ?_
  refine aG ?_
  refine aD ?_
  refine aV ?_
  refine dv h (fun h=>?_) fun h=>?_
  ·refine aG ?_
   refine aT ?_
   refine aV ?_
   refine ai.ret ?_
   refine ah.ret ?_
   obtain rfl:=aS h
   exact e8
  ·refine dE ?_
   refine ai.seq ?_
   refine aG ?_
   refine aD ?_
   refine aD ?_
   refine bL gr ?_
   refine aV ?_
   refine dv h (fun h=>?_) fun h=>?_
   ·refine aG ?_
    refine aT ?_
    refine aV ?_
    refine ai.ret ?_
    refine ah.ret ?_
    obtain rfl:=aS h
    exact e8
   ·refine dE ?_
    refine ai.seq ?_
    refine aG ?_
    refine aD ?_
    refine aD ?_
    refine bL qx ?_
    refine aV ?_
    refine dv h (fun h=>?_) fun h=>?_
    ·refine aG ?_
     refine aT ?_
     refine aV ?_
     refine ai.ret ?_
     refine ah.ret ?_
     obtain rfl:=aS h
     exact e8
    ·refine dE ?_
     refine aG ?_
     refine aT ?_
     refine aV ?_
     refine ai.ret ?_
     obtain rfl:=aS h
     exact e8
theorem Oy {hp:aI Cell} {ab:Ref} {al:Vector az 4} {r:Bool × (aI Cell)} (h:AN hp ab al=some r):bF Tryz.prog 234 [I.of (ab),I.of (al)] ([] ++ aY hp) (δ:=Unit) (fun d=>I.of (r.1)) (fun d=> [] ++ aY r.2):=by
 unfold AN at h
 refine bF.of Tryz.func234 rfl Tryz.ntmps234 rfl fun W A=> ?_
 refine aG ?_
 refine cL fun a8=> ?_
 refine aT ?_
 refine b2 ?_
 refine aG ?_
 refine aD ?_
 refine cS 0 qG ?_
 obtain⟨aB,bG,h⟩:=aA h
 refine ag.gW (eP.gZ 1 rfl K3 (Ih bG) ⟨aa rfl,aa rfl,trivial⟩) rfl rfl rfl ?_
 refine aD ?_
 refine fS ?_
 refine fS ?_
 refine aT ?_
 refine aT ?_
 refine bY ?_
 refine aD ?_
 refine ba ko ?_
 refine aV ?_
 refine dv h (fun h=>?_) fun h=>?_
 ·refine aG ?_
  refine aT ?_
  refine aV ?_
  refine ai.ret ?_
  refine ah.ret ?_
  obtain rfl:=aS h
  exact ah.ez () (.cons _ (.refl _)) rfl rfl (df rfl)
 ·refine dE ?_
  refine ai.seq ?_
  obtain⟨bS,cU,h⟩:=aA h
  obtain⟨bl,dw,h⟩:=aA h
  refine ai.draw mixed 5 [some 15,some 16,some 17,some 18,some 19] [[],[0],[1],[2],[]] [.val _,.val _,.val _,.val _,.val _] [false,false,false,false,false] (by kernel_rfl) rfl rfl rfl (fun du=>⟨dW,eO fun av an=>de (dO (aa rfl) cU),H1 (a1 Bv),eO fun av an=>e7 ((aO.id lS).comp xg) (r:=bl.ng) yH (aa rfl) (jx (fun i e q=>an i e q rfl) (ei (n:=1) rfl (rP dw) rfl)) rfl rfl,hr 0 qG,trivial⟩) fun du=> ?_
  obtain⟨bT,eW,h⟩:=aA h
  obtain⟨b7,e9,h⟩:=aA h
  obtain⟨cd,ir,h⟩:=aA h
  refine ag.FE (k':=Cell.mK (g3 b7 al)) 1 rfl Tryz.underlying222 BZ (kI (aa rfl) eW) (aa rfl) (pC e9) rfl rfl rfl (aS ir) ?_
  refine bY ?_
  refine aT ?_
  refine aV ?_
  refine ai.ret ?_
  obtain rfl:=aS h
  exact ah.ez () (.cons _ (.refl _)) rfl rfl (df rfl)
end Go.Proofs.YtmnggbjcnoffeaaGreat
namespace Go.Proofs.YtmnggbjcnoffeaaGreat
open Go Gv
set_option linter.unusedVariables false
set_option linter.unusedSimpArgs false
set_option maxRecDepth 100000
set_option maxHeartbeats 2000000
theorem OU {hp:aI Cell} {ab:Ref} {al:Int} {r:Int} (h:xy hp ab al=some r):bF Tryz.prog 78 [I.of (ab),I.of (al)] ([] ++ aY hp) (δ:=Unit) (fun _=>I.of (r)) (fun _=> [] ++ aY hp):=by
 unfold xy at h
 refine bF.of Tryz.func78 rfl Tryz.ntmps78 rfl fun W A=> ?_
 refine aG ?_
 refine aT ?_
 refine b2 ?_
 obtain⟨bS,cU,h⟩:=aA h
 obtain⟨bl,dw,h⟩:=aA h
 obtain⟨aB,bG,h⟩:=aA h
 obtain⟨bh,dF,h⟩:=aA h
 refine ai.draw mixed 14 [some 5,some 6,some 7,some 8,some 9,some 10,some 11,some 12,some 13,some 14,some 15,some 16,some 17,some 18] [[],[0],[1],[2],[3],[],[5],[6],[7],[],[8,9],[4,10],[11],[12]] [.val _,.val _,.val _,.val _,.val _,.val _,.val _,.val _,.val _,.val _,.val _,.val _,.val _,.val _] [false,false,false,false,false,false,false,false,false,false,false,false,false,false] (by kernel_rfl) rfl rfl rfl (fun du=>⟨dW,eO fun av an=>de (dO (aa rfl) cU),H1 (a1 ET),H1 (a1 na),eO fun av an=>e7 (((aO.id hL).comp AB).comp m5) (r:=bl.gp.bA) mL (aa rfl) (jx (fun i e q=>an i e q rfl) (ei (n:=0) rfl (mA dw) rfl)) rfl rfl,dW,eO fun av an=>de (dO (aa rfl) cU),H1 (a1 ET),eO fun av an=>e7 ((aO.id hL).comp AB) (r:=bl.gp) hC (aa rfl) (jx (fun i e q=>an i e q rfl) (ei (n:=0) rfl (mA dw) rfl)) rfl rfl,dW,iM F3 (D0 bG),qR dF Tryz.underlying28 fX,ug rC BM,H1 (eG bP),trivial⟩) fun du=> ?_
 refine aT ?_
 refine aV ?_
 refine ai.ret ?_
 obtain rfl:=aS h
 exact ah.ez () (.refl _) rfl rfl (df rfl)
theorem Pt {ab:aZ} {al:bo} {r:bw × Bool} (h:xL ab al=some r):b9 Tryz.prog 206 [I.of (ab),I.of (al)] (I.eA [I.of (r.1),I.of (r.2)]):=by
 unfold xL at h
 refine b9.of Tryz.func206 rfl Tryz.ntmps206 rfl fun W A=> ?_
 refine aG ?_
 refine cL fun a8=> ?_
 refine cL fun bn=> ?_
 refine dI k6 fun c0=> ?_
 refine aT ?_
 refine bY ?_
 refine cS 2 hC ?_
 refine ba (a1 tr) ?_
 refine c1 1 p8 bP ?_
 obtain⟨aB,bG,h⟩:=aA h
 refine hH F3 (D0 bG) ?_
 refine aT ?_
 refine b2 ?_
 refine aG ?_
 refine aD ?_
 refine bL gr ?_
 refine aV ?_
 refine dv h (fun h=>?_) fun h=>?_
 ·refine aG ?_
  refine g7 y6 k6 (default:bw) .nil ?_
  refine cP 0 fX ?_
  refine aT ?_
  refine aV ?_
  refine ai.ret ?_
  refine ah.ret ?_
  obtain rfl:=aS h
  exact ah.Ck rfl (ho 0 fX) (tS rfl)
 ·refine dE ?_
  refine aG ?_
  refine ba (a1 na) ?_
  refine c1 2 m5 mL ?_
  refine aD ?_
  obtain⟨bh,dF,h⟩:=aA h
  refine jB dF Tryz.underlying28 fX ?_
  refine ba (eG fX) ?_
  refine cP 0 fX ?_
  refine aT ?_
  refine aV ?_
  refine ai.ret ?_
  obtain rfl:=aS h
  exact ah.Ck rfl (ho 0 fX) (tS rfl)
theorem Ot {hp:aI Cell} {ab:jG} {al:aH} {r:(aI Cell)} (h:xd hp ab al=some r):bF Tryz.prog 230 [I.of (ab),I.of (al)] ([] ++ aY hp) (δ:=Unit) (fun d=>I.eA []) (fun d=> [] ++ aY r):=by
 unfold xd at h
 refine bF.of Tryz.func230 rfl Tryz.ntmps230 rfl fun W A=> ?_
 refine aG ?_
 refine cL fun a8=> ?_
 refine cL fun bn=> ?_
 refine aV ?_
 obtain⟨aB,bG,h⟩:=aA h
 refine ai.draw mixed 5 [some 4,some 5,some 6,some 7,some 8] [[],[0],[],[2],[3]] [.val _,.val _,.val _,.val _,.val _] [false,false,false,false,false] (by kernel_rfl) rfl rfl rfl (fun du=>⟨H1 (a1 EP),hl 1 AT B1,H1 (a1 nW),hl 0 m3 fH,iM B2 (A8 bG),trivial⟩) fun du=> ?_
 obtain⟨aK,cF,h⟩:=aA h
 refine ag.im 2 0 rfl TF (Oy cF) rfl rfl ⟨aa rfl,aa rfl,trivial⟩ rfl fun aM=> ?_
 refine ag.dT (L2:=(⟨some bn,.var (al:aH)⟩ :: ⟨some a8,.var (ab:jG)⟩ :: aY aK.2)) rfl ?_
 refine ag.nil ?_
 refine ah.oS ?_
 obtain rfl:=aS h
 exact ah.mD () (.cons _ (.cons _ (.refl _))) rfl rfl
theorem NZ {hp:aI Cell} {ab:Ref} {aP:List cW} {wD:Nat} {key02_0:Option Nat} {cap02_0:Nat} {r:(List cW)} (h:Ax hp ab aP=some r):bF Tryz.prog 256 [I.of (ab),I.of (⟨257,some [.pointer (some ⟨wD,0,none⟩)]⟩:Raw)] ([⟨some wD,.bU ([]:List cW) [(0,a5 key02_0 aP.length cap02_0)]⟩,⟨key02_0,.row 347 (aP:List cW) cap02_0⟩] ++ aY hp) (δ:=(Option Nat × Nat)) (fun d=>I.eA []) (fun d=> [⟨some wD,.bU ([]:List cW) [(0,a5 d.1 (r).length d.2)]⟩,⟨d.1,.row 347 (r:List cW) d.2⟩] ++ aY hp):=by
 unfold Ax at h
 refine bF.of Tryz.func256 rfl Tryz.ntmps256 rfl fun W A=> ?_
 refine aG ?_
 refine aD ?_
 refine bp (En Tryz.underlying321 (aa rfl)) ?_
 refine aV ?_
 obtain⟨bH,cM,h⟩:=aA h
 refine ai.c5 (γ:=(Option Nat × Nat)) (fun ay=> [(0,I.of (ab)),(1,I.of (⟨257,some [.pointer (some ⟨wD,0,none⟩)]⟩:Raw)),(5,I.of (ab.isSome))]) (fun ay=>(⟨some wD,.bU ([]:List cW) [(0,a5 ay.1 bH.length ay.2)]⟩ :: ⟨ay.1,.row 347 (bH:List cW) ay.2⟩ :: aY hp)) (aa rfl) (fun ay=> ?_) (fun hm aj=> ?_) (fun hm aj=> ?_)
 ·clear cM
  refine ah.oS ?_
  refine ah.bt 1 rfl ?_
  refine ah.bt 1 rfl ?_
  obtain rfl:=aS h
  exact ah.mD (ay.1,ay.2) (.cons_cons _ (.cons_cons _ (.refl _))) rfl rfl
 ·have h:=ij aj cM
  refine ai.cO ?_
  refine aD ?_
  refine aD ?_
  obtain⟨bS,cU,h⟩:=aA h
  refine bp (de (dO (aa rfl) cU)) ?_
  refine ba (a1 rL) ?_
  obtain⟨bl,dw,h⟩:=aA h
  refine bp (e7 ((aO.id fb).comp rD) (r:=bl.ck) dY (aa rfl) (ei (n:=2) rfl (mB dw) rfl) rfl rfl) ?_
  refine g7 g1 er (default:az) .nil ?_
  refine aD ?_
  obtain⟨aB,bG,h⟩:=aA h
  refine ag.uQ (fr.im 2 2 rfl Fx (N0 bG) rfl rfl ⟨aa rfl,aa rfl,aa rfl,bE 0,aa rfl,trivial⟩) rfl rfl rfl fun aM=> ?_
  refine ag.dT (L2:=(⟨some wD,.bU ([]:List cW) [(0,a5 aM.1 aB.length aM.2)]⟩ :: ⟨aM.1,.row 347 (aB:List cW) aM.2⟩ :: aY hp)) rfl ?_
  refine ag.nil ?_
  obtain rfl:=aS h
  exact dZ 0 (hm (aM.1,aM.2))
 ·have h:=ik aj cM
  refine ai.skip ?_
  obtain rfl:=aS h
  exact dZ 0 (hm (key02_0,cap02_0))
theorem N1 {ab:cG} {al:Int} {cb:Nat} {ki:Option Nat} {kj:Nat} {r:Bool × cG} (h:w2 ab al=some r):bF Tryz.prog 268 [I.eq (.pointer (some ⟨cb,0,none⟩)),I.of (al)] [⟨some cb,.bU (({ ab with cK:= [] } :cG):cG) [(10,a5 ki ab.cK.length kj)]⟩,⟨ki,.row 52 (ab.cK:List aH) kj⟩] (δ:=(Option Nat × Nat)) (fun d=>I.of (r.1)) (fun d=> [⟨some cb,.bU (({ r.2 with cK:= [] } :cG):cG) [(10,a5 d.1 (r.2.cK).length d.2)]⟩,⟨d.1,.row 52 (r.2.cK:List aH) d.2⟩]):=by
 unfold w2 at h
 refine bF.of Tryz.func268 rfl Tryz.ntmps268 rfl fun W A=> ?_
 refine aG ?_
 refine aT ?_
 refine bY ?_
 refine aD ?_
 refine aD ?_
 obtain⟨aB,bG,h⟩:=aA h
 refine ag.gW (eP.call [0,1] Lb (N7 bG) ⟨aa rfl,aa rfl,trivial⟩ rfl ⟨rfl,rfl,trivial⟩ rfl) rfl rfl rfl ?_
 refine aT ?_
 refine b2 ?_
 refine aG ?_
 refine aD ?_
 refine bL gr ?_
 refine aV ?_
 refine dv h (fun h=>?_) fun h=>?_
 ·refine aG ?_
  refine aT ?_
  refine aV ?_
  refine ai.ret ?_
  refine ah.ret ?_
  refine ah.bt 1 rfl ?_
  refine ah.bt 1 rfl ?_
  obtain rfl:=aS h
  exact k9 (ki,kj)
 ·refine dE ?_
  refine aG ?_
  refine aD ?_
  refine aD ?_
  refine ba de ?_
  refine ba (a1 rK) ?_
  refine bp (hM (i:=0) (q:=0) (β:=cG) (γ:=aH) qH (aa rfl) rfl rfl) ?_
  refine aD ?_
  refine aD ?_
  refine bL ep ?_
  refine ag.bt 1 rfl ?_
  obtain⟨aK,cF,h⟩:=aA h
  refine et 1 TG (NS cF) fun aM=> ?_
  refine ba de ?_
  refine ba (a1 rK) ?_
  refine ag.jw (i:=1) (γ:=aH) (b':=(({ ab with cK:= [] } :cG):cG)) (os':= [(10,a5 aM.1 aK.length aM.2)]) ((aO.id cG).comp u7) qH (aa rfl) (aa rfl) ih rfl rfl rfl rfl ?_
  refine bY ?_
  refine aT ?_
  refine aV ?_
  refine ai.ret ?_
  refine ah.bt 0 rfl ?_
  refine ah.bt 1 rfl ?_
  obtain rfl:=aS h
  exact k9 (aM.1,aM.2)
end Go.Proofs.YtmnggbjcnoffeaaGreat
namespace Go.Proofs.YtmnggbjcnoffeaaGreat
open Go Gv
set_option linter.unusedVariables false
set_option linter.unusedSimpArgs false
set_option maxRecDepth 100000
set_option maxHeartbeats 2000000
theorem Ou {hp:aI Cell} {ab:iX} {al:aH} {Q:(aI Cell)→Prop} (h:xe hp ab al Q):bF Tryz.prog 263 [I.of (ab),I.of (al)] ([] ++ aY hp) (δ:= {r:(aI Cell) // Q r} × Unit) (fun d=>I.eA []) (fun d=> [] ++ aY d.1.1):=by
 unfold xe at h
 refine bF.of Tryz.func263 rfl Tryz.ntmps263 rfl fun W A=> ?_
 refine aG ?_
 refine cL fun a8=> ?_
 refine cL fun bn=> ?_
 refine aV ?_
 refine ai.cO ?_
 refine ba (a1 EX) ?_
 refine c1 1 AV Cc ?_
 refine ba (a1 nV) ?_
 refine c1 0 m2 bP ?_
 obtain⟨bS,cU,h⟩:=ao.bX h
 obtain⟨bl,dw,h⟩:=ao.bX h
 obtain⟨aB,bG,h⟩:=ao.bX h
 refine ag.uQ (fr.obj 2 (fun q:Option Nat × Nat=>Cell.pO aB.2 q.1 q.2) rfl (ts dw) TH (N1 bG) rfl (fun _=>rfl) ⟨dO (aa rfl) cU,aa rfl,trivial⟩) rfl rfl rfl fun aM=> ?_
 replace h:=ao.any_bind h aM
 obtain⟨cd,ir,h⟩:=ao.bX h
 refine ag.dT (L2:=(⟨some bn,.var (al:aH)⟩ :: ⟨some a8,.var (ab:iX)⟩ :: aY cd)) (by rw [← aS ir]; rfl) ?_
 refine ag.nil ?_
 refine ah.oS ?_
 exact ah.mD (⟨⟨cd,h⟩,()⟩: {r // _} × _) (.cons _ (.cons _ (.refl _))) rfl rfl
end Go.Proofs.YtmnggbjcnoffeaaGreat
namespace Go.Proofs.YtmnggbjcnoffeaaGreat
open Go Gv
set_option linter.unusedVariables false
set_option linter.unusedSimpArgs false
set_option maxRecDepth 100000
set_option maxHeartbeats 2000000
theorem Pu {ab:List Int} {r:Int} (h:xM ab=some r):b9 Tryz.prog 133 [I.of (ab)] (I.of (r)):=by
 unfold xM at h
 refine b9.of Tryz.func133 rfl Tryz.ntmps133 rfl fun W A=> ?_
 refine aG ?_
 refine aT ?_
 refine b2 ?_
 refine aG ?_
 refine aD ?_
 refine ba (gO Tryz.underlying63) ?_
 refine aD ?_
 refine aV ?_
 refine ai.block ?_
 obtain⟨aE,ar,h⟩:=aA h
 refine la (γ:=Unit) (δ:=Unit) ar [0,5,6] (fun s1 ay=> [(2,I.of (0:Int)),(7,I.of (s1))]) (fun s1 ay=> []) (fun aM=>Sum.elim (fun aM=>Exit.exit 0) (fun aM=>Exit.ret) aM) (fun aM ay=>Sum.elim (fun aM=> [(2,I.of (0:Int)),(7,I.of (aM.1)),(8,I.of (aM.2))]) (fun aM=> [(2,I.of (aM.1)),(4,I.of (aM.2.1)),(7,I.of (aM.2.2.1)),(8,I.of (aM.2.2.2.1)),(12,I.of (aM.2.2.2.2))]) aM) (fun aM ay=>Sum.elim (fun aM=> []) (fun aM=> []) aM) () (fun s1 r h ay=> ?_) fun ay=> ?_
 ·clear ar
  refine aG ?_
  refine bL gr ?_
  refine b2 ?_
  refine dv h (fun h=>?_) fun h=>?_
  ·refine dE ?_
   refine ai.seq ?_
   refine ai.block ?_
   refine aG ?_
   obtain⟨bh,dF,h⟩:=aA h
   refine jB dF Tryz.underlying63 bP ?_
   refine ba (eG bP) ?_
   refine aT ?_
   refine bY ?_
   refine aD ?_
   refine bL oG ?_
   refine aV ?_
   refine dv h (fun h=>?_) fun h=>?_
   ·refine aG ?_
    refine aD ?_
    refine aT ?_
    refine aV ?_
    refine ai.ret ?_
    refine ah.e4 ?_
    refine ah.ret ?_
    obtain rfl:=aS h
    exact hn () 0
   ·refine ai.skip ?_
    refine ah.fF ?_
    refine ah.next ?_
    refine ai.cO ?_
    refine bL ep ?_
    refine aD ?_
    refine ag.nil ?_
    obtain rfl:=aS h
    exact j7 () 0
  ·refine ai.exit ?_
   refine ah.exit ?_
   obtain rfl:=aS h
   exact hn () 0
 ·clear ar
  rcases aE with aE | aE
  ·simp only [Sum.elim_inl] at h
   refine ah.h4 ?_
   refine ah.next ?_
   refine aG ?_
   refine aT ?_
   refine aV ?_
   refine ai.ret ?_
   obtain rfl:=aS h
   exact e8
  ·simp only [Sum.elim_inr] at h
   refine ah.e4 ?_
   refine ah.ret ?_
   obtain rfl:=aS h
   exact e8
end Go.Proofs.YtmnggbjcnoffeaaGreat
namespace Go.Proofs.YtmnggbjcnoffeaaGreat
open Go Gv
set_option linter.unusedVariables false
set_option linter.unusedSimpArgs false
set_option maxRecDepth 100000
set_option maxHeartbeats 2000000
theorem Pb {ab:Int} {al:Int} {r:az} (h:xH ab al=some r):b9 Tryz.prog 189 [I.of (ab),I.of (al)] (I.of (r)):=by
 unfold xH at h
 refine b9.of Tryz.func189 rfl Tryz.ntmps189 rfl fun W A=> ?_
 refine aG ?_
 refine dI er fun a8=> ?_
 refine bY ?_
 refine aD ?_
 obtain⟨aB,bG,h⟩:=aA h
 refine hH K4 (Ir bG) ?_
 refine aT ?_
 refine bY ?_
 refine aD ?_
 refine bL BX ?_
 refine aD ?_
 refine bL yF ?_
 refine aT ?_
 refine bY ?_
 refine aD ?_
 obtain⟨aK,cF,h⟩:=aA h
 refine hH Lc (IB cF) ?_
 refine aD ?_
 refine aD ?_
 refine bL kn ?_
 obtain⟨bk,gQ,h⟩:=aA h
 refine hH Lc (IB gQ) ?_
 obtain⟨b1,hY,h⟩:=aA h
 refine hH TI (PK hY) ?_
 refine cP 0 cw ?_
 refine aV ?_
 refine ai.ret ?_
 obtain rfl:=aS h
 exact ah.je rfl (ho 0 cw)
theorem Oz {al:Int} {aP:az} {cE:Ref} :yv Tryz.prog 255 [I.ptr al,I.ptr aP,I.ptr cE] (fun v:Int=>I.of v) (fun {σ ε} hq step b0=>sN (σ:=σ) (ε:=ε) al aP cE hq step b0):=by
 refine yv.of Tryz.func255 rfl Tryz.ntmps255 rfl ?_
 intro σ ε γ Ls Lx hq jn ma step b0 g0 R h W A u wS
 replace h:sN al aP cE hq step b0 R:=h
 unfold sN at h
 refine aG ?_
 refine ba (eG bP) ?_
 refine aD ?_
 refine aV ?_
 refine ai.block ?_
 refine ai.BL (σ:=Int × (σ)) (ε:=(Int × Bool × (σ)) ⊕ (Int × Int × Int × Bool × Bool × Bool × (ε))) (γ:=γ) (δ:=γ) h (fun s1 ay=> [(0,I.eq u),(1,I.ptr al),(2,I.ptr aP),(3,I.ptr cE),(7,I.of (al)),(8,I.of (s1.1))]) (fun s1 ay=>(Ls s1.2 ay)) (fun aM=>Sum.elim (fun aM=>Exit.exit 0) (fun aM=>Exit.ret) aM) (fun aM ay=>Sum.elim (fun aM=> [(0,I.eq u),(1,I.ptr al),(2,I.ptr aP),(3,I.ptr cE),(7,I.of (al)),(8,I.of (aM.1)),(9,I.of (aM.2.1))]) (fun aM=> [(0,I.eq u),(1,I.ptr al),(2,I.ptr aP),(3,I.ptr cE),(5,I.of (aM.1)),(6,I.of (aM.2.1)),(7,I.of (al)),(8,I.of (aM.2.2.1)),(9,I.of (aM.2.2.2.1)),(19,I.of (aM.2.2.2.2.1)),(23,I.of (aM.2.2.2.2.2.1))]) aM) (fun aM ay=>Sum.elim (fun aM=>(Ls aM.2.2 ay)) (fun aM=>(Lx aM.2.2.2.2.2.2 ay)) aM) g0 rfl (.same rfl (.same rfl (.same rfl (.same rfl (.same rfl (.same rfl .nil)))))) (fun s1 R h ay=> ?_) (fun aE h ay=> ?_)
 ·refine aG ?_
  refine bL gr ?_
  refine b2 ?_
  refine ai.cond (aa rfl) (fun aj=> ?_) (fun aj=> ?_)
  ·replace h:=jt aj h
   refine dE ?_
   refine ai.seq ?_
   refine ai.block ?_
   refine aG ?_
   refine aD ?_
   refine aT ?_
   refine bY ?_
   refine aT ?_
   refine b2 ?_
   refine ai.seq ?_
   obtain⟨bS,cU,h⟩:=ao.bX h
   obtain⟨bl,dw,h⟩:=ao.bX h
   obtain⟨aB,bG,h⟩:=ao.bX h
   refine ai.draw mixed 9 [some 11,some 12,some 13,some 14,some 15,some 16,some 17,some 18,some 19] [[],[],[1],[2],[3],[4],[],[5,6],[0,7]] [.val _,.val _,.val _,.val _,.val _,.val _,.val _,.val _,.val _] [false,false,false,false,false,false,false,false,false] (by kernel_rfl) rfl rfl rfl (fun du=>⟨H1 (eG cw),H1 (eG Ld),eO fun av an=>de (dO (aa rfl) cU),H1 (a1 yg),eO fun av an=>e7 ((aO.id fb).comp va) (r:=bl.fm) bP (aa rfl) (jx (fun i e q=>an i e q rfl) (Le (Ls:=Ls) (s:=s1.2) (g:=ay) 0 rfl ma (mB dw) rfl)) rfl rfl,lN kn,dW,lN kn,iM Lf (IG bG),trivial⟩) fun du=> ?_
   refine aV ?_
   obtain⟨bH,cM,h⟩:=ao.bX h
   refine ai.c5 (γ:=Unit) (fun bf=> [(0,I.eq u),(1,I.ptr al),(2,I.ptr aP),(3,I.ptr cE),(5,I.of (s1.1)),(6,I.of (bH)),(7,I.of (al)),(8,I.of (s1.1)),(9,I.of (decide (s1.1 < al))),(19,I.of (aB))]) (fun bf=>(Ls s1.2 ay)) (aa rfl) (fun bf=> ?_) (fun hm aj=> ?_) (fun hm aj=> ?_)
   ·clear cM
    refine ah.next ?_
    refine aG ?_
    refine aD ?_
    refine aD ?_
    refine ag.Sl (Lin:= []) (Ls:=Ls) (Lx:=Lx) (step:=step) (s:=s1.2) (gg:=ay) rfl wS rfl (aa rfl) h rfl (fun s2 h bJ=> ?_) (fun eK h bJ=> ?_)
    ·simp only [Sum.elim_inl] at h
     refine ag.dT (L2:=(Ls s2 bJ)) rfl ?_
     refine ba ko ?_
     refine aV ?_
     refine ai.yI (aa rfl) (by first | rfl | (rw [hb]; rfl)) ?_
     refine ai.skip ?_
     refine ah.fF ?_
     refine ah.next ?_
     refine ai.cO ?_
     refine bL ep ?_
     refine aD ?_
     refine ag.nil ?_
     exact ah.vM h bJ 0 rfl (.same rfl (.same rfl (.same rfl (.same rfl (.same rfl (.same rfl .nil))))))
    ·simp only [Sum.elim_inr] at h
     refine ag.dT (L2:=(Lx eK bJ)) rfl ?_
     refine ba ko ?_
     refine aV ?_
     refine ai.Lg (aa rfl) (by first | rfl | (rw [hb]; rfl)) ?_
     refine ai.ret ?_
     refine ah.e4 ?_
     refine ah.ret ?_
     exact ah.pE h bJ 0 rfl (by simp) rfl (.same rfl (.same rfl (.same rfl (.same rfl (.same rfl (.same rfl (.same rfl (.same rfl (.same rfl (.same rfl (.same rfl .nil)))))))))))
   ·have h:=ij aj cM
    refine ai.cO ?_
    refine aT ?_
    refine ag.nil ?_
    obtain rfl:=aS h
    exact dZ 0 (hm ())
   ·have h:=ik aj cM
    refine ai.skip ?_
    obtain rfl:=aS h
    exact dZ 0 (hm ())
  ·replace h:=ju aj h
   refine ai.exit ?_
   refine ah.exit ?_
   exact ah.pE h ay 0 rfl (by simp) rfl (.same rfl (.same rfl (.same rfl (.same rfl (.same rfl (.same rfl (.same rfl .nil)))))))
 ·rcases aE with aE | aE
  ·simp only [Sum.elim_inl] at h
   refine ah.h4 ?_
   refine ah.oS ?_
   exact ah.mD (⟨⟨(.inl aE.2.2:σ ⊕ ε),h⟩,ay⟩: {r // _} × _) (.refl _) rfl rfl
  ·simp only [Sum.elim_inr] at h
   refine ah.e4 ?_
   exact ah.mD (⟨⟨(.inr aE.2.2.2.2.2.2:σ ⊕ ε),h⟩,ay⟩: {r // _} × _) (.refl _) rfl rfl
theorem H6 {hp:aI Cell} {al:Int} {aP:az} {cE:Ref} :yw Tryz.prog 255 [I.ptr al,I.ptr aP,I.ptr cE] hp (fun v:Int=>I.of v) (fun {σ ε} =>p7 (σ:=σ) (ε:=ε) hp al aP cE):=by
 refine yw.of Tryz.func255 rfl Tryz.ntmps255 rfl ?_
 intro σ ε γ Ls Lx jn ma step b0 g0 r h W A u wS
 replace h:p7 hp al aP cE step b0=some r:=h
 unfold p7 at h
 refine aG ?_
 refine ba (eG bP) ?_
 refine aD ?_
 refine aV ?_
 refine ai.block ?_
 obtain⟨aE,ar,h⟩:=aA h
 refine ai.Cd (σ:=Int × (σ)) (ε:=(Int × Bool × (σ)) ⊕ (Int × Int × Int × Bool × Bool × Bool × (ε))) (γ:=γ) (δ:=γ) ar (fun s1 ay=> [(0,I.eq u),(1,I.ptr al),(2,I.ptr aP),(3,I.ptr cE),(7,I.of (al)),(8,I.of (s1.1))]) (fun s1 ay=>(Ls s1.2 ay)) (fun aM=>Sum.elim (fun aM=>Exit.exit 0) (fun aM=>Exit.ret) aM) (fun aM ay=>Sum.elim (fun aM=> [(0,I.eq u),(1,I.ptr al),(2,I.ptr aP),(3,I.ptr cE),(7,I.of (al)),(8,I.of (aM.1)),(9,I.of (aM.2.1))]) (fun aM=> [(0,I.eq u),(1,I.ptr al),(2,I.ptr aP),(3,I.ptr cE),(5,I.of (aM.1)),(6,I.of (aM.2.1)),(7,I.of (al)),(8,I.of (aM.2.2.1)),(9,I.of (aM.2.2.2.1)),(19,I.of (aM.2.2.2.2.1)),(23,I.of (aM.2.2.2.2.2.1))]) aM) (fun aM ay=>Sum.elim (fun aM=>(Ls aM.2.2 ay)) (fun aM=>(Lx aM.2.2.2.2.2.2 ay)) aM) g0 rfl (.same rfl (.same rfl (.same rfl (.same rfl (.same rfl (.same rfl .nil)))))) (fun s1 r h ay=> ?_) (fun ay=> ?_)
 ·clear ar
  refine aG ?_
  refine bL gr ?_
  refine b2 ?_
  refine dv h (fun h=>?_) fun h=>?_
  ·refine dE ?_
   refine ai.seq ?_
   refine ai.block ?_
   refine aG ?_
   refine aD ?_
   refine aT ?_
   refine bY ?_
   refine aT ?_
   refine b2 ?_
   refine ai.seq ?_
   obtain⟨bS,cU,h⟩:=aA h
   obtain⟨bl,dw,h⟩:=aA h
   obtain⟨aB,bG,h⟩:=aA h
   refine ai.draw mixed 9 [some 11,some 12,some 13,some 14,some 15,some 16,some 17,some 18,some 19] [[],[],[1],[2],[3],[4],[],[5,6],[0,7]] [.val _,.val _,.val _,.val _,.val _,.val _,.val _,.val _,.val _] [false,false,false,false,false,false,false,false,false] (by kernel_rfl) rfl rfl rfl (fun du=>⟨H1 (eG cw),H1 (eG Ld),eO fun av an=>de (dO (aa rfl) cU),H1 (a1 yg),eO fun av an=>e7 ((aO.id fb).comp va) (r:=bl.fm) bP (aa rfl) (jx (fun i e q=>an i e q rfl) (TJ (Ls:=Ls) (s:=s1.2) (g:=ay) 0 rfl ma (mB dw) rfl)) rfl rfl,lN kn,dW,lN kn,iM Lf (IG bG),trivial⟩) fun du=> ?_
   refine aV ?_
   obtain⟨bH,cM,h⟩:=aA h
   refine ai.c5 (γ:=Unit) (fun bf=> [(0,I.eq u),(1,I.ptr al),(2,I.ptr aP),(3,I.ptr cE),(5,I.of (s1.1)),(6,I.of (bH)),(7,I.of (al)),(8,I.of (s1.1)),(9,I.of (decide (s1.1 < al))),(19,I.of (aB))]) (fun bf=>(Ls s1.2 ay)) (aa rfl) (fun bf=> ?_) (fun hm aj=> ?_) (fun hm aj=> ?_)
   ·clear cM
    refine ah.next ?_
    refine aG ?_
    refine aD ?_
    refine aD ?_
    obtain⟨aK,cF,h⟩:=aA h
    refine ag.yield (Lin:= []) (Ls:=Ls) (Lx:=Lx) (step:=step) (s:=s1.2) (gg:=ay) rfl wS rfl (aa rfl) cF rfl (fun s2 aQ bJ=> ?_) (fun eK aQ bJ=> ?_)
    ·subst aQ; simp only [Sum.elim_inl] at h
     refine ag.dT (L2:=(Ls s2 bJ)) rfl ?_
     refine ba ko ?_
     refine aV ?_
     refine ai.yI (aa rfl) (by first | rfl | (rw [hb]; rfl)) ?_
     refine ai.skip ?_
     refine ah.fF ?_
     refine ah.next ?_
     refine ai.cO ?_
     refine bL ep ?_
     refine aD ?_
     refine ag.nil ?_
     obtain rfl:=aS h
     exact j7 bJ 0
    ·subst aQ; simp only [Sum.elim_inr] at h
     refine ag.dT (L2:=(Lx eK bJ)) rfl ?_
     refine ba ko ?_
     refine aV ?_
     refine ai.Lg (aa rfl) (by first | rfl | (rw [hb]; rfl)) ?_
     refine ai.ret ?_
     refine ah.e4 ?_
     refine ah.ret ?_
     obtain rfl:=aS h
     exact hn bJ 0
   ·have h:=ij aj cM
    refine ai.cO ?_
    refine aT ?_
    refine ag.nil ?_
    obtain rfl:=aS h
    exact dZ 0 (hm ())
   ·have h:=ik aj cM
    refine ai.skip ?_
    obtain rfl:=aS h
    exact dZ 0 (hm ())
  ·refine ai.exit ?_
   refine ah.exit ?_
   obtain rfl:=aS h
   exact hn ay 0
 ·clear ar
  rcases aE with aE | aE
  ·simp only [Sum.elim_inl] at h
   refine ah.h4 ?_
   refine ah.oS ?_
   obtain rfl:=aS h
   exact ah.mD ay (.refl _) rfl rfl
  ·simp only [Sum.elim_inr] at h
   refine ah.e4 ?_
   obtain rfl:=aS h
   exact ah.mD ay (.refl _) rfl rfl
theorem A6 {ab:aH} {r:aH} (h:pv ab=some r):b9 Tryz.prog 87 [I.of (ab)] (I.of (r)):=by
 unfold pv at h
 refine b9.of Tryz.func87 rfl Tryz.ntmps87 rfl fun W A=> ?_
 refine aG ?_
 refine cL fun a8=> ?_
 refine dI hP fun bn=> ?_
 refine bY ?_
 refine ba (a1 nW) ?_
 refine c1 1 m3 fH ?_
 obtain⟨aB,bG,h⟩:=aA h
 refine hH TK (PM bG) ?_
 refine ba (a1 nW) ?_
 refine wz 1 m3 fH ?_
 refine bY ?_
 refine cS 1 cZ ?_
 refine cP 0 cZ ?_
 refine aV ?_
 refine ai.ret ?_
 obtain rfl:=aS h
 exact ah.je rfl (ho 0 cZ)
end Go.Proofs.YtmnggbjcnoffeaaGreat
