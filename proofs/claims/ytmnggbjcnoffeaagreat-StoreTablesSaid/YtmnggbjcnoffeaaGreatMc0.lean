/-
  Each function meets its functional program. Conditions: none.
-/
import Derived.Test.YtmnggbjcnoffeaaGreatMd
set_option linter.unusedVariables false
set_option linter.unusedSimpArgs false
set_option maxRecDepth 100000
set_option maxHeartbeats 2000000
namespace Go.Proofs.YtmnggbjcnoffeaaGreat
open Go Gv
theorem Ga {aa:List (BitVec 8)} {aj:Int} {r:bf} (h:tS aa aj=some r):bO Tryz.prog 15 [I.of (aa),I.of (aj)] [] (δ:=Nat) (fun d=>I.eq (.pointer (some ⟨d,0,none⟩))) (fun d=> [⟨some d,.var (r:bf)⟩]):=by
 unfold tS at h
 refine bO.of Tryz.func15 rfl Tryz.ntmps15 rfl fun W A=> ?_
 refine aE ?_
 refine bp (eH (MA (.pointer none))) ?_
 refine b5 ?_
 refine aC ?_
 refine aC ?_
 refine a4 (eT Tryz.underlying22) ?_
 refine aC ?_
 refine bs Aa ?_
 obtain⟨aB,bu,h⟩:=az h
 refine bp (L4 Tryz.underlying22 II (ab rfl) .none (.some (ab rfl)) bu) ?_
 refine hl VD VE ({ (default:bf) with c2:=aB } :bf) (iH CN .nil) ?_
 refine cz fun aW=> ?_
 refine aO ?_
 refine aM ?_
 refine ai.ret ?_
 refine ae.bU 0 rfl ?_
 obtain rfl:=aK h
 exact lJ aW
theorem Q5 {aa:bf} {cv:Nat} {r:Bool} (h:CO aa=some r):bO Tryz.prog 26 [I.eq (.pointer (some ⟨cv,0,none⟩))] [⟨some cv,.var (aa:bf)⟩] (δ:=Unit) (fun d=>I.of (r)) (fun d=> [⟨some cv,.var (aa:bf)⟩]):=by
 unfold CO at h
 refine bO.of Tryz.func26 rfl Tryz.ntmps26 rfl fun W A=> ?_
 refine aE ?_
 refine aO ?_
 refine bY ?_
 refine ai.draw mixed 10 [some 3,some 4,some 5,some 6,some 7,some 8,some 9,some 10,some 11,some 12] [[],[0],[1],[2],[],[4],[5],[6],[7],[3,8]] [.val _,.val _,.val _,.val _,.val _,.val _,.val _,.val _,.val _,.val _] [false,false,false,false,false,false,false,false,false,false] (by kernel_rfl) rfl rfl rfl (fun dk=>⟨dc,H1 dx,H1 (aX zF),ey 0 yG bK,dc,H1 dx,H1 (aX GV),ey 0 CN El,H1 (eT Tryz.underlying22),kc e1,trivial⟩) fun dk=> ?_
 refine aO ?_
 refine aM ?_
 refine ai.ret ?_
 refine ae.bU 0 rfl ?_
 obtain rfl:=aK h
 exact lJ ()
theorem QR {aa:bQ} {aj:Int} {r:Bool} (h:CF aa aj=some r):bW Tryz.prog 119 [I.of (aa),I.ptr aj] (I.of (r)):=by
 unfold CF at h
 refine bW.of Tryz.func119 rfl Tryz.ntmps119 rfl fun W A=> ?_
 refine aE ?_
 refine cz fun aW=> ?_
 refine aO ?_
 refine b5 ?_
 refine a4 (aX q4) ?_
 refine ct 0 nF bK ?_
 refine a4 (eh bK) ?_
 refine bs gI ?_
 refine aO ?_
 refine aM ?_
 refine ai.ret ?_
 obtain rfl:=aK h
 exact c7
theorem P7 {aa:List bQ} {aj:bQ→Option Bool} {r:Int} (h:yh aa aj=some r):bW Tryz.prog 118 [I.of (aa),I.vj Tryz.prog aj] (I.of (r)):=by
 unfold yh at h
 refine bW.of Tryz.func118 rfl Tryz.ntmps118 rfl fun W A=> ?_
 refine aE ?_
 refine aO ?_
 refine bY ?_
 refine aE ?_
 refine aC ?_
 refine a4 (eT Tryz.underlying28) ?_
 refine aC ?_
 refine aM ?_
 refine ai.block ?_
 obtain⟨aF,ao,h⟩:=az h
 refine h5 (γ:=Unit) (δ:=Unit) ao [0,1,7] (fun s1 av=> [(4,I.of (0:Int)),(8,I.of (s1))]) (fun s1 av=> []) (fun ax=>Sum.elim (fun ax=>Exit.exit 0) (fun ax=>Exit.ret) ax) (fun ax av=>Sum.elim (fun ax=> [(4,I.of (0:Int)),(8,I.of (ax.1)),(9,I.of (ax.2))]) (fun ax=> [(4,I.of (ax.1)),(5,I.of (ax.2.1)),(8,I.of (ax.2.2.1)),(9,I.of (ax.2.2.2.1)),(16,I.of (ax.2.2.2.2))]) ax) (fun ax av=>Sum.elim (fun ax=> []) (fun ax=> []) ax) () (fun s1 r h av=> ?_) fun av=> ?_
 ·clear ao
  refine aE ?_
  refine bs e1 ?_
  refine bY ?_
  refine cA h (fun h=>?_) fun h=>?_
  ·refine c4 ?_
   refine ai.seq ?_
   refine ai.block ?_
   refine aE ?_
   refine aC ?_
   refine aO ?_
   refine b5 ?_
   refine aC ?_
   refine aC ?_
   refine aC ?_
   obtain⟨bj,cQ,h⟩:=az h
   refine ik cQ Tryz.underlying28 gJ ?_
   refine a4 (eh gJ) ?_
   obtain⟨aB,bu,h⟩:=az h
   refine bp (Dh (ab rfl) (ab rfl) bu) ?_
   refine aM ?_
   refine cA h (fun h=>?_) fun h=>?_
   ·refine aE ?_
    refine aC ?_
    refine aO ?_
    refine aM ?_
    refine ai.ret ?_
    refine ae.dR ?_
    refine ae.ret ?_
    obtain rfl:=aK h
    exact eX () 0
   ·refine ai.skip ?_
    refine ae.eC ?_
    refine ae.next ?_
    refine ai.cE ?_
    refine bs dX ?_
    refine aC ?_
    refine ah.nil ?_
    obtain rfl:=aK h
    exact hD () 0
  ·refine ai.exit ?_
   refine ae.exit ?_
   obtain rfl:=aK h
   exact eX () 0
 ·clear ao
  rcases aF with aF | aF
  ·simp only [Sum.elim_inl] at h
   refine ae.gE ?_
   refine ae.next ?_
   refine aE ?_
   refine aO ?_
   refine aM ?_
   refine ai.ret ?_
   obtain rfl:=aK h
   exact c7
  ·simp only [Sum.elim_inr] at h
   refine ae.dR ?_
   refine ae.ret ?_
   obtain rfl:=aK h
   exact c7
theorem RA {aa:bQ} {r:Int × Int} (h:wC aa=some r):bW Tryz.prog 83 [I.of (aa)] (I.eD [I.of (r.1),I.of (r.2)]):=by
 unfold wC at h
 refine bW.of Tryz.func83 rfl Tryz.ntmps83 rfl fun W A=> ?_
 refine aE ?_
 refine cz fun aW=> ?_
 refine aO ?_
 refine aO ?_
 refine b5 ?_
 refine aO ?_
 refine aO ?_
 refine bY ?_
 refine aE ?_
 refine a4 (aX mv) ?_
 refine ct 0 kC l6 ?_
 refine a4 (eT Tryz.underlying62) ?_
 refine aC ?_
 refine aM ?_
 refine ai.block ?_
 obtain⟨aF,ao,h⟩:=az h
 refine h5 (γ:=Unit) (δ:=Unit) ao [0,1,2,3,9,10] (fun s1 av=> [(4,I.of (s1.1)),(5,I.of (s1.2.1)),(11,I.of (s1.2.2))]) (fun s1 av=> []) (fun ax=>Exit.exit 0) (fun ax av=> [(4,I.of (ax.1)),(5,I.of (ax.2.1)),(11,I.of (ax.2.2.1)),(12,I.of (ax.2.2.2))]) (fun ax av=> []) () (fun s1 r h av=> ?_) fun av=> ?_
 ·clear ao
  refine aE ?_
  refine bs e1 ?_
  refine bY ?_
  refine cA h (fun h=>?_) fun h=>?_
  ·refine c4 ?_
   refine ai.seq ?_
   refine ai.block ?_
   refine aE ?_
   refine aC ?_
   obtain⟨bj,cQ,h⟩:=az h
   refine ik cQ Tryz.underlying62 ko ?_
   refine a4 (eh ko) ?_
   refine dJ j2 fun a2=> ?_
   refine aO ?_
   refine cY 0 ko ?_
   refine b5 ?_
   refine a4 (aX zN) ?_
   refine ct 0 mX bK ?_
   refine aM ?_
   refine ai.block ?_
   refine aE ?_
   refine bs gI ?_
   refine aO ?_
   refine aM ?_
   obtain⟨bB,cV,h⟩:=az h
   refine kr (γ:=Unit) [0,1,2,3,6,7,9,10,11,12,17,18] (fun bm=> [(4,I.of (bB.1)),(5,I.of (bB.2))]) (fun bm=> []) (fun bm=> ?_) (fun hm ak=> ?_) fun hm ak=> ?_
   ·clear cV
    refine ae.eC ?_
    refine ae.eC ?_
    refine ae.next ?_
    refine ai.cE ?_
    refine bs dX ?_
    refine aC ?_
    refine ah.nil ?_
    obtain rfl:=aK h
    exact hD () 1
   ·have h:=hY ak cV
    refine ai.skip ?_
    obtain rfl:=aK h
    exact dT 0 (hm ())
   ·have h:=hZ ak cV
    refine aE ?_
    refine bs gI ?_
    refine aO ?_
    refine aM ?_
    obtain⟨cL,en,h⟩:=az h
    refine kr (γ:=Unit) [0,1,2,3,6,7,9,10,11,12,17,18,20] (fun bS=> [(4,I.of (cL.1)),(5,I.of (cL.2))]) (fun bS=> []) (fun bS=> ?_) (fun hm ak=> ?_) fun hm ak=> ?_
    ·clear en
     obtain rfl:=aK h
     exact dT 0 (hm ())
    ·have h:=hY ak en
     refine ai.cE ?_
     refine aC ?_
     refine bs DQ ?_
     refine aC ?_
     refine aO ?_
     refine aO ?_
     refine ah.nil ?_
     obtain rfl:=aK h
     exact dT 0 (hm ())
    ·have h:=hZ ak en
     refine ai.cE ?_
     refine aO ?_
     refine ah.nil ?_
     obtain rfl:=aK h
     exact dT 0 (hm ())
  ·refine ai.exit ?_
   refine ae.exit ?_
   obtain rfl:=aK h
   exact eX () 0
 ·clear ao
  refine ae.gE ?_
  refine ae.next ?_
  refine aE ?_
  refine aC ?_
  refine aC ?_
  refine aO ?_
  refine aO ?_
  refine aM ?_
  refine ai.ret ?_
  obtain rfl:=aK h
  exact OR
theorem RZ {hp:aN Cell} {Q:Ref × (aN Cell)→Prop} (h:C1 hp Q):bO Tryz.prog 84 [] ([] ++ aV hp) (δ:= {r:Ref × (aN Cell) // Q r} × Unit) (fun d=>I.of (d.1.1.1)) (fun d=> [] ++ aV d.1.1.2):=by
 unfold C1 at h
 refine bO.of Tryz.func84 rfl Tryz.ntmps84 rfl fun W A=> ?_
 refine aE ?_
 refine bp (eH (oj)) ?_
 refine b5 ?_
 refine ah.DD (α:=Vector aA 4) (β:=Int) 0 rfl (Cell.nf ([]:List ((Vector aA 4) × Int))) (fun _=>rfl) rfl fun cN rK=> ?_
 replace h:=aq.p4 h cN rK
 refine hl VF VG { nQ:=(⟨some cN.1⟩:e2):mn } (iH yx .nil) ?_
 refine ah.xq 0 rfl (Cell.xr ({ nQ:=(⟨some cN.1⟩:e2):mn })) (fun _=>rfl) (ab rfl) rfl fun cF vk=> ?_
 replace h:=aq.p4 h cF vk
 refine aO ?_
 refine aM ?_
 refine ai.ret ?_
 exact ae.eW (⟨⟨((some cF.1:Ref),cF.2),h⟩,()⟩: {r // _} × _) (.refl _) rfl rfl (dH rfl)
theorem QS {aa:fh} {aj:Int} {r:Bool} (h:CG aa aj=some r):bW Tryz.prog 121 [I.of (aa),I.ptr aj] (I.of (r)):=by
 unfold CG at h
 refine bW.of Tryz.func121 rfl Tryz.ntmps121 rfl fun W A=> ?_
 refine aE ?_
 refine cz fun aW=> ?_
 refine aO ?_
 refine b5 ?_
 refine a4 (aX L5) ?_
 refine ct 0 o2 bK ?_
 refine a4 (eh bK) ?_
 refine bs gI ?_
 refine aO ?_
 refine aM ?_
 refine ai.ret ?_
 obtain rfl:=aK h
 exact c7
theorem P8 {aa:List fh} {aj:fh→Option Bool} {r:Int} (h:yi aa aj=some r):bW Tryz.prog 120 [I.of (aa),I.vj Tryz.prog aj] (I.of (r)):=by
 unfold yi at h
 refine bW.of Tryz.func120 rfl Tryz.ntmps120 rfl fun W A=> ?_
 refine aE ?_
 refine aO ?_
 refine bY ?_
 refine aE ?_
 refine aC ?_
 refine a4 (eT Tryz.underlying24) ?_
 refine aC ?_
 refine aM ?_
 refine ai.block ?_
 obtain⟨aF,ao,h⟩:=az h
 refine h5 (γ:=Unit) (δ:=Unit) ao [0,1,7] (fun s1 av=> [(4,I.of (0:Int)),(8,I.of (s1))]) (fun s1 av=> []) (fun ax=>Sum.elim (fun ax=>Exit.exit 0) (fun ax=>Exit.ret) ax) (fun ax av=>Sum.elim (fun ax=> [(4,I.of (0:Int)),(8,I.of (ax.1)),(9,I.of (ax.2))]) (fun ax=> [(4,I.of (ax.1)),(5,I.of (ax.2.1)),(8,I.of (ax.2.2.1)),(9,I.of (ax.2.2.2.1)),(16,I.of (ax.2.2.2.2))]) ax) (fun ax av=>Sum.elim (fun ax=> []) (fun ax=> []) ax) () (fun s1 r h av=> ?_) fun av=> ?_
 ·clear ao
  refine aE ?_
  refine bs e1 ?_
  refine bY ?_
  refine cA h (fun h=>?_) fun h=>?_
  ·refine c4 ?_
   refine ai.seq ?_
   refine ai.block ?_
   refine aE ?_
   refine aC ?_
   refine aO ?_
   refine b5 ?_
   refine aC ?_
   refine aC ?_
   refine aC ?_
   obtain⟨bj,cQ,h⟩:=az h
   refine ik cQ Tryz.underlying24 uI ?_
   refine a4 (eh uI) ?_
   obtain⟨aB,bu,h⟩:=az h
   refine bp (Dh (ab rfl) (ab rfl) bu) ?_
   refine aM ?_
   refine cA h (fun h=>?_) fun h=>?_
   ·refine aE ?_
    refine aC ?_
    refine aO ?_
    refine aM ?_
    refine ai.ret ?_
    refine ae.dR ?_
    refine ae.ret ?_
    obtain rfl:=aK h
    exact eX () 0
   ·refine ai.skip ?_
    refine ae.eC ?_
    refine ae.next ?_
    refine ai.cE ?_
    refine bs dX ?_
    refine aC ?_
    refine ah.nil ?_
    obtain rfl:=aK h
    exact hD () 0
  ·refine ai.exit ?_
   refine ae.exit ?_
   obtain rfl:=aK h
   exact eX () 0
 ·clear ao
  rcases aF with aF | aF
  ·simp only [Sum.elim_inl] at h
   refine ae.gE ?_
   refine ae.next ?_
   refine aE ?_
   refine aO ?_
   refine aM ?_
   refine ai.ret ?_
   obtain rfl:=aK h
   exact c7
  ·simp only [Sum.elim_inr] at h
   refine ae.dR ?_
   refine ae.ret ?_
   obtain rfl:=aK h
   exact c7
theorem Rc {aa:a1} {r:c9} (h:F0 aa=some r):bO Tryz.prog 86 [I.of (aa)] [] (δ:=Nat × (Option Nat × Nat)) (fun d=>I.eq (.pointer (some ⟨d.1,0,none⟩))) (fun d=> [⟨some d.1,.ca (({ r with c2:= [] } :c9):c9) [(10,ba d.2.1 (r.c2).length d.2.2)]⟩,⟨d.2.1,.row 52 (r.c2:List aw) d.2.2⟩]):=by
 unfold F0 at h
 refine bO.of Tryz.func86 rfl Tryz.ntmps86 rfl fun W A=> ?_
 refine aE ?_
 refine cz fun aW=> ?_
 refine bp (eH (oj)) ?_
 refine b5 ?_
 refine cR 0 iv ?_
 refine bp (p3 (b:=({ (default:c9) with o5:=aa } :c9)) [10] Tq rfl VH VI (.cons FC rfl (ab rfl) rfl (by rfl) (.nil))) ?_
 refine ah.own (α:=aw) 52 ?_
 refine ah.XX (ab rfl) rfl fun a2=> ?_
 refine aO ?_
 refine aM ?_
 refine ai.ret ?_
 refine ae.EL (γ:=aw) (b':=(({ ({ (default:c9) with o5:=aa } :c9) with c2:= [] } :c9):c9)) ((aQ.id c9).comp CH) 0 0 rfl rfl rfl ?_
 refine ae.bU 1 rfl ?_
 refine ae.bU 1 rfl ?_
 obtain rfl:=aK h
 exact lJ (a2,(none,0))
theorem QJ {aa:bf} {r:Bool} (h:yy aa=some r):bW Tryz.prog 26 [I.ptr aa] (I.of (r)):=by
 unfold yy at h
 refine bW.of Tryz.func26 rfl Tryz.ntmps26 rfl fun W A=> ?_
 refine aE ?_
 refine aO ?_
 refine bY ?_
 refine ai.draw mixed 10 [some 3,some 4,some 5,some 6,some 7,some 8,some 9,some 10,some 11,some 12] [[],[0],[1],[2],[],[4],[5],[6],[7],[3,8]] [.val _,.val _,.val _,.val _,.val _,.val _,.val _,.val _,.val _,.val _] [false,false,false,false,false,false,false,false,false,false] (by kernel_rfl) rfl rfl rfl (fun dk=>⟨dc,H1 DE,vl yG zF,H1 (eh bK),dc,H1 DE,vl CN GV,H1 (eh El),H1 (eT Tryz.underlying22),kc e1,trivial⟩) fun dk=> ?_
 refine aO ?_
 refine aM ?_
 refine ai.ret ?_
 obtain rfl:=aK h
 exact c7
theorem R0 {aa:Int} {aj:Int} {r:Int} (h:wM aa aj=some r):bW Tryz.prog 25 [I.of (aa),I.of (aj)] (I.of (r)):=by
 unfold wM at h
 refine bW.of Tryz.func25 rfl Tryz.ntmps25 rfl fun W A=> ?_
 refine aE ?_
 refine aO ?_
 refine bY ?_
 refine aE ?_
 refine aC ?_
 refine bs e1 ?_
 refine aM ?_
 refine cA h (fun h=>?_) fun h=>?_
 ·refine aE ?_
  refine aO ?_
  refine aM ?_
  refine ai.ret ?_
  refine ae.ret ?_
  obtain rfl:=aK h
  exact c7
 ·refine c4 ?_
  refine aE ?_
  refine aC ?_
  refine aC ?_
  obtain⟨aB,bu,h⟩:=az h
  refine bp (HC (ab rfl) (ab rfl) (Gp bu)) ?_
  refine aC ?_
  refine bs dX ?_
  refine aC ?_
  obtain⟨aH,cB,h⟩:=az h
  refine bp (HC (ab rfl) (ab rfl) (Gp cB)) ?_
  refine aO ?_
  refine aM ?_
  refine ai.ret ?_
  obtain rfl:=aK h
  exact c7
theorem RB {aa:a1} {aj:Int} {r:Int} (h:y8 aa aj=some r):bW Tryz.prog 108 [I.of (aa),I.of (aj)] (I.of (r)):=by
 unfold y8 at h
 refine bW.of Tryz.func108 rfl Tryz.ntmps108 rfl fun W A=> ?_
 refine aE ?_
 refine cz fun aW=> ?_
 refine aO ?_
 refine bY ?_
 refine aE ?_
 refine a4 (aX DF) ?_
 refine ct 0 Cs AI ?_
 refine a4 (eT Tryz.underlying24) ?_
 refine aC ?_
 refine aM ?_
 refine ai.block ?_
 obtain⟨aF,ao,h⟩:=az h
 refine h5 (γ:=Unit) (δ:=Unit) ao [0,1,2,8,9] (fun s1 av=> [(4,I.of (0:Int)),(10,I.of (s1))]) (fun s1 av=> []) (fun ax=>Sum.elim (fun ax=>Exit.exit 0) (fun ax=>Exit.ret) ax) (fun ax av=>Sum.elim (fun ax=> [(4,I.of (0:Int)),(10,I.of (ax.1)),(11,I.of (ax.2))]) (fun ax=> [(4,I.of (ax.1)),(10,I.of (ax.2.1)),(11,I.of (ax.2.2.1)),(17,I.of (ax.2.2.2))]) ax) (fun ax av=>Sum.elim (fun ax=> []) (fun ax=> []) ax) () (fun s1 r h av=> ?_) fun av=> ?_
 ·clear ao
  refine aE ?_
  refine bs e1 ?_
  refine bY ?_
  refine cA h (fun h=>?_) fun h=>?_
  ·refine c4 ?_
   refine ai.seq ?_
   refine ai.block ?_
   refine aE ?_
   obtain⟨bj,cQ,h⟩:=az h
   refine ik cQ Tryz.underlying24 uI ?_
   refine a4 (eh uI) ?_
   refine dJ pa fun a2=> ?_
   refine cY 0 uI ?_
   refine b5 ?_
   refine a4 (aX L5) ?_
   refine ct 0 o2 bK ?_
   refine aC ?_
   refine bs gI ?_
   refine aM ?_
   refine cA h (fun h=>?_) fun h=>?_
   ·refine aE ?_
    refine a4 (aX L6) ?_
    refine ct 0 o0 bK ?_
    refine aO ?_
    refine aM ?_
    refine ai.ret ?_
    refine ae.dR ?_
    refine ae.ret ?_
    obtain rfl:=aK h
    exact eX () 1
   ·refine ai.skip ?_
    refine ae.eC ?_
    refine ae.next ?_
    refine ai.cE ?_
    refine bs dX ?_
    refine aC ?_
    refine ah.nil ?_
    obtain rfl:=aK h
    exact hD () 1
  ·refine ai.exit ?_
   refine ae.exit ?_
   obtain rfl:=aK h
   exact eX () 0
 ·clear ao
  rcases aF with aF | aF
  ·simp only [Sum.elim_inl] at h
   refine ae.gE ?_
   refine ae.next ?_
   refine aE ?_
   refine aO ?_
   refine aM ?_
   refine ai.ret ?_
   obtain rfl:=aK h
   exact c7
  ·simp only [Sum.elim_inr] at h
   refine ae.dR ?_
   refine ae.ret ?_
   obtain rfl:=aK h
   exact c7
theorem Gb {aa:aA} {aj:Int} {r:aA} (h:tT aa aj=some r):bW Tryz.prog 46 [I.of (aa),I.of (aj)] (I.of (r)):=by
 unfold tT at h
 refine bW.of Tryz.func46 rfl Tryz.ntmps46 rfl fun W A=> ?_
 refine aE ?_
 refine cz fun aW=> ?_
 refine dJ eA fun a2=> ?_
 refine bY ?_
 refine ai.block ?_
 refine aE ?_
 refine aC ?_
 refine bs mx ?_
 refine aO ?_
 refine aM ?_
 refine cA h (fun h=>?_) fun h=>?_
 ·refine aE ?_
  refine cR 1 b8 ?_
  refine cY 0 b8 ?_
  refine aM ?_
  refine ai.ret ?_
  refine ae.dR ?_
  refine ae.ret ?_
  obtain rfl:=aK h
  exact ae.iU rfl (hn 0 b8)
 ·refine aE ?_
  refine aC ?_
  refine bs mx ?_
  refine aO ?_
  refine aM ?_
  refine cA h (fun h=>?_) fun h=>?_
  ·refine aE ?_
   refine a4 (aX lW) ?_
   refine ct 1 ia fo ?_
   refine aC ?_
   refine bs iE ?_
   refine a4 (ir Tryz.underlying3 Tryz.underlying130) ?_
   refine bp (ou (fT 1 rfl) (ab rfl)) ?_
   refine bp (uk (ab rfl) (fT 1 rfl)) ?_
   obtain⟨bL,dS,h⟩:=az h
   refine dD dS (qX (ab rfl) (ab rfl)) ?_
   refine a4 (aX jY) ?_
   refine ct 1 eM fo ?_
   refine hl hh eA { de:=bL,b2:=aa.b2:aA } (iH ia (iH eM .nil)) ?_
   refine cY 0 b8 ?_
   refine aM ?_
   refine ai.ret ?_
   refine ae.dR ?_
   refine ae.ret ?_
   obtain rfl:=aK h
   exact ae.iU rfl (hn 0 b8)
  ·refine aE ?_
   refine aC ?_
   refine bs Ab ?_
   refine aO ?_
   refine aM ?_
   refine cA h (fun h=>?_) fun h=>?_
   ·refine aE ?_
    refine hl hh eA (default:aA) .nil ?_
    refine cY 0 b8 ?_
    refine aM ?_
    refine ai.ret ?_
    refine ae.dR ?_
    refine ae.ret ?_
    obtain rfl:=aK h
    exact ae.iU rfl (hn 0 b8)
   ·refine ai.skip ?_
    refine ae.eC ?_
    refine ae.next ?_
    refine aE ?_
    refine a4 (aX jY) ?_
    refine ct 1 eM fo ?_
    refine aC ?_
    refine a4 (ir Tryz.underlying3 Tryz.underlying130) ?_
    refine bp (ou (fT 1 rfl) (ab rfl)) ?_
    refine bp (uk (ab rfl) (fT 1 rfl)) ?_
    refine bs qX ?_
    obtain⟨dF,hR,h⟩:=az h
    refine dD hR (cW (b:=({ (default:aA) with b2:=aa.b2 &&& (((1#64) <<< (BitVec.ofInt 64 aj).toNat) - (1#64)) } :aA)) rfl hh eA (.cons eM rfl (ab rfl) rfl (.nil))) ?_
    refine cY 0 b8 ?_
    refine aM ?_
    refine ai.ret ?_
    obtain rfl:=aK h
    exact ae.iU rfl (hn 0 b8)
theorem RR {aa:Int} {aj:Int} {r:aA} (h:CY aa aj=some r):bW Tryz.prog 109 [I.of (aa),I.of (aj)] (I.of (r)):=by
 unfold CY at h
 refine bW.of Tryz.func109 rfl Tryz.ntmps109 rfl fun W A=> ?_
 refine aE ?_
 refine dJ eA fun aW=> ?_
 refine b5 ?_
 refine aC ?_
 refine a4 (ir Tryz.underlying3 Tryz.underlying130) ?_
 refine bp (ou (fT 1 rfl) (ab rfl)) ?_
 refine bp (uk (ab rfl) (fT 1 rfl)) ?_
 refine aC ?_
 refine aC ?_
 refine bs iE ?_
 refine a4 (ir Tryz.underlying3 Tryz.underlying130) ?_
 refine bp (ou (fT 1 rfl) (ab rfl)) ?_
 refine bp (uk (ab rfl) (fT 1 rfl)) ?_
 obtain⟨bL,dS,h⟩:=az h
 refine dD dS (uk (ab rfl) (ab rfl)) ?_
 refine hl hh eA ({ (default:aA) with b2:=bL } :aA) (iH eM .nil) ?_
 refine cY 0 b8 ?_
 refine aM ?_
 refine ai.ret ?_
 obtain rfl:=aK h
 exact ae.iU rfl (hn 0 b8)
theorem Rk {aa:a1} {aj:Int} {r:dO} (h:yW aa aj=some r):bW Tryz.prog 76 [I.of (aa),I.of (aj)] (I.of (r)):=by
 unfold yW at h
 refine bW.of Tryz.func76 rfl Tryz.ntmps76 rfl fun W A=> ?_
 refine aE ?_
 refine cz fun aW=> ?_
 refine dJ qd fun a2=> ?_
 refine bY ?_
 refine aE ?_
 refine a4 (aX MB) ?_
 refine ct 1 J6 Ib ?_
 refine a4 (eT Tryz.underlying27) ?_
 refine aC ?_
 refine aM ?_
 refine ai.block ?_
 obtain⟨aF,ao,h⟩:=az h
 refine h5 (γ:=Unit) (δ:=Unit) ao [0,1,2,4,8,9] (fun s1 av=> [(10,I.of (s1))]) (fun s1 av=> []) (fun ax=>Sum.elim (fun ax=>Exit.exit 0) (fun ax=>Exit.ret) ax) (fun ax av=>Sum.elim (fun ax=> [(10,I.of (ax.1)),(11,I.of (ax.2))]) (fun ax=> [(10,I.of (ax.1)),(11,I.of (ax.2.1)),(17,I.of (ax.2.2.1))]) ax) (fun ax av=>Sum.elim (fun ax=> []) (fun ax=> [(0,⟨some a2,.var (ax.2.2.2:dO)⟩)]) ax) () (fun s1 r h av=> ?_) fun av=> ?_
 ·clear ao
  refine aE ?_
  refine bs e1 ?_
  refine bY ?_
  refine cA h (fun h=>?_) fun h=>?_
  ·refine c4 ?_
   refine ai.seq ?_
   refine ai.block ?_
   refine aE ?_
   obtain⟨bj,cQ,h⟩:=az h
   refine ik cQ Tryz.underlying27 pb ?_
   refine a4 (eh pb) ?_
   refine dJ qd fun bF=> ?_
   refine cY 0 pb ?_
   refine b5 ?_
   refine a4 (aX T5) ?_
   refine ct 0 tK bK ?_
   refine aC ?_
   refine bs gI ?_
   refine aM ?_
   refine cA h (fun h=>?_) fun h=>?_
   ·refine aE ?_
    refine cR 0 pb ?_
    refine cY 1 pb ?_
    refine aM ?_
    refine ai.ret ?_
    refine ae.dR ?_
    refine ae.ret ?_
    obtain rfl:=aK h
    exact eX () 1
   ·refine ai.skip ?_
    refine ae.eC ?_
    refine ae.next ?_
    refine ai.cE ?_
    refine bs dX ?_
    refine aC ?_
    refine ah.nil ?_
    obtain rfl:=aK h
    exact hD () 1
  ·refine ai.exit ?_
   refine ae.exit ?_
   obtain rfl:=aK h
   exact eX () 0
 ·clear ao
  rcases aF with aF | aF
  ·simp only [Sum.elim_inl] at h
   refine ae.gE ?_
   refine ae.next ?_
   refine aE ?_
   refine hl uJ qd (default:dO) .nil ?_
   refine cY 0 pb ?_
   refine aM ?_
   refine ai.ret ?_
   obtain rfl:=aK h
   exact ae.iU rfl (hn 0 pb)
  ·simp only [Sum.elim_inr] at h
   refine ae.dR ?_
   refine ae.ret ?_
   obtain rfl:=aK h
   exact ae.iU rfl (hn 0 pb)
theorem FR {hp:aN Cell} {aa:Ref} {aj:Int} {r:Ref} (h:nE hp aa aj=some r):bO Tryz.prog 77 [I.of (aa),I.of (aj)] ([] ++ aV hp) (δ:=Unit) (fun _=>I.of (r)) (fun _=> [] ++ aV hp):=by
 unfold nE at h
 refine bO.of Tryz.func77 rfl Tryz.ntmps77 rfl fun W A=> ?_
 refine aE ?_
 refine bp (eH (oj)) ?_
 refine bY ?_
 refine aE ?_
 refine aC ?_
 refine bp (mo Tryz.underlying60 (ab rfl)) ?_
 refine aM ?_
 refine cA h (fun h=>?_) fun h=>?_
 ·refine aE ?_
  refine bp (eH (oj)) ?_
  refine aM ?_
  refine ai.ret ?_
  refine ae.ret ?_
  obtain rfl:=aK h
  exact ae.eW () (.refl _) rfl rfl (dH rfl)
 ·refine c4 ?_
  refine aE ?_
  refine aC ?_
  obtain⟨b6,c8,h⟩:=az h
  refine bp (dx (dZ (ab rfl) c8)) ?_
  refine a4 (aX GW) ?_
  obtain⟨bq,dM,h⟩:=az h
  refine bp (fi ((aQ.id ib).comp Cq) (r:=bq.ot) DR (ab rfl) (ep (n:=0) rfl (nK dM) rfl) rfl rfl) ?_
  refine aC ?_
  obtain⟨bZ,eY,h⟩:=az h
  obtain⟨cg,e4,h⟩:=az h
  obtain⟨bL,dS,h⟩:=az h
  refine bp (um (r:=bL) Tryz.underlying141 xG XY (kD (ab rfl) eY) (ab rfl) (ep (n:=0) rfl (w1 e4) rfl) (aK dS)) ?_
  refine aO ?_
  refine aM ?_
  refine ai.ret ?_
  obtain rfl:=aK h
  exact ae.eW () (.refl _) rfl rfl (dH rfl)
theorem Qg {aa:List bR} {r:(List bR)} (h:Co aa=some r):bW Tryz.prog 161 [I.of (aa)] (I.of (r)):=by
 unfold Co at h
 refine bW.of Tryz.func161 rfl Tryz.ntmps161 rfl fun W A=> ?_
 refine aE ?_
 refine bp (eH (look_nil (α:=bR))) ?_
 refine bY ?_
 refine aE ?_
 refine aC ?_
 refine bp (Nc Tryz.underlying47 (ab rfl)) ?_
 refine aM ?_
 refine ai.Nd (ab rfl) (fun al=> ?_) ?_
 ·subst al; replace h:=K3 h; subst h
  have h:some ([]:List bR)=some []:=rfl
  refine aE ?_
  refine bp (eH (look_nil (α:=bR))) ?_
  refine aM ?_
  refine ai.ret ?_
  refine ae.ret ?_
  replace h:=aK h
  clear h
  exact c7
 ·refine c4 ?_
  refine aE ?_
  refine ah.qi (α:=bR) (r:=([]:List bR)) Tryz.underlying47 fp lE rfl rfl (.nil) rfl fun hN=> ?_
  refine aC ?_
  obtain⟨aB,bu,h⟩:=az h
  refine nX 0 Tryz.underlying47 fp lE bu fun l7 fI=> ?_
  refine aO ?_
  refine aM ?_
  refine ai.ret ?_
  refine ae.m3 (α:=bR) 0 [2,7] ⟨rfl,rfl,trivial⟩ rfl ?_
  obtain rfl:=aK h
  exact c7
theorem Qh {aa:List aA} {r:(List aA)} (h:Cp aa=some r):bW Tryz.prog 162 [I.of (aa)] (I.of (r)):=by
 unfold Cp at h
 refine bW.of Tryz.func162 rfl Tryz.ntmps162 rfl fun W A=> ?_
 refine aE ?_
 refine bp (eH (look_nil (α:=aA))) ?_
 refine bY ?_
 refine aE ?_
 refine aC ?_
 refine bp (Nc Tryz.underlying48 (ab rfl)) ?_
 refine aM ?_
 refine ai.Nd (ab rfl) (fun al=> ?_) ?_
 ·subst al; replace h:=K3 h; subst h
  have h:some ([]:List aA)=some []:=rfl
  refine aE ?_
  refine bp (eH (look_nil (α:=aA))) ?_
  refine aM ?_
  refine ai.ret ?_
  refine ae.ret ?_
  replace h:=aK h
  clear h
  exact c7
 ·refine c4 ?_
  refine aE ?_
  refine ah.qi (α:=aA) (r:=([]:List aA)) Tryz.underlying48 b8 eA rfl rfl (.nil) rfl fun hN=> ?_
  refine aC ?_
  obtain⟨aB,bu,h⟩:=az h
  refine nX 0 Tryz.underlying48 b8 eA bu fun l7 fI=> ?_
  refine aO ?_
  refine aM ?_
  refine ai.ret ?_
  refine ae.m3 (α:=aA) 0 [2,7] ⟨rfl,rfl,trivial⟩ rfl ?_
  obtain rfl:=aK h
  exact c7
theorem Rd {aa:BitVec 64} {r:Int} (h:F1 aa=some r):bW Tryz.prog 185 [I.of (aa)] (I.of (r)):=by
 unfold F1 at h
 refine bW.of Tryz.func185 rfl Tryz.ntmps185 rfl fun W A=> ?_
 refine aE ?_
 refine aO ?_
 refine bY ?_
 refine aE ?_
 refine aC ?_
 refine bp (GX (ab rfl) (fT 4294967296 rfl)) ?_
 refine aM ?_
 obtain⟨bB,cV,h⟩:=az h
 refine kr (γ:=Unit) [4] (fun av=> [(0,I.of (bB.1)),(2,I.of (bB.2))]) (fun av=> []) (fun av=> ?_) (fun hm ak=> ?_) fun hm ak=> ?_
 ·clear cV
  refine ae.next ?_
  refine ai.seq ?_
  refine aE ?_
  refine aC ?_
  refine bp (GX (ab rfl) (fT 65536 rfl)) ?_
  refine aM ?_
  obtain⟨cL,en,h⟩:=az h
  refine kr (γ:=Unit) [4,8] (fun bm=> [(0,I.of (cL.1)),(2,I.of (cL.2))]) (fun bm=> []) (fun bm=> ?_) (fun hm ak=> ?_) fun hm ak=> ?_
  ·clear en
   refine ae.next ?_
   refine ai.seq ?_
   refine aE ?_
   refine aC ?_
   refine bp (GX (ab rfl) (fT 256 rfl)) ?_
   refine aM ?_
   obtain⟨fb,gV,h⟩:=az h
   refine kr (γ:=Unit) [4,8,14] (fun bS=> [(0,I.of (fb.1)),(2,I.of (fb.2))]) (fun bS=> []) (fun bS=> ?_) (fun hm ak=> ?_) fun hm ak=> ?_
   ·clear gV
    refine ae.next ?_
    refine aE ?_
    refine aC ?_
    refine aC ?_
    refine a4 (T6 Tryz.underlying41 Tryz.underlying5) ?_
    obtain⟨aB,bu,h⟩:=az h
    refine bp (T7 Tryz.underlying9 (dA (ByteArray.mk (List.toArray (List.append (List.append [0,1,2,2,3,3,3,3,4,4,4,4,4,4,4,4,5,5,5,5,5,5,5,5,5,5,5,5,5,5,5,5,6,6,6,6,6,6,6,6,6,6,6,6,6,6,6,6,6,6,6,6,6,6,6,6,6,6,6,6,6,6,6,6] [7,7,7,7,7,7,7,7,7,7,7,7,7,7,7,7,7,7,7,7,7,7,7,7,7,7,7,7,7,7,7,7,7,7,7,7,7,7,7,7,7,7,7,7,7,7,7,7,7,7,7,7,7,7,7,7,7,7,7,7,7,7,7,7]) (List.append [8,8,8,8,8,8,8,8,8,8,8,8,8,8,8,8,8,8,8,8,8,8,8,8,8,8,8,8,8,8,8,8,8,8,8,8,8,8,8,8,8,8,8,8,8,8,8,8,8,8,8,8,8,8,8,8,8,8,8,8,8,8,8,8] [8,8,8,8,8,8,8,8,8,8,8,8,8,8,8,8,8,8,8,8,8,8,8,8,8,8,8,8,8,8,8,8,8,8,8,8,8,8,8,8,8,8,8,8,8,8,8,8,8,8,8,8,8,8,8,8,8,8,8,8,8,8,8,8]))))) (ab rfl) bu) ?_
    refine a4 (Nf Tryz.underlying5 Tryz.underlying3) ?_
    refine bs dX ?_
    refine aO ?_
    refine aM ?_
    refine ai.ret ?_
    obtain rfl:=aK h
    exact c7
   ·have h:=hY ak gV
    refine aE ?_
    refine aC ?_
    refine bp (p5 (ab rfl) (fT 8 rfl)) ?_
    refine aO ?_
    refine aM ?_
    refine ai.cE ?_
    refine aC ?_
    refine bs dX ?_
    refine aO ?_
    refine ah.nil ?_
    obtain rfl:=aK h
    exact dT 0 (hm ())
   ·have h:=hZ ak gV
    refine ai.skip ?_
    obtain rfl:=aK h
    exact dT 0 (hm ())
  ·have h:=hY ak en
   refine aE ?_
   refine aC ?_
   refine bp (p5 (ab rfl) (fT 16 rfl)) ?_
   refine aO ?_
   refine aM ?_
   refine ai.cE ?_
   refine aC ?_
   refine bs dX ?_
   refine aO ?_
   refine ah.nil ?_
   obtain rfl:=aK h
   exact dT 0 (hm ())
  ·have h:=hZ ak en
   refine ai.skip ?_
   obtain rfl:=aK h
   exact dT 0 (hm ())
 ·have h:=hY ak cV
  refine aE ?_
  refine aC ?_
  refine bp (p5 (ab rfl) (fT 32 rfl)) ?_
  refine aO ?_
  refine aM ?_
  refine ai.cE ?_
  refine aO ?_
  refine ah.nil ?_
  obtain rfl:=aK h
  exact dT 0 (hm ())
 ·have h:=hZ ak cV
  refine ai.skip ?_
  obtain rfl:=aK h
  exact dT 0 (hm ())
theorem wD {aa:Int} {aj:Int} {r:Int} (h:p0 aa aj=some r):bW Tryz.prog 139 [I.of (aa),I.of (aj)] (I.of (r)):=by
 unfold p0 at h
 refine bW.of Tryz.func139 rfl Tryz.ntmps139 rfl fun W A=> ?_
 refine aE ?_
 refine aO ?_
 refine bY ?_
 refine ai.block ?_
 refine aE ?_
 refine aC ?_
 refine aC ?_
 refine bs e1 ?_
 refine aO ?_
 refine aM ?_
 refine cA h (fun h=>?_) fun h=>?_
 ·refine aE ?_
  refine aO ?_
  refine aM ?_
  refine ai.ret ?_
  refine ae.dR ?_
  refine ae.ret ?_
  obtain rfl:=aK h
  exact c7
 ·refine aE ?_
  refine aC ?_
  refine aC ?_
  refine bs qe ?_
  refine aO ?_
  refine aM ?_
  refine cA h (fun h=>?_) fun h=>?_
  ·refine aE ?_
   refine aO ?_
   refine aM ?_
   refine ai.ret ?_
   refine ae.dR ?_
   refine ae.ret ?_
   obtain rfl:=aK h
   exact c7
  ·refine ai.skip ?_
   refine ae.eC ?_
   refine ae.next ?_
   refine aE ?_
   refine aO ?_
   refine aM ?_
   refine ai.ret ?_
   obtain rfl:=aK h
   exact c7
theorem Kz {aa:aA} {r:(Vector Bool 128)} (h:wI aa=some r):bW Tryz.prog 143 [I.of (aa)] (I.of (r)):=by
 unfold wI at h
 refine bW.of Tryz.func143 rfl Tryz.ntmps143 rfl fun W A=> ?_
 refine aE ?_
 refine cz fun aW=> ?_
 refine dJ DS fun a2=> ?_
 refine b5 ?_
 refine dJ DS fun bF=> ?_
 refine bY ?_
 refine aE ?_
 refine aO ?_
 refine aM ?_
 refine ai.block ?_
 obtain⟨aF,ao,h⟩:=az h
 refine h5 (γ:=Unit) (δ:=Unit) ao [0,1,2,3] (fun s1 av=> [(4,I.of (s1.1))]) (fun s1 av=> [(0,⟨some bF,.var (s1.2:Vector Bool 128)⟩)]) (fun ax=>Exit.exit 0) (fun ax av=> [(4,I.of (ax.1)),(6,I.of (ax.2.1))]) (fun ax av=> [(0,⟨some bF,.var (ax.2.2:Vector Bool 128)⟩)]) () (fun s1 r h av=> ?_) fun av=> ?_
 ·clear ao
  refine ai.seq ?_
  refine aE ?_
  refine aC ?_
  refine bs e1 ?_
  refine aM ?_
  refine cA h (fun h=>?_) fun h=>?_
  ·refine c4 ?_
   refine ai.seq ?_
   refine ai.block ?_
   obtain⟨bj,cQ,h⟩:=az h
   obtain⟨bL,dS,h⟩:=az h
   refine ai.draw mixed 19 ((some 9) :: (some 10) :: (some 11) :: (some 12) :: (some 13) :: (some 14) :: (some 15) :: (some 16) :: (some 17) :: (some 18) :: (some 19) :: (some 20) :: (some 21) :: (some 22) :: (some 23) :: (some 24) :: (some 25) :: (some 26) :: none :: []) ([] :: [] :: [1] :: [] :: [3] :: [] :: [5] :: [4,6] :: [7] :: [8] :: [] :: [10] :: [] :: [12] :: [11,13] :: [14] :: [15] :: [0] :: [9,17] :: []) (.val _ :: .val _ :: .val _ :: .val _ :: .val _ :: .val _ :: .val _ :: .val _ :: .val _ :: .val _ :: .val _ :: .val _ :: .val _ :: .val _ :: .val _ :: .val _ :: .val _ :: .val _ :: .kN 0 (.var (bL:Vector Bool 128)) :: []) (false :: false :: false :: false :: false :: false :: false :: false :: false :: false :: false :: false :: false :: false :: false :: false :: false :: false :: true :: []) (by kernel_rfl) rfl rfl rfl (fun dk=>⟨dc,dc,kc dX,H1 (aX jY),ey 2 eM fo,dc,H1 (ir Tryz.underlying3 Tryz.underlying130),kc p5,ed fun L' an=>qX (ab rfl) (fT 1 rfl),ed fun L' an=>wU (ab rfl) (fT 1 rfl),H1 (aX lW),ey 2 ia fo,dc,H1 (ir Tryz.underlying3 Tryz.underlying130),kc p5,ed fun L' an=>qX (ab rfl) (fT 1 rfl),ed fun L' an=>wU (ab rfl) (fT 1 rfl),ed fun L' an=>jH (k:=bj) Ac (ab rfl) (ab rfl) (da cQ),⟨_,_,rfl,fun L' an=>w2 (i:=0) ((aQ.id (Vector Bool 128)).comp (aQ.idx (α:=Bool) 128 bj (da cQ).1)) (v:=(((aa.b2 >>> (BitVec.ofInt 64 s1.1).toNat) &&& (1#64)) ==(1#64):Bool)) (b':=(bL:Vector Bool 128)) hE (ab rfl) (ab rfl) (an _ _ rfl) rfl (aK dS)⟩,trivial⟩) fun dk=> ?_
   obtain⟨bI,cS,h⟩:=az h
   refine bp (jH (k:=bI) Ac (ab rfl) (ab rfl) (da cS)) ?_
   obtain⟨dF,hR,h⟩:=az h
   refine OS 0 ((aQ.id (Vector Bool 128)).comp (aQ.idx (α:=Bool) 128 bI (da cS).1)) hE (hb:=by exact hR) ?_
   refine ah.nil ?_
   refine ae.eC ?_
   refine ae.next ?_
   refine ai.cE ?_
   refine aC ?_
   refine bs dX ?_
   refine aO ?_
   refine ah.nil ?_
   obtain rfl:=aK h
   exact hD () 0
  ·refine ai.exit ?_
   refine ae.exit ?_
   obtain rfl:=aK h
   exact eX () 0
 ·clear ao
  refine ae.gE ?_
  refine ae.next ?_
  refine aE ?_
  refine cR 0 Ad ?_
  refine cY 1 Ad ?_
  refine aM ?_
  refine ai.ret ?_
  obtain rfl:=aK h
  exact ae.iU rfl (hn 1 Ad)
theorem fZ {aa:bf} {aj:Int} {cv:Nat} {r:Int × bf} (h:fz aa aj=some r):bO Tryz.prog 32 [I.eq (.pointer (some ⟨cv,0,none⟩)),I.of (aj)] [⟨some cv,.var (aa:bf)⟩] (δ:=Unit) (fun d=>I.of (r.1)) (fun d=> [⟨some cv,.var (r.2:bf)⟩]):=by
 unfold fz at h
 refine bO.of Tryz.func32 rfl Tryz.ntmps32 rfl fun W A=> ?_
 refine aE ?_
 refine aO ?_
 refine bY ?_
 refine aE ?_
 refine aC ?_
 obtain⟨aB,bu,h⟩:=az h
 refine ah.iN (fS.call [0] Ob (Q5 bu) ⟨ab rfl,trivial⟩ rfl ⟨rfl,trivial⟩ rfl) rfl rfl rfl ?_
 refine a4 k6 ?_
 refine aC ?_
 refine dB ch ?_
 refine kO e1 ?_
 refine Bf ?_
 refine aM ?_
 refine cA h (fun h=>?_) fun h=>?_
 ·refine aE ?_
  refine aO ?_
  refine aM ?_
  refine ai.ret ?_
  refine ae.ret ?_
  refine ae.bU 0 rfl ?_
  obtain rfl:=aK h
  exact lJ ()
 ·refine c4 ?_
  refine aE ?_
  refine aC ?_
  refine a4 dx ?_
  refine a4 (aX zF) ?_
  refine ct 0 yG bK ?_
  refine bs dX ?_
  refine a4 dx ?_
  refine a4 (aX zF) ?_
  refine vm 0 yG bK ?_
  refine bY ?_
  obtain⟨bj,cQ,h⟩:=az h
  obtain⟨aH,cB,h⟩:=az h
  refine ai.draw mixed 14 [some 19,some 20,some 21,some 22,some 23,some 24,some 25,some 26,some 27,some 28,some 29,some 30,some 31,some 32] [[],[0],[1],[2],[],[4],[5],[6],[7],[3,8],[9],[10],[],[11,12]] [.val _,.val _,.val _,.val _,.val _,.val _,.val _,.val _,.val _,.val _,.val _,.val _,.val _,.val _] [false,false,false,false,false,false,false,false,false,false,false,false,false,false] (by kernel_rfl) rfl rfl rfl (fun dk=>⟨dc,H1 dx,H1 (aX GV),ey 0 CN El,dc,H1 dx,H1 (aX zF),ey 0 yG bK,kc iE,nk cQ Tryz.underlying22 II,H1 (eh II),H1 (Nf Tryz.underlying5 Tryz.underlying3),dc,ed fun L' an=>HC (ab rfl) (ab rfl) (Gp cB),trivial⟩) fun dk=> ?_
  refine aO ?_
  refine aM ?_
  refine ai.ret ?_
  refine ae.bU 0 rfl ?_
  obtain rfl:=aK h
  exact lJ ()
theorem F5 {aa:a1} {aj:Int} {r:Int} (h:tM aa aj=some r):bW Tryz.prog 82 [I.of (aa),I.of (aj)] (I.of (r)):=by
 unfold tM at h
 refine bW.of Tryz.func82 rfl Tryz.ntmps82 rfl fun W A=> ?_
 refine aE ?_
 refine cz fun aW=> ?_
 refine cz fun a2=> ?_
 refine aO ?_
 refine b5 ?_
 refine a4 (aX o7) ?_
 refine ct 1 oY oE ?_
 refine ah.share (α:=Int) 0 3 rfl rfl ?_
 refine bp (Hl (F:=(fun h7=>CF h7 aj)) (τs:= [I.ptr aj]) VJ ⟨ab rfl,trivial⟩ (fun _ _ h=>QR h)) ?_
 obtain⟨aB,bu,h⟩:=az h
 refine fQ VK (P7 bu) ?_
 refine aO ?_
 refine aM ?_
 refine ai.ret ?_
 obtain rfl:=aK h
 exact c7
theorem Rn {aa:a1} {aj:Int} {r:Int} (h:yY aa aj=some r):bW Tryz.prog 85 [I.of (aa),I.of (aj)] (I.of (r)):=by
 unfold yY at h
 refine bW.of Tryz.func85 rfl Tryz.ntmps85 rfl fun W A=> ?_
 refine aE ?_
 refine cz fun aW=> ?_
 refine cz fun a2=> ?_
 refine aO ?_
 refine b5 ?_
 refine a4 (aX DF) ?_
 refine ct 1 Cs AI ?_
 refine ah.share (α:=Int) 0 3 rfl rfl ?_
 refine bp (Hl (F:=(fun h7=>CG h7 aj)) (τs:= [I.ptr aj]) VL ⟨ab rfl,trivial⟩ (fun _ _ h=>QS h)) ?_
 obtain⟨aB,bu,h⟩:=az h
 refine fQ VM (P8 bu) ?_
 refine aO ?_
 refine aM ?_
 refine ai.ret ?_
 obtain rfl:=aK h
 exact c7
theorem R1 {aa:bh} {r:bh} (h:C2 aa=some r):bW Tryz.prog 122 [I.of (aa)] (I.of (r)):=by
 unfold C2 at h
 refine bW.of Tryz.func122 rfl Tryz.ntmps122 rfl fun W A=> ?_
 refine aE ?_
 refine cz fun aW=> ?_
 refine dJ u3 fun a2=> ?_
 refine bY ?_
 obtain⟨aB,bu,h⟩:=az h
 obtain⟨aH,cB,h⟩:=az h
 refine ai.draw mixed 7 [some 3,some 4,some 5,some 6,some 7,some 8,some 9] [[],[0],[1],[],[3],[4],[]] [.val _,.val _,.val _,.val _,.val _,.val _,.val _] [false,false,false,false,false,false,false] (by kernel_rfl) rfl rfl rfl (fun dk=>⟨H1 (aX lX),ey 1 lu lF,fv VN (Qg bu),H1 (aX sF),ey 1 sl ry,fv VO (Qh cB),H1 (aX lX),trivial⟩) fun dk=> ?_
 refine vm 1 lu lF ?_
 refine a4 (aX sF) ?_
 obtain⟨bL,dS,h⟩:=az h
 refine OS 1 sl ry (hb:=by exact dS) ?_
 refine b5 ?_
 refine cR 1 fP ?_
 refine cY 0 fP ?_
 refine aM ?_
 refine ai.ret ?_
 obtain rfl:=aK h
 exact ae.iU rfl (hn 0 fP)
theorem Ro {aa:BitVec 64} {r:Int} (h:yZ aa=some r):bW Tryz.prog 132 [I.of (aa)] (I.of (r)):=by
 unfold yZ at h
 refine bW.of Tryz.func132 rfl Tryz.ntmps132 rfl fun W A=> ?_
 refine aE ?_
 refine aO ?_
 refine bY ?_
 refine ai.Ae (fG false) rfl ?_
 refine c4 ?_
 refine aE ?_
 refine aC ?_
 obtain⟨aB,bu,h⟩:=az h
 refine fQ VP (Rd bu) ?_
 refine aO ?_
 refine aM ?_
 refine ai.ret ?_
 obtain rfl:=aK h
 exact c7
theorem R2 {hp:aN Cell} {aa:a1} {aj:Int} {Q:Ref × (aN Cell)→Prop} (h:wN hp aa aj Q):bO Tryz.prog 39 [I.of (aa),I.of (aj)] ([] ++ aV hp) (δ:= {r:Ref × (aN Cell) // Q r} × Unit) (fun d=>I.of (d.1.1.1)) (fun d=> [] ++ aV d.1.1.2):=by
 unfold wN at h
 refine bO.of Tryz.func39 rfl Tryz.ntmps39 rfl fun W A=> ?_
 refine aE ?_
 refine cz fun aW=> ?_
 refine bp (eH (oj)) ?_
 refine b5 ?_
 refine cR 0 iv ?_
 refine aC ?_
 obtain⟨aB,bu,h⟩:=aq.cf h
 refine fQ Ic (F5 bu) ?_
 refine aO ?_
 refine bY ?_
 refine aE ?_
 refine aC ?_
 refine bs e1 ?_
 refine aM ?_
 refine ai.cond (ab rfl) (fun ak=> ?_) (fun ak=> ?_)
 ·replace h:=kE ak h
  refine aE ?_
  refine bp (eH (oj)) ?_
  refine aM ?_
  refine ai.ret ?_
  refine ae.ret ?_
  exact ae.eW (⟨⟨((none:Ref),hp),h⟩,()⟩: {r // _} × _) (.cons _ (.refl _)) rfl rfl (dH rfl)
 ·replace h:=kF ak h
  refine c4 ?_
  refine aE ?_
  refine a4 (aX o7) ?_
  refine ct 0 oY oE ?_
  refine aC ?_
  obtain⟨bj,cQ,h⟩:=aq.cf h
  refine ik cQ Tryz.underlying28 gJ ?_
  refine a4 (eh gJ) ?_
  refine dJ l8 fun a2=> ?_
  refine cY 0 gJ ?_
  refine b5 ?_
  refine cR 0 gJ ?_
  obtain⟨aH,cB,h⟩:=aq.cf h
  refine fQ XZ (RA cB) ?_
  refine aC ?_
  refine hc ?_
  refine hc ?_
  refine aO ?_
  refine aO ?_
  refine b5 ?_
  refine aC ?_
  refine a4 (aX mv) ?_
  refine ct 0 kC l6 ?_
  refine a4 (eT Tryz.underlying62) ?_
  refine ah.DD (α:=Int) (β:=aw) 2 rfl (Cell.jI ([]:List (Int × aw))) (fun _=>rfl) rfl fun cN rK=> ?_
  replace h:=aq.p4 h cN rK
  obtain⟨bL,dS,h⟩:=aq.cf h
  refine dD dS (cW (b:=({ (default:gx) with q5:=aH.1,q6:=(((aI aa.b1 bj).cO).length:Int),jl:=(⟨some cN.1⟩:e2) } :gx)) rfl VQ VR (.cons Qz rfl (ab rfl) rfl (.cons QA rfl (ab rfl) rfl (.cons tD rfl (ab rfl) rfl (.nil))))) ?_
  refine ah.xq 2 rfl (Cell.mA bL) (fun _=>rfl) (ab rfl) rfl fun cF vk=> ?_
  replace h:=aq.p4 h cF vk
  refine aO ?_
  refine bY ?_
  refine aE ?_
  refine aC ?_
  refine aM ?_
  refine ai.block ?_
  refine aE ?_
  refine bs gI ?_
  refine aO ?_
  refine aM ?_
  refine ai.uv (γ:=Unit) h (fun bB av=> [(0,I.of (aa)),(1,I.of (aj)),(2,I.eq (.pointer (some ⟨aW,0,none⟩))),(4,I.of (none:Ref)),(5,I.of (aB)),(6,I.eq (.pointer (some ⟨a2,0,none⟩))),(7,I.of (aH.1)),(8,I.of (aH.2)),(9,I.of (some cF.1:Ref)),(16,I.of (decide (aB < 0))),(34,I.of (aH.1)),(42,I.of (aH.1 ==1))]) (fun bB av=>(⟨some a2,.var (aI aa.b1 bj:bQ)⟩ :: ⟨some aW,.var (aa:a1)⟩ :: aV bB)) (ab rfl) (fun bB av h=> ?_) (fun hm ak h=> ?_) (fun hm ak h=> ?_)
  ·refine ae.eC ?_
   refine ae.next ?_
   refine aE ?_
   refine aC ?_
   refine aO ?_
   refine aM ?_
   refine ai.ret ?_
   exact ae.eW (⟨⟨((some cF.1:Ref),bB),h⟩,()⟩: {r // _} × _) (.cons _ (.cons _ (.refl _))) rfl rfl (dH rfl)
  ·refine ai.cE ?_
   refine aC ?_
   refine ah.h1 2 0 rfl X0 (RZ h) rfl rfl trivial rfl fun⟨⟨bn,h⟩,ax⟩=> ?_
   refine ah.eo (L2:=(⟨some a2,.var (aI aa.b1 bj:bQ)⟩ :: ⟨some aW,.var (aa:a1)⟩ :: aV bn.2)) rfl ?_
   refine hl VS VT { qn:=bn.1:jW } (iH CI .nil) ?_
   refine bp (Hm Tryz.underlying166 rfl (ab rfl) (fun _ _ _ h=>SH h)) ?_
   refine bp (dx (dZ (ab rfl) rfl)) ?_
   refine a4 (aX uo) ?_
   obtain⟨bq,dM,h⟩:=aq.cf h
   obtain⟨cw,iG,h⟩:=aq.cf h
   refine ah.mw (k':=Cell.mA ({ bq with iB:=(gw.mB ({ qn:=bn.1:jW })) } :gx)) 2 rfl ((aQ.id gx).comp tE) (v:=((gw.mB ({ qn:=bn.1:jW })):gw)) sP (ab rfl) (ab rfl) (lY dM) rfl rfl rfl rfl (aK iG) ?_
   refine ah.nil ?_
   exact dT 0 (hm cw () h)
  ·refine aE ?_
   refine bs gI ?_
   refine aO ?_
   refine aM ?_
   refine ai.uv (γ:=Unit) h (fun cL bm=> [(0,I.of (aa)),(1,I.of (aj)),(2,I.eq (.pointer (some ⟨aW,0,none⟩))),(4,I.of (none:Ref)),(5,I.of (aB)),(6,I.eq (.pointer (some ⟨a2,0,none⟩))),(7,I.of (aH.1)),(8,I.of (aH.2)),(9,I.of (some cF.1:Ref)),(16,I.of (decide (aB < 0))),(34,I.of (aH.1)),(42,I.of (aH.1 ==1)),(50,I.of (aH.1 ==2))]) (fun cL bm=>(⟨some a2,.var (aI aa.b1 bj:bQ)⟩ :: ⟨some aW,.var (aa:a1)⟩ :: aV cL)) (ab rfl) (fun cL bm h=> ?_) (fun hm ak h=> ?_) (fun hm ak h=> ?_)
   ·exact dT 0 (hm cL () h)
   ·refine aE ?_
    refine aO ?_
    refine bY ?_
    refine ai.seq ?_
    obtain⟨bI,cS,h⟩:=aq.cf h
    obtain⟨bD,gL,h⟩:=aq.cf h
    refine ai.draw mixed 8 [some 52,some 53,some 54,some 55,some 56,some 57,some 58,some 59] [[],[],[1],[],[2,3],[4],[5],[0,6]] [.val _,.val _,.val _,.val _,.val _,.val _,.val _,.val _] [false,false,false,false,false,false,false,false] (by kernel_rfl) rfl rfl rfl (fun dk=>⟨gW 1 iv,H1 (aX mv),ey 0 kC l6,dc,nk cS Tryz.underlying62 ko,vl o1 MC,H1 (eh bK),fv X1 (Rn gL),trivial⟩) fun dk=> ?_
    refine aO ?_
    refine b5 ?_
    refine aC ?_
    refine bs mx ?_
    refine aM ?_
    obtain⟨fb,gV,h⟩:=aq.cf h
    refine ai.dd (γ:=Unit) (fun bS=> [(0,I.of (aa)),(1,I.of (aj)),(2,I.eq (.pointer (some ⟨aW,0,none⟩))),(4,I.of (none:Ref)),(5,I.of (aB)),(6,I.eq (.pointer (some ⟨a2,0,none⟩))),(7,I.of (aH.1)),(8,I.of (aH.2)),(9,I.of (some cF.1:Ref)),(10,I.of (fb)),(11,I.of (bD)),(16,I.of (decide (aB < 0))),(34,I.of (aH.1)),(42,I.of (aH.1 ==1)),(50,I.of (aH.1 ==2)),(61,I.of (decide (bD≥0)))]) (fun bS=>(⟨some a2,.var (aI aa.b1 bj:bQ)⟩ :: ⟨some aW,.var (aa:a1)⟩ :: aV cF.2)) (ab rfl) (fun bS=> ?_) (fun hm ak=> ?_) (fun hm ak=> ?_)
    ·clear gV
     refine ae.next ?_
     refine ai.cE ?_
     refine aC ?_
     refine aC ?_
     refine aC ?_
     refine ah.DD (α:=Vector aA 4) (β:=Ref) 2 rfl (Cell.k7 ([]:List ((Vector aA 4) × Ref))) (fun _=>rfl) rfl fun fL Zc=> ?_
     replace h:=aq.p4 h fL Zc
     obtain⟨dF,hR,h⟩:=aq.cf h
     refine dD hR (cW (b:= { rh:=aH.2,fA:=fb,nH:=(⟨some fL.1⟩:e2):gA }) rfl VU VV (.cons ym rfl (ab rfl) rfl (.cons FD rfl (ab rfl) rfl (.cons qH rfl (ab rfl) rfl (.nil))))) ?_
     refine bp (Hm Tryz.underlying169 rfl (ab rfl) (fun _ _ _ h=>SI h)) ?_
     refine bp (dx (dZ (ab rfl) rfl)) ?_
     refine a4 (aX uo) ?_
     obtain⟨cg,e4,h⟩:=aq.cf h
     obtain⟨cJ,sZ,h⟩:=aq.cf h
     refine ah.mw (k':=Cell.mA ({ cg with iB:=(gw.mC dF) } :gx)) 2 rfl ((aQ.id gx).comp tE) (v:=((gw.mC dF):gw)) sP (ab rfl) (ab rfl) (lY e4) rfl rfl rfl rfl (aK sZ) ?_
     refine ah.nil ?_
     exact dT 0 (hm cJ () h)
    ·have h:=hY ak gV
     refine ai.cE ?_
     refine a4 (aX DF) ?_
     refine ct 1 Cs AI ?_
     refine aC ?_
     obtain⟨dv,iI,h⟩:=az h
     refine ik iI Tryz.underlying24 uI ?_
     refine OT o0 L6 ?_
     refine a4 (eh bK) ?_
     refine aO ?_
     refine ah.nil ?_
     obtain rfl:=aK h
     exact dT 0 (hm ())
    ·have h:=hZ ak gV
     refine ai.skip ?_
     obtain rfl:=aK h
     exact dT 0 (hm ())
   ·refine ai.cE ?_
    refine aC ?_
    refine cR 1 iv ?_
    obtain⟨b0,hS,h⟩:=aq.cf h
    refine eE 0 X2 (Rc hS) fun et=> ?_
    refine ah.VW 4 2 (Cell.qj b0 et.2.1 et.2.2) rfl rfl rfl rfl List.mem_cons_self fun jb Zd Ze=> ?_
    replace h:=h (et.2.1,et.2.2) jb Zd
    refine ah.VX 37 rfl Ze ?_
    refine hl VY VZ { c2:=(some jb.1:Ref):jj } (iH CJ .nil) ?_
    refine bp (Hm Tryz.underlying173 rfl (ab rfl) (fun _ _ _ h=>SJ h)) ?_
    refine bp (dx (dZ (ab rfl) rfl)) ?_
    refine a4 (aX uo) ?_
    obtain⟨fc,lK,h⟩:=aq.cf h
    obtain⟨gM,AJ,h⟩:=aq.cf h
    refine ah.mw (k':=Cell.mA ({ fc with iB:=(gw.mD ({ c2:=(some jb.1:Ref):jj })) } :gx)) 2 rfl ((aQ.id gx).comp tE) (v:=((gw.mD ({ c2:=(some jb.1:Ref):jj })):gw)) sP (ab rfl) (ab rfl) (lY lK) rfl rfl rfl rfl (aK AJ) ?_
    refine ah.nil ?_
    exact dT 0 (hm gM () h)
theorem KG {hp:aN Cell} {aa:a1} {Q:Ref × (aN Cell)→Prop} (h:wO hp aa Q):bO Tryz.prog 24 [I.of (aa)] ([] ++ aV hp) (δ:= {r:Ref × (aN Cell) // Q r} × Unit) (fun d=>I.of (d.1.1.1)) (fun d=> [] ++ aV d.1.1.2):=by
 unfold wO at h
 refine bO.of Tryz.func24 rfl Tryz.ntmps24 rfl fun W A=> ?_
 refine aE ?_
 refine cz fun aW=> ?_
 refine bp (eH (oj)) ?_
 refine b5 ?_
 refine cR 0 iv ?_
 refine ah.DD (α:=Int) (β:=Ref) 1 rfl (Cell.oF ([]:List (Int × Ref))) (fun _=>rfl) rfl fun cN rK=> ?_
 replace h:=aq.p4 h cN rK
 obtain⟨bL,dS,h⟩:=aq.cf h
 refine dD dS (cW (b:= { gB:=aa,ot:=(⟨some cN.1⟩:e2),lx:=1:ib }) rfl V0 V1 (.cons Cr rfl (ab rfl) rfl (.cons Cq rfl (ab rfl) rfl (.cons Cx rfl (bN 1) rfl (.nil))))) ?_
 refine ah.xq 1 rfl (Cell.pj bL) (fun _=>rfl) (ab rfl) rfl fun cF vk=> ?_
 replace h:=aq.p4 h cF vk
 refine aO ?_
 refine bY ?_
 refine aE ?_
 refine aC ?_
 refine bp (dx (dZ (ab rfl) rfl)) ?_
 refine a4 (aX GY) ?_
 refine a4 (aX o7) ?_
 obtain⟨bq,dM,h⟩:=aq.cf h
 refine bp (fi (((aQ.id ib).comp Cr).comp oY) (r:=bq.gB.b1) oE (ab rfl) (ep (n:=1) rfl (nK dM) rfl) rfl rfl) ?_
 refine a4 (eT Tryz.underlying28) ?_
 refine aC ?_
 refine aM ?_
 refine ai.block ?_
 refine ai.w3 (σ:=Int × (aN Cell)) (ε:=(Int × Bool × (aN Cell))) (γ:=Unit) (δ:=Unit) h (fun s1 av=> [(0,I.of (aa)),(1,I.eq (.pointer (some ⟨aW,0,none⟩))),(2,I.of (none:Ref)),(3,I.of (some cF.1:Ref)),(14,I.of (bq.gB.b1)),(15,I.of (bq.gB.b1.length:Int)),(16,I.of (s1.1))]) (fun s1 av=>(⟨some aW,.var (aa:a1)⟩ :: aV s1.2)) (fun ax=>Exit.exit 0) (fun ax av=> [(0,I.of (aa)),(1,I.eq (.pointer (some ⟨aW,0,none⟩))),(2,I.of (none:Ref)),(3,I.of (some cF.1:Ref)),(14,I.of (bq.gB.b1)),(15,I.of (bq.gB.b1.length:Int)),(16,I.of (ax.1)),(17,I.of (ax.2.1))]) (fun ax av=>(⟨some aW,.var (aa:a1)⟩ :: aV ax.2.2)) () rfl (.same rfl (.same rfl (.same rfl (.same rfl (.same rfl (.same rfl (.same rfl .nil))))))) (fun s1 R h av=> ?_) (fun aF h av=> ?_)
 ·refine aE ?_
  refine bs e1 ?_
  refine bY ?_
  refine ai.cond (ab rfl) (fun ak=> ?_) (fun ak=> ?_)
  ·replace h:=kE ak h
   refine c4 ?_
   refine ai.seq ?_
   refine ai.block ?_
   refine aE ?_
   obtain⟨bj,cQ,h⟩:=aq.cf h
   refine ik cQ Tryz.underlying28 gJ ?_
   refine a4 (eh gJ) ?_
   refine dJ l8 fun a2=> ?_
   refine cY 0 gJ ?_
   refine aM ?_
   obtain⟨jR,vn,h⟩:=aq.cf h
   obtain⟨Zf,X3,Oc⟩:=aq.ex h
   refine MD mixed 10 9 29 _ (K:=Zf) [some (20,I.of (some cF.1:Ref)),some (21,I.eq (.pointer (some ⟨cF.1,0,none⟩))),some (22,I.eq (.pointer (some ⟨cF.1,0 + 10,none⟩))),some (23,I.of (jR.ot)),some (24,I.eq (.pointer (some ⟨a2,0 + 0,none⟩))),some (25,I.of ((aI bq.gB.b1 bj).bP)),some (26,I.of (aa)),some (27,I.eq (.pointer (some ⟨a2,0 + 0,none⟩))),some (28,I.of ((aI bq.gB.b1 bj).bP)),none] _ [[],[0],[1],[2],[],[4],[],[],[7],[6,8]] _ (fun aB=>I.of (aB.1)) (fun aB=>(⟨some a2,.var (aI bq.gB.b1 bj:bQ)⟩ :: ⟨some aW,.var (aa:a1)⟩ :: aV aB.2)) rfl rfl rfl rfl rfl rfl (by kernel_rfl) ⟨⟨ch (ab rfl),fun aB nT=>ch (ab rfl)⟩,⟨dx (dZ (ab rfl) rfl),fun aB nT=>dx (dZ (ab rfl) rfl)⟩,⟨aX GW (ab rfl),fun aB nT=>aX GW (ab rfl)⟩,⟨fi ((aQ.id ib).comp Cq) (r:=jR.ot) DR (ab rfl) (ep (n:=2) rfl (nK vn) rfl) rfl rfl,fun aB nT=>fi ((aQ.id ib).comp Cq) (r:=jR.ot) DR (ab rfl) (ep (n:=2) rfl (nK (aq.Zg (Oc aB nT))) rfl) rfl rfl⟩,⟨aX q4 (ab rfl),fun aB nT=>aX q4 (ab rfl)⟩,⟨e9 (i:=0) ((aQ.id bQ).comp nF) (r:=(aI bq.gB.b1 bj).bP) bK (ab rfl) rfl rfl rfl,fun aB nT=>e9 (i:=0) ((aQ.id bQ).comp nF) (r:=(aI bq.gB.b1 bj).bP) bK (ab rfl) rfl rfl rfl⟩,⟨e9 (i:=1) (aQ.id a1) (r:=aa) iv (ab rfl) rfl rfl rfl,fun aB nT=>e9 (i:=1) (aQ.id a1) (r:=aa) iv (ab rfl) rfl rfl rfl⟩,⟨aX q4 (ab rfl),fun aB nT=>aX q4 (ab rfl)⟩,⟨e9 (i:=0) ((aQ.id bQ).comp nF) (r:=(aI bq.gB.b1 bj).bP) bK (ab rfl) rfl rfl rfl,fun aB nT=>e9 (i:=0) ((aQ.id bQ).comp nF) (r:=(aI bq.gB.b1 bj).bP) bK (ab rfl) rfl rfl rfl⟩,trivial⟩ (fun bs vT aD bI=> ?_) (fun aB nT=> ?_)
   ·refine ah.h1 2 0 rfl X4 (R2 X3) rfl rfl ⟨ab (aD rfl),ab (aD rfl),trivial⟩ rfl fun⟨⟨aB,nT⟩,_⟩=> ?_
    refine ah.eo (L2:=(⟨some a2,.var (aI bq.gB.b1 bj:bQ)⟩ :: ⟨some aW,.var (aa:a1)⟩ :: aV aB.2)) rfl ?_
    refine ah.nil ?_
    exact bI aB nT
   have h:=Oc aB nT
   replace h:=aq.X5 h
   refine ah.le (E':= [(0,I.of (aa)),(1,I.eq (.pointer (some ⟨aW,0,none⟩))),(2,I.of (none:Ref)),(3,I.of (some cF.1:Ref)),(5,I.eq (.pointer (some ⟨a2,0,none⟩))),(14,I.of (bq.gB.b1)),(15,I.of (bq.gB.b1.length:Int)),(16,I.of (s1.1)),(17,I.of (decide (s1.1 < (bq.gB.b1.length:Int)))),(18,I.ptr (aI bq.gB.b1 bj)),(19,I.of (aI bq.gB.b1 bj)),(20,I.of (some cF.1:Ref)),(21,I.eq (.pointer (some ⟨cF.1,0,none⟩))),(22,I.eq (.pointer (some ⟨cF.1,0 + 10,none⟩))),(23,I.of (jR.ot)),(24,I.eq (.pointer (some ⟨a2,0 + 0,none⟩))),(25,I.of ((aI bq.gB.b1 bj).bP)),(26,I.of (aa)),(27,I.eq (.pointer (some ⟨a2,0 + 0,none⟩))),(28,I.of ((aI bq.gB.b1 bj).bP)),(29,I.of (aB.1))]) (.same rfl (.same rfl (.same rfl (.same rfl (.same rfl (.same rfl (.same rfl (.same rfl (.same rfl (.same rfl (.same rfl (.same rfl (.same rfl (.same rfl (.same rfl (.same rfl (.same rfl (.same rfl (.same rfl (.same rfl (.same rfl .nil))))))))))))))))))))) ?_
   obtain⟨b6,c8,h⟩:=aq.cf h
   obtain⟨lT,vo,h⟩:=aq.cf h
   obtain⟨cw,iG,h⟩:=aq.cf h
   refine ah.DT (k':=Cell.oF (fB lT ((aI bq.gB.b1 bj).bP) aB.1)) 2 rfl (by first | exact .inl rfl | exact .inr rfl) Tryz.underlying141 xG (kD (ab rfl) c8) (ab rfl) (ab rfl) (w1 vo) rfl rfl rfl (aK iG) ?_
   refine ah.nil ?_
   refine ae.eC ?_
   refine ae.next ?_
   refine ai.cE ?_
   refine bs dX ?_
   refine aC ?_
   refine ah.nil ?_
   exact ae.w4 h () 1 rfl (.same rfl (.same rfl (.same rfl (.same rfl (.same rfl (.same rfl (.same rfl .nil)))))))
  ·replace h:=kF ak h
   refine ai.exit ?_
   refine ae.exit ?_
   exact ae.q7 h () 0 rfl (by simp) rfl (.same rfl (.same rfl (.same rfl (.same rfl (.same rfl (.same rfl (.same rfl (.same rfl .nil))))))))
 ·refine ae.gE ?_
  refine ae.next ?_
  refine aE ?_
  refine aC ?_
  refine aO ?_
  refine aM ?_
  refine ai.ret ?_
  exact ae.eW (⟨⟨((some cF.1:Ref),aF.2.2),h⟩,()⟩: {r // _} × _) (.cons _ (.refl _)) rfl rfl (dH rfl)
theorem QT {aa:bf} {aj:a1} {aT:cM} {cv:Nat} {r:bR × bf} (h:yH aa aj aT=some r):bO Tryz.prog 75 [I.eq (.pointer (some ⟨cv,0,none⟩)),I.of (aj),I.of (aT)] [⟨some cv,.var (aa:bf)⟩] (δ:=Unit) (fun d=>I.of (r.1)) (fun d=> [⟨some cv,.var (r.2:bf)⟩]):=by
 unfold yH at h
 refine bO.of Tryz.func75 rfl Tryz.ntmps75 rfl fun W A=> ?_
 refine aE ?_
 refine cz fun aW=> ?_
 refine cz fun a2=> ?_
 refine dJ lE fun bF=> ?_
 refine b5 ?_
 refine cR 2 iv ?_
 refine a4 (aX MC) ?_
 refine ct 1 o1 bK ?_
 obtain⟨aB,bu,h⟩:=az h
 refine fQ V2 (RB bu) ?_
 refine aO ?_
 refine b5 ?_
 refine aC ?_
 refine ah.bU 3 rfl ?_
 obtain⟨aH,cB,h⟩:=az h
 refine eE 1 gh (fZ cB) fun ax=> ?_
 refine a4 (ir Tryz.underlying3 Tryz.underlying41) ?_
 refine bp (ou (ab rfl) (fT 24 rfl)) ?_
 refine aC ?_
 refine ah.bU 0 rfl ?_
 obtain⟨bn,fF,h⟩:=az h
 refine eE 1 gh (fZ fF) fun et=> ?_
 refine a4 (ir Tryz.underlying3 Tryz.underlying41) ?_
 refine bp (ou (ab rfl) (fT 8 rfl)) ?_
 obtain⟨bL,dS,h⟩:=az h
 refine dD dS (w5 (ab rfl) (ab rfl)) ?_
 refine aC ?_
 refine ah.bU 0 rfl ?_
 obtain⟨bD,gL,h⟩:=az h
 refine eE 1 gh (fZ gL) fun cr=> ?_
 refine a4 (ir Tryz.underlying3 Tryz.underlying41) ?_
 refine bs w5 ?_
 obtain⟨dF,hR,h⟩:=az h
 refine dD hR (cW (b:=({ (default:aA) with b2:=bL ||| (BitVec.ofInt 64 bD.1) } :aA)) rfl hh eA (.cons eM rfl (ab rfl) rfl (.nil))) ?_
 refine aC ?_
 obtain⟨b0,hS,h⟩:=az h
 refine fQ Ie (Gb hS) ?_
 refine dJ eA fun iO=> ?_
 refine cY 0 b8 ?_
 refine bY ?_
 refine aE ?_
 refine a4 (aX zN) ?_
 refine ct 3 mX bK ?_
 refine aM ?_
 refine ai.block ?_
 refine aE ?_
 refine bs gI ?_
 refine aO ?_
 refine aM ?_
 refine cA h (fun h=>?_) fun h=>?_
 ·refine aE ?_
  refine aC ?_
  refine ah.bU 1 rfl ?_
  obtain⟨cl,il,h⟩:=az h
  refine eE 1 gh (fZ il) fun mh=> ?_
  refine bs qe ?_
  refine aM ?_
  refine cA h (fun h=>?_) fun h=>?_
  ·refine aE ?_
   refine aC ?_
   refine aC ?_
   refine aC ?_
   refine ah.bU 0 rfl ?_
   obtain⟨bg,mG,h⟩:=az h
   refine eE 1 gh (fZ mG) fun eu=> ?_
   refine bs dX ?_
   refine hF [aB,8,16,1,bA (1 + bg.1)] Tryz.underlying63 bK j7 ?_
   refine aC ?_
   refine ah.bU 0 rfl ?_
   obtain⟨fe,nY,h⟩:=az h
   refine eE 1 gh (fZ nY) fun lk=> ?_
   obtain⟨bj,cQ,h⟩:=az h
   refine ik cQ Tryz.underlying63 bK ?_
   refine a4 (eh bK) ?_
   refine aO ?_
   refine bY ?_
   obtain⟨b3,px,h⟩:=az h
   obtain⟨gr,lL,h⟩:=az h
   obtain⟨iq,nZ,h⟩:=az h
   refine ai.draw mixed 10 [some 51,some 52,some 53,some 54,some 55,some 56,some 57,some 58,some 59,some 60] [[],[],[1],[],[],[3,4],[5],[2,6],[7],[0,8]] [.val _,.val _,.val _,.val _,.val _,.val _,.val _,.val _,.val _,.val _] [false,false,false,false,false,false,false,false,false,false] (by kernel_rfl) rfl rfl rfl (fun dk=>⟨dc,H1 (aX jY),ey 1 eM fo,dc,dc,fv V3 (RR px),ed fun L' an=>GZ eM ME fo rfl (ab rfl) rfl rfl,kc qX,JF lL fun L' an=>cW (b:=({ (default:aA) with b2:=b0.b2 &&& b3.b2 } :aA)) rfl hh eA (.cons eM rfl (ab rfl) rfl (.nil)),JF nZ fun L' an=>cW (b:=({ (default:bR) with fO:=true,fU:=aI [aB,8,16,1,bA (1 + bg.1)] bj,c6:=gr } :bR)) rfl s0 lE (.cons nC rfl (fG true) rfl (.cons oZ rfl (ab rfl) rfl (.cons nD rfl (ab rfl) rfl (.nil)))),trivial⟩) fun dk=> ?_
   refine cY 2 fp ?_
   refine aM ?_
   refine ai.ret ?_
   refine ae.dR ?_
   refine ae.ret ?_
   refine ae.bU 0 rfl ?_
   obtain rfl:=aK h
   exact ae.eW () (.cons_cons _ (List.nil_sublist _)) rfl rfl (kk (i:=2) fp rfl rfl)
  ·refine ai.skip ?_
   refine ae.eC ?_
   refine ae.next ?_
   refine aE ?_
   refine hl s0 lE (default:bR) .nil ?_
   refine cY 2 fp ?_
   refine aM ?_
   refine ai.ret ?_
   refine ae.bU 0 rfl ?_
   obtain rfl:=aK h
   exact ae.eW () (.cons_cons _ (List.nil_sublist _)) rfl rfl (kk (i:=2) fp rfl rfl)
 ·refine aE ?_
  refine bs gI ?_
  refine aO ?_
  refine aM ?_
  refine cA h (fun h=>?_) fun h=>?_
  ·refine aE ?_
   refine aC ?_
   refine ah.bU 1 rfl ?_
   obtain⟨fJ,u4,h⟩:=az h
   refine eE 1 gh (fZ u4) fun B2=> ?_
   refine hF ([255,15,1,12,fJ.1]:List Int) Tryz.underlying63 bK j7 ?_
   refine aC ?_
   refine ah.bU 0 rfl ?_
   obtain⟨jN,u5,h⟩:=az h
   refine eE 1 gh (fZ u5) fun qC=> ?_
   obtain⟨bI,cS,h⟩:=az h
   refine ik cS Tryz.underlying63 bK ?_
   refine a4 (eh bK) ?_
   refine a4 (ir Tryz.underlying3 Tryz.underlying41) ?_
   obtain⟨g5,n0,h⟩:=az h
   refine dD n0 (cW (b:=({ (default:aA) with b2:=BitVec.ofInt 64 (aI ([255,15,1,12,fJ.1]:List Int) bI) } :aA)) rfl hh eA (.cons eM rfl (ab rfl) rfl (.nil))) ?_
   refine aC ?_
   obtain⟨hG,rz,h⟩:=az h
   refine fQ Ie (Gb rz) ?_
   refine dJ eA fun JG=> ?_
   refine cY 0 b8 ?_
   refine b5 ?_
   refine a4 (aX jY) ?_
   refine ct 0 eM fo ?_
   refine bp (T8 (ab rfl) (fT 0 rfl)) ?_
   refine aM ?_
   refine cA h (fun h=>?_) fun h=>?_
   ·refine aE ?_
    refine cR 0 b8 ?_
    refine a4 (aX jY) ?_
    refine ct 2 eM fo ?_
    refine a4 (aX jY) ?_
    refine ct 0 eM fo ?_
    refine bs qX ?_
    obtain⟨kd,rL,h⟩:=az h
    refine dD rL (cW (b:=({ (default:aA) with b2:=b0.b2 &&& hG.b2 } :aA)) rfl hh eA (.cons eM rfl (ab rfl) rfl (.nil))) ?_
    obtain⟨jS,rM,h⟩:=az h
    refine dD rM (cW (b:=({ (default:bR) with fO:=true,gU:=hG,c6:=kd } :bR)) rfl s0 lE (.cons nC rfl (fG true) rfl (.cons qM rfl (ab rfl) rfl (.cons nD rfl (ab rfl) rfl (.nil))))) ?_
    refine cY 3 fp ?_
    refine aM ?_
    refine ai.ret ?_
    refine ae.dR ?_
    refine ae.ret ?_
    refine ae.bU 1 rfl ?_
    obtain rfl:=aK h
    exact ae.eW () (.cons_cons _ (List.nil_sublist _)) rfl rfl (kk (i:=3) fp rfl rfl)
   ·refine ai.skip ?_
    refine ae.eC ?_
    refine ae.next ?_
    refine aE ?_
    refine hl s0 lE (default:bR) .nil ?_
    refine cY 3 fp ?_
    refine aM ?_
    refine ai.ret ?_
    refine ae.bU 1 rfl ?_
    obtain rfl:=aK h
    exact ae.eW () (.cons_cons _ (List.nil_sublist _)) rfl rfl (kk (i:=3) fp rfl rfl)
  ·refine aE ?_
   refine bs gI ?_
   refine aO ?_
   refine aM ?_
   refine cA h (fun h=>?_) fun h=>?_
   ·refine ai.seq ?_
    obtain⟨h6,AK,h⟩:=az h
    obtain⟨hf,rN,h⟩:=az h
    refine j8 [0,1,2,4,5,6,7,8,12,13,14,15,16,17,18,19,20,21,22,23,24,25,26,27,28,29,30,31,32,33,36,37,61,62,85,86] ?_
    refine ai.jZ mixed (bk 87 [] [] _ :: bk 88 (0 :: []) (0 :: []) _ :: bk 89 [] [] _ :: ⟨some 90,(2 :: []),(1 :: []),(1 :: []),fun _=>I.of (h6.1),fun hd _=>⟨some cv,.var (h6.2:bf)⟩⟩ :: bk 91 (3 :: []) [] _ :: bk 92 (1 :: 4 :: []) [] _ :: bk 93 [] [] _ :: bk 94 (6 :: []) [] _ :: bk 95 (7 :: []) [] _ :: bk 96 (8 :: []) [] _ :: bk 97 (5 :: 9 :: []) [] _ :: bk 11 (10 :: []) [] _ :: []) _ (0 :: 1 :: 2 :: 4 :: 5 :: 6 :: 7 :: 8 :: 12 :: 13 :: 14 :: 15 :: 16 :: 17 :: 18 :: 19 :: 20 :: 21 :: 22 :: 23 :: 24 :: 25 :: 26 :: 27 :: 28 :: 29 :: 30 :: 31 :: 32 :: 33 :: 36 :: 37 :: 61 :: 62 :: 85 :: 86 :: []) rfl rfl (by kernel_rfl) ⟨fx (aX jY),py 0 eM fo,fg,?_,fx (ir Tryz.underlying3 Tryz.underlying41),tt T9,fg,fx (ir Tryz.underlying3 Tryz.underlying130),cm fun hd E' L' aD an=>ou (fT 1 rfl) (ab (aD _ _ rfl)),cm fun hd E' L' aD an=>uk (ab (aD _ _ rfl)) (fT 1 rfl),cm fun hd E' L' aD an=>(Tr (ab (aD _ _ rfl)) (ab (aD _ _ rfl))).as (aK rN),cm fun hd E' L' aD an=>eH (ab (aD _ _ rfl)),trivial⟩ fun eZ=> ?_
    ·intro hd E' L' aD an
     refine ah.bU 1 (an 1 _ rfl rfl) ?_
     refine ah.l2 (Lin:= [⟨some cv,.var (bD.2:bf)⟩]) (Lr:=L'.eraseIdx 1) gh (fZ AK) ⟨ab (aD _ _ rfl),bN 256,trivial⟩ rfl fun pO=> ?_
     refine ah.nil ?_
     refine ae.back 1 (an 1 _ rfl rfl) ?_
     exact ae.fin (eP []) rfl rfl
    refine ae.eo (L2:= [⟨some iO,.var (b0:aA)⟩,⟨some cv,.var (h6.2:bf)⟩,⟨some bF,.var ((default:bR):bR)⟩,⟨some a2,.var (aT:cM)⟩,⟨some aW,.var (aj:a1)⟩]) rfl ?_
    refine kP [0,1,2,4,5,6,7,8,11,12,13,14,15,16,17,18,19,20,21,22,23,24,25,26,27,28,29,30,31,32,33,36,37,61,62,85,86,87,88,89,90,91,92,93,94,95,96,97] ?_
    refine ae.next ?_
    refine aE ?_
    refine aC ?_
    refine ah.bU 1 rfl ?_
    obtain⟨iW,AL,h⟩:=az h
    refine eE 1 gh (fZ AL) fun EM=> ?_
    refine bs qe ?_
    refine aC ?_
    refine dB (aX jY) ?_
    refine eQ (fun hb=>e9 (i:=1) ((aQ.id aA).comp eM) (r:=b0.b2) fo (cq rfl hb) rfl rfl rfl) ?_
    refine eQ (fun hb=>wU (cq rfl hb) (fT 0 rfl)) ?_
    refine dB ch ?_
    refine ah.gg (fun hb=>ch (ab rfl)) rfl rfl rfl rfl rfl ?_
    refine ah.gg (fun hb=>ch (ab rfl)) rfl rfl rfl rfl rfl ?_
    refine ah.gg (fun hb=>ir Tryz.underlying3 Tryz.underlying130 (cq rfl hb)) rfl rfl rfl rfl rfl ?_
    refine ah.gg (fun hb=>ou (fT 1 rfl) (cq rfl hb)) rfl rfl rfl rfl rfl ?_
    refine ah.gg (fun hb=>uk (cq rfl hb) (fT 1 rfl)) rfl rfl rfl rfl rfl ?_
    refine ah.gg (fun hb=>wU (cq rfl hb) (cq rfl hb)) rfl rfl rfl rfl rfl ?_
    refine eQ (fun hb=>pc (cq rfl hb) (ab rfl) (fun h=>⟨hb,h⟩)) ?_
    refine dB k6 ?_
    obtain⟨ll,vp,h⟩:=az h
    refine dD vp (pc (ab rfl) (ab rfl) (fun h=>h)) ?_
    refine aM ?_
    refine cA h (fun h=>?_) fun h=>?_
    ·refine aE ?_
     refine cR 1 b8 ?_
     refine aC ?_
     refine hl hh eA ({ (default:aA) with b2:=hf } :aA) (iH eM .nil) ?_
     obtain⟨kQ,u6,h⟩:=az h
     refine dD u6 (cW (b:=({ (default:bR) with fO:=true,c6:=b0,k4:=({ (default:aA) with b2:=hf } :aA) } :bR)) rfl s0 lE (.cons nC rfl (fG true) rfl (.cons nD rfl (ab rfl) rfl (.cons tJ rfl (ab rfl) rfl (.nil))))) ?_
     refine cY 2 fp ?_
     refine aM ?_
     refine ai.ret ?_
     refine ae.dR ?_
     refine ae.ret ?_
     refine ae.bU 0 rfl ?_
     obtain rfl:=aK h
     exact ae.eW () (.cons_cons _ (List.nil_sublist _)) rfl rfl (kk (i:=2) fp rfl rfl)
    ·refine ai.skip ?_
     refine ae.eC ?_
     refine ae.next ?_
     refine aE ?_
     refine hl s0 lE (default:bR) .nil ?_
     refine cY 2 fp ?_
     refine aM ?_
     refine ai.ret ?_
     refine ae.bU 0 rfl ?_
     obtain rfl:=aK h
     exact ae.eW () (.cons_cons _ (List.nil_sublist _)) rfl rfl (kk (i:=2) fp rfl rfl)
   ·refine aE ?_
    refine cR 0 b8 ?_
    obtain⟨ks,u7,h⟩:=az h
    refine dD u7 (cW (b:=({ (default:bR) with fO:=true,c6:=b0 } :bR)) rfl s0 lE (.cons nC rfl (fG true) rfl (.cons nD rfl (ab rfl) rfl (.nil)))) ?_
    refine cY 2 fp ?_
    refine aM ?_
    refine ai.ret ?_
    refine ae.dR ?_
    refine ae.ret ?_
    refine ae.bU 1 rfl ?_
    obtain rfl:=aK h
    exact ae.eW () (.cons_cons _ (List.nil_sublist _)) rfl rfl (kk (i:=2) fp rfl rfl)
theorem QU {aa:bf} {aj:a1} {aT:Int} {cv:Nat} {r:bh × bf} (h:yI aa aj aT=some r):bO Tryz.prog 27 [I.eq (.pointer (some ⟨cv,0,none⟩)),I.of (aj),I.of (aT)] [⟨some cv,.var (aa:bf)⟩] (δ:=Unit) (fun d=>I.of (r.1)) (fun d=> [⟨some cv,.var (r.2:bf)⟩]):=by
 unfold yI at h
 refine bO.of Tryz.func27 rfl Tryz.ntmps27 rfl fun W A=> ?_
 refine aE ?_
 refine cz fun aW=> ?_
 refine dJ u3 fun a2=> ?_
 refine bY ?_
 obtain⟨aB,bu,h⟩:=az h
 obtain⟨bj,cQ,h⟩:=az h
 refine ai.draw mixed 10 [some 13,some 14,some 15,some 16,some 17,some 18,some 19,some 20,some 21,some 7] [[],[0],[],[],[3],[4],[2,5],[1,6],[7],[]] [.val _,.val _,.val _,.val _,.val _,.val _,.val _,.val _,.val _,.new (.var (default:bQ))] [false,false,false,false,false,false,false,false,false,false] (by kernel_rfl) rfl rfl rfl (fun dk=>⟨H1 (aX o7),ey 1 oY oE,dc,H1 (aX o7),ey 1 oY oE,H1 (eT Tryz.underlying28),fv X6 (R0 bu),nk cQ Tryz.underlying28 gJ,H1 (eh gJ),zw l8,trivial⟩) fun dk=> ?_
 refine cY 0 gJ ?_
 refine b5 ?_
 refine a4 (aX q4) ?_
 refine ct 0 nF bK ?_
 refine bp (p3 (b:=({ (default:bh) with bo:=(aI aj.b1 bj).bP } :bh)) [1,4] Lu rfl Od u3 (.cons mV rfl (ab rfl) rfl (by rfl) (.nil))) ?_
 refine ah.own (α:=bR) 88 ?_
 refine ah.own (α:=aA) 43 ?_
 refine ah.oy (z:=(default:bh)) [1,4] Lu u3 rfl fun bF=> ?_
 refine ah.own (α:=bR) 88 ?_
 refine ah.own (α:=aA) 43 ?_
 refine ah.q8 (i:=2) fP (ab rfl) (ab rfl) rfl ?_
 refine bY ?_
 refine aE ?_
 refine a4 (aX mv) ?_
 refine ct 5 kC l6 ?_
 refine a4 (eT Tryz.underlying62) ?_
 refine aC ?_
 refine aM ?_
 refine ai.block ?_
 obtain⟨aF,ao,h⟩:=az h
 refine h5 (γ:=(Option Nat × Nat)) (δ:=(Option Nat × Nat)) ao [0,1,2,4,6,7,8,26,27] (fun s1 av=> [(28,I.of (s1.1))]) (fun s1 av=> [(2,⟨some bF,.ca (s1.2.1:bh) [(1,ba av.1 s1.2.2.1.length av.2),(4,ba none ([]:List aA).length 0)]⟩),(4,⟨av.1,.row 88 (s1.2.2.1:List bR) av.2⟩),(8,⟨some cv,.var (s1.2.2.2:bf)⟩)]) (fun ax=>Exit.exit 0) (fun ax av=> [(28,I.of (ax.1)),(29,I.of (ax.2.1))]) (fun ax av=> [(2,⟨some bF,.ca (ax.2.2.1:bh) [(1,ba av.1 ax.2.2.2.1.length av.2),(4,ba none ([]:List aA).length 0)]⟩),(4,⟨av.1,.row 88 (ax.2.2.2.1:List bR) av.2⟩),(8,⟨some cv,.var (ax.2.2.2.2:bf)⟩)]) (none,0) (fun s1 r h av=> ?_) fun av=> ?_
 ·clear ao
  refine aE ?_
  refine bs e1 ?_
  refine bY ?_
  refine cA h (fun h=>?_) fun h=>?_
  ·refine c4 ?_
   refine ai.seq ?_
   refine ai.block ?_
   refine aE ?_
   obtain⟨bI,cS,h⟩:=az h
   refine ik cS Tryz.underlying62 ko ?_
   refine a4 (eh ko) ?_
   refine dJ j2 fun iO=> ?_
   refine cY 0 ko ?_
   refine bY ?_
   obtain⟨aH,cB,h⟩:=az h
   obtain⟨bn,fF,h⟩:=az h
   refine j8 [0,1,2,4,6,7,8,10,26,27,28,29,30,31] ?_
   refine ai.jZ mixed (bk 32 [] [] _ :: bk 33 (0 :: []) (3 :: []) _ :: bk 34 [] [] _ :: bk 35 [] (8 :: []) _ :: bk 36 [] (0 :: []) _ :: ⟨some 37,(2 :: 3 :: 4 :: []),(9 :: []),(9 :: []),fun _=>I.of (aH.1),fun hd _=>⟨some cv,.var (aH.2:bf)⟩⟩ :: bk 38 (5 :: []) [] _ :: ⟨some 39,(1 :: 6 :: []),(5 :: []),(5 :: []),fun hd=>I.eq (ba (hd 7 0) bn.length ((hd 7 1).getD 0)),fun hd _=>⟨(hd 7 0),.row 88 (bn:List bR) ((hd 7 1).getD 0)⟩⟩ :: bk 40 [] [] _ :: ⟨none,(1 :: 7 :: 8 :: []),(3 :: []),(3 :: []),fun _=>I.any,fun hd _=>⟨some bF,.ca (({ s1.2.1 with cZ:= [] } :bh):bh) [(1,ba (hd 7 0) bn.length ((hd 7 1).getD 0)),(4,ba none ([]:List aA).length 0)]⟩⟩ :: []) _ (0 :: 1 :: 2 :: 4 :: 6 :: 7 :: 8 :: 10 :: 26 :: 27 :: 28 :: 29 :: 30 :: 31 :: []) rfl rfl (by kernel_rfl) ⟨fx (aX lX),cm fun hd E' L' aD an=>hW (i:=3) (q:=0) (β:=bh) (γ:=bR) lF (ab (aD _ _ rfl)) (an 3 _ rfl rfl) rfl,fg,pz 8 iv,pz 0 ko,?_,cm fun hd E' L' aD an=>ig (r:= [aH.1]) Tryz.underlying47 fp lE rfl rfl (.cons (by simp) (ab (aD _ _ rfl)) (.nil)),?_,fx (aX lX),?_,trivial⟩ fun eZ=> ?_
   ·intro hd E' L' aD an
    refine ah.bU 9 (an 9 _ rfl rfl) ?_
    refine ah.l2 (Lin:= [⟨some cv,.var (s1.2.2.2:bf)⟩]) (Lr:=L'.eraseIdx 9) X7 (QT cB) ⟨ab (aD _ _ rfl),ab (aD _ _ rfl),ab (aD _ _ rfl),trivial⟩ rfl fun et=> ?_
    refine ah.nil ?_
    refine ae.back 9 (an 9 _ rfl rfl) ?_
    exact ae.fin (eP []) rfl rfl
   ·intro hd E' L' aD an
    refine ah.app (i:=5) Tryz.underlying47 fp lE (bytes:=64) (by kernel_rfl) (ab (aD _ _ rfl)) (an 5 _ rfl rfl) (ab (aD _ _ rfl)) fF rfl fun hN fI=> ?_
    refine ah.nil ?_
    exact ae.fin (eP [hN,some fI]) rfl rfl
   ·intro hd E' L' aD an
    refine ah.jE (i:=3) (γ:=bR) (b':=(({ s1.2.1 with cZ:= [] } :bh):bh)) (os':= [(1,ba (hd 7 0) bn.length ((hd 7 1).getD 0)),(4,ba none ([]:List aA).length 0)]) ((aQ.id bh).comp lu) lF (ab (aD _ _ rfl)) (ab (aD _ _ rfl)) iD (an 3 _ rfl rfl) rfl rfl rfl ?_
    refine ah.nil ?_
    exact ae.fin (eP []) rfl rfl
   refine ae.eo (L2:= [⟨some iO,.var (aI ((aI aj.b1 bj).cO) bI:cM)⟩,⟨none,.row 43 (([]:List aA):List aA) 0⟩,⟨none,.row 88 (([]:List bR):List bR) 0⟩,⟨some bF,.ca (({ s1.2.1 with cZ:= [] } :bh):bh) [(1,ba (eZ 7 0) bn.length ((eZ 7 1).getD 0)),(4,ba none ([]:List aA).length 0)]⟩,⟨none,.row 43 (([]:List aA):List aA) 0⟩,⟨(eZ 7 0),.row 88 (bn:List bR) ((eZ 7 1).getD 0)⟩,⟨some (dk 9),.var (aI aj.b1 bj:bQ)⟩,⟨some a2,.var ((default:bh):bh)⟩,⟨some aW,.var (aj:a1)⟩,⟨some cv,.var (aH.2:bf)⟩]) rfl ?_
   refine kP [0,1,2,4,6,7,8,10,26,27,28,29,30,31,32,34,35,36,37,38,39,40] ?_
   refine ae.next ?_
   refine aE ?_
   refine a4 (aX zN) ?_
   refine ct 0 mX bK ?_
   refine bs gI ?_
   refine aC ?_
   refine dB (aX zN) ?_
   refine eQ (fun hb=>e9 (i:=0) ((aQ.id cM).comp mX) (r:=(aI ((aI aj.b1 bj).cO) bI).dp) bK (cq rfl hb) rfl rfl rfl) ?_
   refine kO gI ?_
   obtain⟨bL,dS,h⟩:=az h
   refine dD dS (Em (ab rfl) (ab rfl) (fun h=>h)) ?_
   refine aM ?_
   obtain⟨bB,cV,h⟩:=az h
   refine kr (γ:=Unit) [0,1,2,4,6,7,8,10,26,27,28,29,48] (fun bm=> []) (fun bm=> [(3,⟨some bF,.ca (bB.1:bh) [(1,ba (eZ 7 0) bn.length ((eZ 7 1).getD 0)),(4,ba none ([]:List aA).length 0)]⟩),(9,⟨some cv,.var (bB.2:bf)⟩)]) (fun bm=> ?_) (fun hm ak=> ?_) fun hm ak=> ?_
   ·clear cV
    refine ae.eC ?_
    refine ae.next ?_
    refine ai.cE ?_
    refine bs dX ?_
    refine aC ?_
    refine ah.nil ?_
    obtain rfl:=aK h
    exact hD ((eZ 7 0),((eZ 7 1).getD 0)) 1
   ·have h:=hY ak cV
    refine ai.cE ?_
    refine aC ?_
    refine ah.bU 9 rfl ?_
    obtain⟨bD,gL,h⟩:=az h
    refine eE 1 gh (fZ gL) fun cr=> ?_
    refine bs dX ?_
    refine a4 (aX q9) ?_
    obtain⟨dF,hR,h⟩:=az h
    refine ah.sG (i:=4) ((aQ.id bh).comp qI) (v:=(bA (1 + bD.1):Int)) (b':=(dF:bh)) bK (ab rfl) (ab rfl) rfl rfl (aK hR) (by rfl) ?_
    refine ah.nil ?_
    refine ae.bU 9 rfl ?_
    refine ae.bU 9 rfl ?_
    refine ae.bU 9 rfl ?_
    refine ae.bU 9 rfl ?_
    refine ae.bU 9 rfl ?_
    refine ae.bU 9 rfl ?_
    refine ae.bU 9 rfl ?_
    refine ae.bU 9 rfl ?_
    refine ae.bU 9 rfl ?_
    obtain rfl:=aK h
    exact dT 0 (hm ())
   ·have h:=hZ ak cV
    refine ai.skip ?_
    obtain rfl:=aK h
    exact dT 0 (hm ())
  ·refine ai.exit ?_
   refine ae.exit ?_
   obtain rfl:=aK h
   exact eX (av.1,av.2) 0
 ·clear ao
  refine ae.gE ?_
  refine ae.next ?_
  refine ai.seq ?_
  obtain⟨b0,hS,h⟩:=az h
  obtain⟨dv,iI,h⟩:=az h
  obtain⟨gr,lL,h⟩:=az h
  refine j8 [0,1,2,4,6,7,8,26,27,28,29] ?_
  refine ai.jZ mixed (bk 54 [] [] _ :: bk 55 (0 :: []) (5 :: []) _ :: bk 56 [] [] _ :: bk 57 [] [] _ :: bk 58 (3 :: []) (5 :: []) _ :: bk 59 (4 :: []) [] _ :: ⟨some 60,(2 :: 5 :: []),(8 :: []),(8 :: []),fun _=>I.of (b0.1),fun hd _=>⟨some cv,.var (b0.2:bf)⟩⟩ :: bk 61 (1 :: 6 :: []) [] _ :: bk 62 (7 :: []) [] _ :: bk 63 [] [] _ :: ⟨none,(8 :: 9 :: []),(2 :: []),(2 :: []),fun _=>I.any,fun hd _=>⟨some bF,.ca (gr:bh) [(1,ba av.1 aF.2.2.2.1.length av.2),(4,ba none ([]:List aA).length 0)]⟩⟩ :: []) _ (0 :: 1 :: 2 :: 4 :: 6 :: 7 :: 8 :: 26 :: 27 :: 28 :: 29 :: []) rfl rfl (by kernel_rfl) ⟨fx (aX MF),py 5 v9 u9,fg,fx (aX MF),py 5 v9 u9,fx (eT Tryz.underlying63),?_,cm fun hd E' L' aD an=>ri (k:=dv) Tryz.underlying63 bK (ab (aD _ _ rfl)) (ab (aD _ _ rfl)) (da iI),fx (eh bK),fx (aX w6),?_,trivial⟩ fun iJ=> ?_
  ·intro hd E' L' aD an
   refine ah.bU 8 (an 8 _ rfl rfl) ?_
   refine ah.l2 (Lin:= [⟨some cv,.var (aF.2.2.2.2:bf)⟩]) (Lr:=L'.eraseIdx 8) gh (fZ hS) ⟨ab (aD _ _ rfl),ab (aD _ _ rfl),trivial⟩ rfl fun mh=> ?_
   refine ah.nil ?_
   refine ae.back 8 (an 8 _ rfl rfl) ?_
   exact ae.fin (eP []) rfl rfl
  ·intro hd E' L' aD an
   refine ah.sG (i:=2) ((aQ.id bh).comp tG) (v:=(aI ((aI aj.b1 bj).dP) dv:Int)) (b':=(gr:bh)) bK (ab (aD _ _ rfl)) (ab (aD _ _ rfl)) (an 2 _ rfl rfl) rfl (aK lL) (by rfl) ?_
   refine ah.nil ?_
   exact ae.fin (eP []) rfl rfl
  refine ae.eo (L2:= [⟨none,.row 43 (([]:List aA):List aA) 0⟩,⟨none,.row 88 (([]:List bR):List bR) 0⟩,⟨some bF,.ca (gr:bh) [(1,ba av.1 aF.2.2.2.1.length av.2),(4,ba none ([]:List aA).length 0)]⟩,⟨none,.row 43 (([]:List aA):List aA) 0⟩,⟨av.1,.row 88 (aF.2.2.2.1:List bR) av.2⟩,⟨some (dk 9),.var (aI aj.b1 bj:bQ)⟩,⟨some a2,.var ((default:bh):bh)⟩,⟨some aW,.var (aj:a1)⟩,⟨some cv,.var (b0.2:bf)⟩]) rfl ?_
  refine kP [0,1,2,4,6,7,8,26,27,28,29,54,55,56,57,58,59,60,61,62,63] ?_
  refine ae.next ?_
  refine ai.seq ?_
  refine aE ?_
  refine cR 7 iv ?_
  refine a4 (aX w6) ?_
  refine OU 2 tG bK ?_
  obtain⟨cl,il,h⟩:=az h
  refine fQ X8 (Rk il) ?_
  refine bp (GZ Ct Ua V4 rfl (ab rfl) rfl rfl) ?_
  refine a4 (eT Tryz.underlying145) ?_
  refine aC ?_
  refine aM ?_
  refine ai.block ?_
  obtain⟨aR,ao,h⟩:=az h
  refine h5 (γ:=(Option Nat × Nat)) (δ:=(Option Nat × Nat)) ao [0,1,2,4,6,7,8,26,27,28,29,68,69] (fun s2 bS=> [(70,I.of (s2.1))]) (fun s2 bS=> [(2,⟨some bF,.ca (s2.2.1:bh) [(1,ba av.1 aF.2.2.2.1.length av.2),(4,ba bS.1 s2.2.2.1.length bS.2)]⟩),(3,⟨bS.1,.row 43 (s2.2.2.1:List aA) bS.2⟩),(8,⟨some cv,.var (s2.2.2.2:bf)⟩)]) (fun eu=>Exit.exit 2) (fun eu bS=> [(70,I.of (eu.1)),(71,I.of (eu.2.1))]) (fun eu bS=> [(2,⟨some bF,.ca (eu.2.2.1:bh) [(1,ba av.1 aF.2.2.2.1.length av.2),(4,ba bS.1 eu.2.2.2.1.length bS.2)]⟩),(3,⟨bS.1,.row 43 (eu.2.2.2.1:List aA) bS.2⟩),(8,⟨some cv,.var (eu.2.2.2.2:bf)⟩)]) (none,0) (fun s2 r h bS=> ?_) fun bS=> ?_
  ·clear ao
   refine aE ?_
   refine bs e1 ?_
   refine bY ?_
   refine cA h (fun h=>?_) fun h=>?_
   ·refine c4 ?_
    refine ai.seq ?_
    refine ai.block ?_
    refine aE ?_
    obtain⟨ht,rO,h⟩:=az h
    refine ik rO Tryz.underlying145 xf ?_
    refine a4 (eh xf) ?_
    refine dJ sQ fun JG=> ?_
    refine cY 0 xf ?_
    refine aM ?_
    obtain⟨bg,mG,h⟩:=az h
    obtain⟨iq,nZ,h⟩:=az h
    obtain⟨fe,nY,h⟩:=az h
    obtain⟨b3,px,h⟩:=az h
    refine j8 [0,1,2,4,6,7,8,12,26,27,28,29,68,69,70,71,72,73] ?_
    refine ai.jZ mixed (bk 74 [] [] _ :: bk 75 (0 :: []) (3 :: []) _ :: bk 76 [] [] _ :: ⟨some 77,(2 :: []),(9 :: []),(9 :: []),fun _=>I.of (bg.1),fun hd _=>⟨some cv,.var (bg.2:bf)⟩⟩ :: bk 78 (3 :: []) [] _ :: bk 79 (4 :: []) [] _ :: bk 80 [] [] _ :: bk 81 (6 :: []) (0 :: []) _ :: bk 82 (5 :: 7 :: []) [] _ :: bk 83 (8 :: []) [] _ :: ⟨some 84,(1 :: 9 :: []),(4 :: []),(4 :: []),fun hd=>I.eq (ba (hd 10 0) b3.length ((hd 10 1).getD 0)),fun hd _=>⟨(hd 10 0),.row 43 (b3:List aA) ((hd 10 1).getD 0)⟩⟩ :: bk 85 [] [] _ :: ⟨none,(1 :: 10 :: 11 :: []),(3 :: []),(3 :: []),fun _=>I.any,fun hd _=>⟨some bF,.ca (({ s2.2.1 with h0:= [] } :bh):bh) [(1,ba av.1 aF.2.2.2.1.length av.2),(4,ba (hd 10 0) b3.length ((hd 10 1).getD 0))]⟩⟩ :: []) _ (0 :: 1 :: 2 :: 4 :: 6 :: 7 :: 8 :: 12 :: 26 :: 27 :: 28 :: 29 :: 68 :: 69 :: 70 :: 71 :: 72 :: 73 :: []) rfl rfl (by kernel_rfl) ⟨fx (aX sF),cm fun hd E' L' aD an=>hW (i:=3) (q:=1) (β:=bh) (γ:=aA) ry (ab (aD _ _ rfl)) (an 3 _ rfl rfl) rfl,fg,?_,fx (ir Tryz.underlying3 Tryz.underlying41),cm fun hd E' L' aD an=>(cW (b:=({ (default:aA) with b2:=BitVec.ofInt 64 bg.1 } :aA)) rfl hh eA (.cons eM rfl (ab (aD _ _ rfl)) rfl (.nil))).as (aK nZ),fx (aX Ub),py 0 yJ bK,cm fun hd E' L' aD an=>ly Ie (Gb nY) ⟨ab (aD _ _ rfl),ab (aD _ _ rfl),trivial⟩,cm fun hd E' L' aD an=>ig (r:= [fe]) Tryz.underlying48 b8 eA rfl rfl (.cons (by simp) (ab (aD _ _ rfl)) (.nil)),?_,fx (aX sF),?_,trivial⟩ fun oJ=> ?_
    ·intro hd E' L' aD an
     refine ah.bU 9 (an 9 _ rfl rfl) ?_
     refine ah.l2 (Lin:= [⟨some cv,.var (s2.2.2.2:bf)⟩]) (Lr:=L'.eraseIdx 9) gh (fZ mG) ⟨ab (aD _ _ rfl),bN 256,trivial⟩ rfl fun lk=> ?_
     refine ah.nil ?_
     refine ae.back 9 (an 9 _ rfl rfl) ?_
     exact ae.fin (eP []) rfl rfl
    ·intro hd E' L' aD an
     refine ah.app (i:=4) Tryz.underlying48 b8 eA (bytes:=16) (by kernel_rfl) (ab (aD _ _ rfl)) (an 4 _ rfl rfl) (ab (aD _ _ rfl)) px rfl fun l7 pk=> ?_
     refine ah.nil ?_
     exact ae.fin (eP [l7,some pk]) rfl rfl
    ·intro hd E' L' aD an
     refine ah.jE (i:=3) (γ:=aA) (b':=(({ s2.2.1 with h0:= [] } :bh):bh)) (os':= [(1,ba av.1 aF.2.2.2.1.length av.2),(4,ba (hd 10 0) b3.length ((hd 10 1).getD 0))]) ((aQ.id bh).comp sl) ry (ab (aD _ _ rfl)) (ab (aD _ _ rfl)) iD (an 3 _ rfl rfl) rfl rfl rfl ?_
     refine ah.nil ?_
     exact ae.fin (eP []) rfl rfl
    refine ae.eo (L2:= [⟨some JG,.var (aI cl.jX ht:ic)⟩,⟨none,.row 43 (([]:List aA):List aA) 0⟩,⟨none,.row 88 (([]:List bR):List bR) 0⟩,⟨some bF,.ca (({ s2.2.1 with h0:= [] } :bh):bh) [(1,ba av.1 aF.2.2.2.1.length av.2),(4,ba (oJ 10 0) b3.length ((oJ 10 1).getD 0))]⟩,⟨(oJ 10 0),.row 43 (b3:List aA) ((oJ 10 1).getD 0)⟩,⟨av.1,.row 88 (aF.2.2.2.1:List bR) av.2⟩,⟨some (dk 9),.var (aI aj.b1 bj:bQ)⟩,⟨some a2,.var ((default:bh):bh)⟩,⟨some aW,.var (aj:a1)⟩,⟨some cv,.var (bg.2:bf)⟩]) rfl ?_
    refine kP [0,1,2,4,6,7,8,12,26,27,28,29,68,69,70,71,72,73,74,76,77,78,79,80,81,82,83,84,85] ?_
    refine ae.eC ?_
    refine ae.next ?_
    refine ai.cE ?_
    refine bs dX ?_
    refine aC ?_
    refine ah.nil ?_
    obtain rfl:=aK h
    exact hD ((oJ 10 0),((oJ 10 1).getD 0)) 1
   ·refine ai.exit ?_
    refine ae.exit ?_
    obtain rfl:=aK h
    exact eX (bS.1,bS.2) 0
  ·clear ao
   refine ae.gE ?_
   refine ae.next ?_
   refine aE ?_
   refine ah.lG (β:=bh) (γ:=bR) (b':=(({ aR.2.2.1 with cZ:=aF.2.2.2.1 } :bh):bh)) ((aQ.id bh).comp lu) 2 4 0 rfl rfl rfl rfl rfl rfl ?_
   refine ah.lG (β:=bh) (γ:=aA) (b':=(({ ({ aR.2.2.1 with cZ:=aF.2.2.2.1 } :bh) with h0:=aR.2.2.2.1 } :bh):bh)) ((aQ.id bh).comp sl) 2 3 0 rfl rfl rfl rfl rfl rfl ?_
   refine ah.oA 2 rfl ?_
   obtain⟨g5,n0,h⟩:=az h
   refine dD n0 (e9 (i:=2) (aQ.id bh) (r:=({ ({ aR.2.2.1 with cZ:=aF.2.2.2.1 } :bh) with h0:=aR.2.2.2.1 } :bh)) fP (ab rfl) rfl rfl rfl) ?_
   refine cY 6 fP ?_
   refine aM ?_
   refine ai.ret ?_
   refine ae.bU 8 rfl ?_
   obtain rfl:=aK h
   exact ae.eW () (.cons_cons _ (List.nil_sublist _)) rfl rfl (kk (i:=7) fP rfl rfl)
theorem CU {aa:aA} {aj:aA} {r:Int} (h:so aa aj=some r):bW Tryz.prog 137 [I.of (aa),I.of (aj)] (I.of (r)):=by
 unfold so at h
 refine bW.of Tryz.func137 rfl Tryz.ntmps137 rfl fun W A=> ?_
 refine aE ?_
 refine cz fun aW=> ?_
 refine cz fun a2=> ?_
 refine aO ?_
 refine bY ?_
 refine ai.block ?_
 refine aE ?_
 refine cR 1 b8 ?_
 refine cR 0 b8 ?_
 refine bs (HD rj rfl DU rfl) ?_
 refine aO ?_
 refine aM ?_
 refine cA h (fun h=>?_) fun h=>?_
 ·refine aE ?_
  refine aO ?_
  refine aM ?_
  refine ai.ret ?_
  refine ae.dR ?_
  refine ae.ret ?_
  obtain rfl:=aK h
  exact c7
 ·refine aE ?_
  refine a4 (aX lW) ?_
  refine ct 1 ia fo ?_
  refine a4 (aX lW) ?_
  refine ct 0 ia fo ?_
  refine bs L7 ?_
  refine aC ?_
  refine dB (aX lW) ?_
  refine eQ (fun hb=>e9 (i:=1) ((aQ.id aA).comp ia) (r:=aa.de) fo (cq rfl hb) rfl rfl rfl) ?_
  refine dB (aX lW) ?_
  refine eQ (fun hb=>e9 (i:=0) ((aQ.id aA).comp ia) (r:=aj.de) fo (cq rfl hb) rfl rfl rfl) ?_
  refine kO wU ?_
  refine dB ch ?_
  refine ah.gg (fun hb=>aX jY (ab rfl)) rfl rfl rfl rfl rfl ?_
  refine ah.gg (fun hb=>e9 (i:=1) ((aQ.id aA).comp eM) (r:=aa.b2) fo (cq rfl hb) rfl rfl rfl) rfl rfl rfl rfl rfl ?_
  refine ah.gg (fun hb=>aX jY (ab rfl)) rfl rfl rfl rfl rfl ?_
  refine ah.gg (fun hb=>e9 (i:=0) ((aQ.id aA).comp eM) (r:=aj.b2) fo (cq rfl hb) rfl rfl rfl) rfl rfl rfl rfl rfl ?_
  refine ah.gg (fun hb=>L7 (cq rfl hb) (cq rfl hb)) rfl rfl rfl rfl rfl ?_
  refine eQ (fun hb=>pc (cq rfl hb) (ab rfl) (fun h=>⟨hb,h⟩)) ?_
  obtain⟨bL,dS,h⟩:=az h
  refine dD dS (Em (ab rfl) (ab rfl) (fun h=>h)) ?_
  refine aO ?_
  refine aM ?_
  refine cA h (fun h=>?_) fun h=>?_
  ·refine aE ?_
   refine aO ?_
   refine aM ?_
   refine ai.ret ?_
   refine ae.dR ?_
   refine ae.ret ?_
   obtain rfl:=aK h
   exact c7
  ·refine ai.skip ?_
   refine ae.eC ?_
   refine ae.next ?_
   refine aE ?_
   refine aO ?_
   refine aM ?_
   refine ai.ret ?_
   obtain rfl:=aK h
   exact c7
theorem CX {aa:bh} {r:(Vector aA 4)} (h:sq aa=some r):bW Tryz.prog 232 [I.of (aa)] (I.of (r)):=by
 unfold sq at h
 refine bW.of Tryz.func232 rfl Tryz.ntmps232 rfl fun W A=> ?_
 refine aE ?_
 refine cz fun aW=> ?_
 refine dJ Oe fun a2=> ?_
 refine b5 ?_
 refine dJ Oe fun bF=> ?_
 refine bY ?_
 refine aE ?_
 refine a4 (aX lX) ?_
 refine ct 2 lu lF ?_
 refine a4 (aX lX) ?_
 refine ct 2 lu lF ?_
 refine a4 (eT Tryz.underlying47) ?_
 refine bs Aa ?_
 obtain⟨aB,bu,h⟩:=az h
 refine bp (L4 Tryz.underlying47 fp (ab rfl) .none (.some (ab rfl)) bu) ?_
 refine a4 (eT Tryz.underlying47) ?_
 refine aC ?_
 refine aM ?_
 refine ai.block ?_
 obtain⟨aF,ao,h⟩:=az h
 refine h5 (γ:=Unit) (δ:=Unit) ao [0,1,2,3,12,13] (fun s1 av=> [(14,I.of (s1.1))]) (fun s1 av=> [(0,⟨some bF,.var (s1.2:Vector aA 4)⟩)]) (fun ax=>Exit.exit 0) (fun ax av=> [(14,I.of (ax.1)),(15,I.of (ax.2.1))]) (fun ax av=> [(0,⟨some bF,.var (ax.2.2:Vector aA 4)⟩)]) () (fun s1 r h av=> ?_) fun av=> ?_
 ·clear ao
  refine aE ?_
  refine bs e1 ?_
  refine bY ?_
  refine cA h (fun h=>?_) fun h=>?_
  ·refine c4 ?_
   refine ai.seq ?_
   refine ai.block ?_
   refine aE ?_
   refine aC ?_
   obtain⟨bj,cQ,h⟩:=az h
   refine ik cQ Tryz.underlying47 fp ?_
   refine a4 (eh fp) ?_
   refine dJ lE fun iO=> ?_
   refine aO ?_
   refine cY 0 fp ?_
   refine aM ?_
   refine ai.cE ?_
   refine aC ?_
   refine a4 (aX uw) ?_
   refine ct 0 nD b8 ?_
   obtain⟨bI,cS,h⟩:=az h
   refine bp (jH (k:=bI) Ig (ab rfl) (ab rfl) (da cS)) ?_
   refine vm 1 ((aQ.id (Vector aA 4)).comp (aQ.idx (α:=aA) 4 bI (da cS).1)) b8 ?_
   refine ah.nil ?_
   refine ae.eC ?_
   refine ae.next ?_
   refine ai.cE ?_
   refine bs dX ?_
   refine aC ?_
   refine ah.nil ?_
   obtain rfl:=aK h
   exact hD () 1
  ·refine ai.exit ?_
   refine ae.exit ?_
   obtain rfl:=aK h
   exact eX () 0
 ·clear ao
  refine ae.gE ?_
  refine ae.next ?_
  refine aE ?_
  refine cR 0 rA ?_
  refine cY 1 rA ?_
  refine aM ?_
  refine ai.ret ?_
  obtain rfl:=aK h
  exact ae.iU rfl (hn 1 rA)
theorem Kh {hp:aN Cell} {aa:Ref} {aj:Vector aA 4} {r:Int × Bool} (h:wm hp aa aj=some r):bO Tryz.prog 231 [I.of (aa),I.of (aj)] ([] ++ aV hp) (δ:=Unit) (fun _=>I.eD [I.of (r.1),I.of (r.2)]) (fun _=> [] ++ aV hp):=by
 unfold wm at h
 refine bO.of Tryz.func231 rfl Tryz.ntmps231 rfl fun W A=> ?_
 refine aE ?_
 refine cz fun aW=> ?_
 refine aO ?_
 refine aO ?_
 refine bY ?_
 refine aE ?_
 refine aC ?_
 refine bp (mo Tryz.underlying163 (ab rfl)) ?_
 refine aM ?_
 refine cA h (fun h=>?_) fun h=>?_
 ·refine aE ?_
  refine aO ?_
  refine aO ?_
  refine aM ?_
  refine ai.ret ?_
  refine ae.ret ?_
  obtain rfl:=aK h
  exact ae.kl () (.cons _ (.refl _)) rfl rfl (dH rfl) (dH rfl)
 ·refine c4 ?_
  refine ai.seq ?_
  obtain⟨b6,c8,h⟩:=az h
  obtain⟨bq,dM,h⟩:=az h
  obtain⟨bZ,eY,h⟩:=az h
  obtain⟨cg,e4,h⟩:=az h
  obtain⟨bL,dS,h⟩:=az h
  refine ai.draw mixed 10 [some 11,some 12,some 13,some 14,some 15,some 16,some 10,some 17,some 18,some 6] [[],[0],[1],[2],[],[3,4],[5],[6],[6],[7]] [.val _,.val _,.val _,.val _,.val _,.val _,.val _,.val _,.val _,.val _] [false,false,false,false,false,false,false,false,false,false] (by kernel_rfl) rfl rfl rfl (fun dk=>⟨dc,ed fun L' an=>dx (dZ (ab rfl) c8),H1 (aX Dp),ed fun L' an=>fi ((aQ.id mn).comp yx) (r:=bq.nQ) Af (ab rfl) (jJ (fun i e q=>an i e q rfl) (ep (n:=1) rfl (sH dM) rfl)) rfl rfl,gW 0 rA,ed fun L' an=>GD (r:=bL) Tryz.underlying222 DV j7 (kD (ab rfl) eY) (ab rfl) (jJ (fun i e q=>an i e q rfl) (ep (n:=1) rfl (p9 e4) rfl)) (aK dS),dc,xH,xH,JH,trivial⟩) fun dk=> ?_
  refine aO ?_
  refine b5 ?_
  refine aC ?_
  refine aC ?_
  refine aO ?_
  refine aO ?_
  refine aM ?_
  refine ai.ret ?_
  obtain rfl:=aK h
  exact ae.kl () (.cons _ (.refl _)) rfl rfl (dH rfl) (dH rfl)
theorem Qp {aa:gA} {aj:Vector aA 4} {r:(Vector aA 4) × aA} (h:Cu aa aj=some r):bW Tryz.prog 241 [I.of (aa),I.of (aj)] (I.eD [I.of (r.1),I.of (r.2)]):=by
 unfold Cu at h
 refine bW.of Tryz.func241 rfl Tryz.ntmps241 rfl fun W A=> ?_
 refine aE ?_
 refine cz fun aW=> ?_
 refine cz fun a2=> ?_
 refine dJ xg fun bF=> ?_
 refine dJ eA fun iO=> ?_
 refine b5 ?_
 refine a4 (aX Dq) ?_
 refine ct 3 ym bK ?_
 obtain⟨bj,cQ,h⟩:=az h
 refine bp (jH (k:=bj) Ig (ab rfl) (ab rfl) (da cQ)) ?_
 refine ct 2 ((aQ.id (Vector aA 4)).comp (aQ.idx (α:=aA) 4 bj (da cQ).1)) b8 ?_
 refine dJ eA fun JG=> ?_
 refine cY 0 b8 ?_
 refine b5 ?_
 refine a4 (aX Dq) ?_
 refine ct 4 ym bK ?_
 refine hl hh eA (default:aA) .nil ?_
 obtain⟨bI,cS,h⟩:=az h
 refine bp (jH (k:=bI) Ig (ab rfl) (ab rfl) (da cS)) ?_
 refine vm 3 ((aQ.id (Vector aA 4)).comp (aQ.idx (α:=aA) 4 bI (da cS).1)) b8 ?_
 refine bY ?_
 refine ai.draw mixed 3 [some 15,some 16,none] [[],[],[0]] [.val _,.val _,.kN 2 (.var ((h2 aj bI (default:aA)):Vector aA 4))] [false,false,true] (by kernel_rfl) rfl rfl rfl (fun dk=>⟨gW 3 rA,gW 0 b8,⟨_,_,rfl,fun L' an=>w2 (i:=2) (aQ.id (Vector aA 4)) (v:=((h2 aj bI (default:aA)):Vector aA 4)) (b':=((h2 aj bI (default:aA)):Vector aA 4)) km (ab rfl) (ab rfl) (an _ _ rfl) rfl rfl⟩,trivial⟩) fun dk=> ?_
 refine cY 1 b8 ?_
 refine aM ?_
 refine ai.ret ?_
 obtain rfl:=aK h
 exact ae.En rfl (hn 2 km) (hn 1 b8)
theorem Kq {aa:Int} {r:Int} (h:wE aa=some r):bW Tryz.prog 205 [I.of (aa)] (I.of (r)):=by
 unfold wE at h
 refine bW.of Tryz.func205 rfl Tryz.ntmps205 rfl fun W A=> ?_
 refine aE ?_
 refine aO ?_
 refine b5 ?_
 refine aC ?_
 refine bs DQ ?_
 refine bs Aa ?_
 refine aO ?_
 refine aM ?_
 refine ai.ret ?_
 obtain rfl:=aK h
 exact c7
theorem Kw {aa:aA} {aj:Int} {r:aA} (h:wG aa aj=some r):bW Tryz.prog 204 [I.of (aa),I.of (aj)] (I.of (r)):=by
 unfold wG at h
 refine bW.of Tryz.func204 rfl Tryz.ntmps204 rfl fun W A=> ?_
 refine aE ?_
 refine cz fun aW=> ?_
 refine dJ eA fun a2=> ?_
 refine bY ?_
 refine ai.block ?_
 refine aE ?_
 refine aC ?_
 refine bs Ab ?_
 refine aO ?_
 refine aM ?_
 refine cA h (fun h=>?_) fun h=>?_
 ·refine aE ?_
  refine cR 1 b8 ?_
  refine cY 0 b8 ?_
  refine aM ?_
  refine ai.ret ?_
  refine ae.dR ?_
  refine ae.ret ?_
  obtain rfl:=aK h
  exact ae.iU rfl (hn 0 b8)
 ·refine aE ?_
  refine aC ?_
  refine bs mx ?_
  refine aO ?_
  refine aM ?_
  refine cA h (fun h=>?_) fun h=>?_
  ·refine aE ?_
   refine a4 (aX lW) ?_
   refine ct 1 ia fo ?_
   refine aC ?_
   refine bs iE ?_
   refine a4 (ir Tryz.underlying3 Tryz.underlying130) ?_
   refine bs p5 ?_
   obtain⟨bL,dS,h⟩:=az h
   refine dD dS (cW (b:=({ (default:aA) with b2:=aa.de >>> (BitVec.ofInt 64 (bA (aj - 64))).toNat } :aA)) rfl hh eA (.cons eM rfl (ab rfl) rfl (.nil))) ?_
   refine cY 0 b8 ?_
   refine aM ?_
   refine ai.ret ?_
   refine ae.dR ?_
   refine ae.ret ?_
   obtain rfl:=aK h
   exact ae.iU rfl (hn 0 b8)
  ·refine ai.skip ?_
   refine ae.eC ?_
   refine ae.next ?_
   refine aE ?_
   refine a4 (aX lW) ?_
   refine ct 1 ia fo ?_
   refine aC ?_
   refine a4 (ir Tryz.underlying3 Tryz.underlying130) ?_
   refine bs p5 ?_
   refine a4 (aX jY) ?_
   refine ct 1 eM fo ?_
   refine aC ?_
   refine a4 (ir Tryz.underlying3 Tryz.underlying130) ?_
   refine bs p5 ?_
   refine a4 (aX lW) ?_
   refine ct 1 ia fo ?_
   refine aC ?_
   refine bs iE ?_
   refine a4 (ir Tryz.underlying3 Tryz.underlying130) ?_
   refine bs ou ?_
   obtain⟨dF,hR,h⟩:=az h
   refine dD hR (w5 (ab rfl) (ab rfl)) ?_
   obtain⟨gr,lL,h⟩:=az h
   refine dD lL (cW (b:= { de:=aa.de >>> (BitVec.ofInt 64 aj).toNat,b2:=dF:aA }) rfl hh eA (.cons ia rfl (ab rfl) rfl (.cons eM rfl (ab rfl) rfl (.nil)))) ?_
   refine cY 0 b8 ?_
   refine aM ?_
   refine ai.ret ?_
   obtain rfl:=aK h
   exact ae.iU rfl (hn 0 b8)
theorem RS {aa:aA} {aj:Int} {r:aA} (h:ze aa aj=some r):bW Tryz.prog 165 [I.of (aa),I.of (aj)] (I.of (r)):=by
 unfold ze at h
 refine bW.of Tryz.func165 rfl Tryz.ntmps165 rfl fun W A=> ?_
 refine aE ?_
 refine cz fun aW=> ?_
 refine dJ eA fun a2=> ?_
 refine bY ?_
 refine ai.block ?_
 refine aE ?_
 refine aC ?_
 refine bs Ab ?_
 refine aO ?_
 refine aM ?_
 refine cA h (fun h=>?_) fun h=>?_
 ·refine aE ?_
  refine cR 1 b8 ?_
  refine cY 0 b8 ?_
  refine aM ?_
  refine ai.ret ?_
  refine ae.dR ?_
  refine ae.ret ?_
  obtain rfl:=aK h
  exact ae.iU rfl (hn 0 b8)
 ·refine aE ?_
  refine aC ?_
  refine bs mx ?_
  refine aO ?_
  refine aM ?_
  refine cA h (fun h=>?_) fun h=>?_
  ·refine aE ?_
   refine a4 (aX jY) ?_
   refine ct 1 eM fo ?_
   refine aC ?_
   refine bs iE ?_
   refine a4 (ir Tryz.underlying3 Tryz.underlying130) ?_
   refine bs ou ?_
   obtain⟨bL,dS,h⟩:=az h
   refine dD dS (cW (b:=({ (default:aA) with de:=aa.b2 <<< (BitVec.ofInt 64 (bA (aj - 64))).toNat } :aA)) rfl hh eA (.cons ia rfl (ab rfl) rfl (.nil))) ?_
   refine cY 0 b8 ?_
   refine aM ?_
   refine ai.ret ?_
   refine ae.dR ?_
   refine ae.ret ?_
   obtain rfl:=aK h
   exact ae.iU rfl (hn 0 b8)
  ·refine ai.skip ?_
   refine ae.eC ?_
   refine ae.next ?_
   refine aE ?_
   refine a4 (aX lW) ?_
   refine ct 1 ia fo ?_
   refine aC ?_
   refine a4 (ir Tryz.underlying3 Tryz.underlying130) ?_
   refine bs ou ?_
   refine a4 (aX jY) ?_
   refine ct 1 eM fo ?_
   refine aC ?_
   refine bs iE ?_
   refine a4 (ir Tryz.underlying3 Tryz.underlying130) ?_
   refine bs p5 ?_
   obtain⟨dF,hR,h⟩:=az h
   refine dD hR (w5 (ab rfl) (ab rfl)) ?_
   refine a4 (aX jY) ?_
   refine ct 1 eM fo ?_
   refine aC ?_
   refine a4 (ir Tryz.underlying3 Tryz.underlying130) ?_
   refine bs ou ?_
   obtain⟨gr,lL,h⟩:=az h
   refine dD lL (cW (b:= { de:=dF,b2:=aa.b2 <<< (BitVec.ofInt 64 aj).toNat:aA }) rfl hh eA (.cons ia rfl (ab rfl) rfl (.cons eM rfl (ab rfl) rfl (.nil)))) ?_
   refine cY 0 b8 ?_
   refine aM ?_
   refine ai.ret ?_
   obtain rfl:=aK h
   exact ae.iU rfl (hn 0 b8)
theorem So {aa:aA} {aj:aA} {r:aA} (h:Gi aa aj=some r):bW Tryz.prog 167 [I.of (aa),I.of (aj)] (I.of (r)):=by
 unfold Gi at h
 refine bW.of Tryz.func167 rfl Tryz.ntmps167 rfl fun W A=> ?_
 refine aE ?_
 refine cz fun aW=> ?_
 refine cz fun a2=> ?_
 refine dJ eA fun bF=> ?_
 refine b5 ?_
 refine a4 (aX lW) ?_
 refine ct 2 ia fo ?_
 refine a4 (aX lW) ?_
 refine ct 1 ia fo ?_
 refine bs w5 ?_
 refine a4 (aX jY) ?_
 refine ct 2 eM fo ?_
 refine a4 (aX jY) ?_
 refine ct 1 eM fo ?_
 refine bs w5 ?_
 obtain⟨bL,dS,h⟩:=az h
 refine dD dS (cW (b:= { de:=aa.de ||| aj.de,b2:=aa.b2 ||| aj.b2:aA }) rfl hh eA (.cons ia rfl (ab rfl) rfl (.cons eM rfl (ab rfl) rfl (.nil)))) ?_
 refine cY 0 b8 ?_
 refine aM ?_
 refine ai.ret ?_
 obtain rfl:=aK h
 exact ae.iU rfl (hn 0 b8)
theorem Qk {aa:aw} {aj:Int} {r:Bool} (h:yn aa aj=some r):bW Tryz.prog 279 [I.of (aa),I.ptr aj] (I.of (r)):=by
 unfold yn at h
 refine bW.of Tryz.func279 rfl Tryz.ntmps279 rfl fun W A=> ?_
 refine aE ?_
 refine cz fun aW=> ?_
 refine aO ?_
 refine b5 ?_
 refine a4 (aX nL) ?_
 refine ct 0 mU bK ?_
 refine a4 (eh bK) ?_
 refine bs gI ?_
 refine aO ?_
 refine aM ?_
 refine ai.ret ?_
 obtain rfl:=aK h
 exact c7
theorem P3 {aa:List aw} {aj:aw→Option Bool} {r:Int} (h:v8 aa aj=some r):bW Tryz.prog 110 [I.of (aa),I.vj Tryz.prog aj] (I.of (r)):=by
 unfold v8 at h
 refine bW.of Tryz.func110 rfl Tryz.ntmps110 rfl fun W A=> ?_
 refine aE ?_
 refine aO ?_
 refine bY ?_
 refine aE ?_
 refine aC ?_
 refine a4 (eT Tryz.underlying38) ?_
 refine aC ?_
 refine aM ?_
 refine ai.block ?_
 obtain⟨aF,ao,h⟩:=az h
 refine h5 (γ:=Unit) (δ:=Unit) ao [0,1,7] (fun s1 av=> [(4,I.of (0:Int)),(8,I.of (s1))]) (fun s1 av=> []) (fun ax=>Sum.elim (fun ax=>Exit.exit 0) (fun ax=>Exit.ret) ax) (fun ax av=>Sum.elim (fun ax=> [(4,I.of (0:Int)),(8,I.of (ax.1)),(9,I.of (ax.2))]) (fun ax=> [(4,I.of (ax.1)),(5,I.of (ax.2.1)),(8,I.of (ax.2.2.1)),(9,I.of (ax.2.2.2.1)),(16,I.of (ax.2.2.2.2))]) ax) (fun ax av=>Sum.elim (fun ax=> []) (fun ax=> []) ax) () (fun s1 r h av=> ?_) fun av=> ?_
 ·clear ao
  refine aE ?_
  refine bs e1 ?_
  refine bY ?_
  refine cA h (fun h=>?_) fun h=>?_
  ·refine c4 ?_
   refine ai.seq ?_
   refine ai.block ?_
   refine aE ?_
   refine aC ?_
   refine aO ?_
   refine b5 ?_
   refine aC ?_
   refine aC ?_
   refine aC ?_
   obtain⟨bj,cQ,h⟩:=az h
   refine ik cQ Tryz.underlying38 cI ?_
   refine a4 (eh cI) ?_
   obtain⟨aB,bu,h⟩:=az h
   refine bp (Dh (ab rfl) (ab rfl) bu) ?_
   refine aM ?_
   refine cA h (fun h=>?_) fun h=>?_
   ·refine aE ?_
    refine aC ?_
    refine aO ?_
    refine aM ?_
    refine ai.ret ?_
    refine ae.dR ?_
    refine ae.ret ?_
    obtain rfl:=aK h
    exact eX () 0
   ·refine ai.skip ?_
    refine ae.eC ?_
    refine ae.next ?_
    refine ai.cE ?_
    refine bs dX ?_
    refine aC ?_
    refine ah.nil ?_
    obtain rfl:=aK h
    exact hD () 0
  ·refine ai.exit ?_
   refine ae.exit ?_
   obtain rfl:=aK h
   exact eX () 0
 ·clear ao
  rcases aF with aF | aF
  ·simp only [Sum.elim_inl] at h
   refine ae.gE ?_
   refine ae.next ?_
   refine aE ?_
   refine aO ?_
   refine aM ?_
   refine ai.ret ?_
   obtain rfl:=aK h
   exact c7
  ·simp only [Sum.elim_inr] at h
   refine ae.dR ?_
   refine ae.ret ?_
   obtain rfl:=aK h
   exact c7
theorem P4 {aa:List aw} {aj aT:Int} {gF:Option Nat} {dL:Nat} {r:List aw} (h:FA aa aj aT=some r):bO Tryz.prog 276 [I.eq (ba gF aa.length dL),I.of aj,I.of aT] [⟨gF,.row 52 aa dL⟩] (δ:=(Option Nat × Nat)) (fun d=>I.eq (ba d.1 r.length d.2)) (fun d=> [⟨d.1,.row 52 r d.2⟩]):=by
 unfold FA at h
 obtain⟨m,n,rfl,rfl,rP,aP,rfl⟩:=SK h
 refine bO.of Tryz.func276 rfl Tryz.ntmps276 rfl fun W A=> ?_
 refine ai.seq ?_
 refine ai.cE ?_
 refine ah.v (eH ub) rfl rfl rfl ?_
 refine ah.nil ?_
 refine ae.next ?_
 refine ai.seq ?_
 refine ai.cE ?_
 refine ah.v (ch (ab rfl)) rfl rfl rfl ?_
 refine ah.v (ch (ab rfl)) rfl rfl rfl ?_
 refine ah.v (ch (ab rfl)) rfl rfl rfl ?_
 refine ah.v (ch (ab rfl)) rfl rfl rfl ?_
 refine ah.v (ra (i:=0) (xs:=aa) Tryz.underlying38 (ab rfl) rfl rfl) rfl rfl rfl ?_
 refine ah.v (Ts (i:=0) (xs:=aa) Tryz.underlying38 cI (ab rfl) rfl (ab rfl) (ab rfl) (ab rfl) ⟨rP,aP,Nat.le_refl _⟩) rfl rfl rfl ?_
 refine ah.nil ?_
 refine ae.next ?_
 refine ai.seq ?_
 refine ai.seq ?_
 refine ai.cE ?_
 refine ah.v (ch (ab rfl)) rfl rfl rfl ?_
 refine ah.v (ch (ab rfl)) rfl rfl rfl ?_
 refine ah.v (gI (ab rfl) (ab rfl)) rfl rfl rfl ?_
 refine ah.nil ?_
 refine ae.next ?_
 refine ai.cond (ab rfl) (fun ak=> ?_) (fun ak=> ?_)
 ·have X9:m=n:=by simp only [beq_iff_eq] at ak; omega
  subst X9
  rw [List.take_append_drop]
  refine ai.seq ?_
  refine ai.cE ?_
  refine ah.v (ch (ab rfl)) rfl rfl rfl ?_
  refine ah.v (eH (ab rfl)) rfl rfl rfl ?_
  refine ah.nil ?_
  refine ae.next ?_
  refine ai.ret ?_
  exact ae.eW (gF,dL) (.cons_cons _ (List.nil_sublist _)) rfl rfl (dH rfl)
 have cb:m < n:=by simp only [beq_eq_false_iff_ne] at ak; omega
 refine ai.skip ?_
 refine ae.next ?_
 refine ai.some (i:=0) (xs:=aa) rfl (by omega) fun p hp s3 vq=> ?_
 subst hp
 refine ai.seq ?_
 refine ai.cE ?_
 refine ah.v (ch (ab rfl)) rfl rfl rfl ?_
 refine ah.v (ra (i:=0) (xs:=aa) Tryz.underlying38 (ab rfl) rfl rfl) rfl rfl rfl ?_
 refine ah.v (eH (ab rfl)) rfl rfl rfl ?_
 refine ah.nil ?_
 refine ae.next ?_
 have hlen:(aa.take m ++ aa.drop n ++ aa.drop (m + (aa.length - n))).length=aa.length:=by simp only [List.length_append,List.length_take,List.length_drop]; omega
 have xI:(aa.take m ++ aa.drop n).length=m + (aa.length - n):=by simp only [List.length_append,List.length_take,List.length_drop]; omega
 refine ai.seq ?_
 refine ai.le (E':= [(0,I.eq (ba (some p) aa.length dL)),(1,I.of (m:Int)),(2,I.of (n:Int)),(7,I.of (aa.length:Int))]) (.same rfl (.same rfl (.same rfl (.same rfl .nil)))) ?_
 refine ai.jZ mixed (⟨some 20,[],[],[],fun _=>I.eq (ba (some p) aa.length dL),fun _ _=>⟨none,.dead⟩⟩ :: ⟨some 21,[],[],[],fun _=>I.of (m:Int),fun _ _=>⟨none,.dead⟩⟩ :: ⟨some 22,(0 :: 1 :: []),(0 :: []),[],fun _=>I.eq (hi (some p) 0 (m - 0) dL (ag.size aw)),fun _ _=>⟨none,.dead⟩⟩ :: ⟨some 23,[],[],[],fun _=>I.eq (ba (some p) aa.length dL),fun _ _=>⟨none,.dead⟩⟩ :: ⟨some 24,[],[],[],fun _=>I.of (n:Int),fun _ _=>⟨none,.dead⟩⟩ :: ⟨some 25,(3 :: 4 :: []),(0 :: []),[],fun _=>I.eq (hi (some p) n (aa.length - n) dL (ag.size aw)),fun _ _=>⟨none,.dead⟩⟩ :: ⟨some 26,(0 :: 1 :: 2 :: 3 :: 4 :: 5 :: []),(0 :: []),(0 :: []),fun _=>I.eq (ba (some p) (m + (aa.length - n)) dL),fun _ _=>⟨some p,.row 52 (aa.take m ++ aa.drop n ++ aa.drop (m + (aa.length - n))) dL⟩⟩ :: ⟨some 0,(0 :: 1 :: 2 :: 3 :: 4 :: 5 :: 6 :: []),[],[],fun _=>I.eq (ba (some p) (m + (aa.length - n)) dL),fun _ _=>⟨none,.dead⟩⟩ :: []) _ (0 :: 1 :: 2 :: 7 :: []) rfl rfl (by kernel_rfl) ⟨?_,?_,?_,?_,?_,?_,?_,?_,trivial⟩ fun hd=> ?_
 ·exact hO rfl rfl rfl fun hd E' L' aD an=>ch (ab (aD _ _ rfl))
 ·exact hO rfl rfl rfl fun hd E' L' aD an=>ch (ab (aD _ _ rfl))
 ·exact hO rfl rfl rfl fun hd E' L' aD an=>Di (i:=0) (xs:=aa) Tryz.underlying38 cI (ab (aD _ _ rfl)) (an 0 _ rfl rfl) .none (.some (ab (aD _ _ rfl))) rfl rfl ⟨Nat.zero_le _,by omega⟩
 ·exact hO rfl rfl rfl fun hd E' L' aD an=>ch (ab (aD _ _ rfl))
 ·exact hO rfl rfl rfl fun hd E' L' aD an=>ch (ab (aD _ _ rfl))
 ·exact hO rfl rfl rfl fun hd E' L' aD an=>Di (i:=0) (xs:=aa) Tryz.underlying38 cI (ab (aD _ _ rfl)) (an 0 _ rfl rfl) (.some (ab (aD _ _ rfl))) .none rfl rfl ⟨aP,Nat.le_refl _⟩
 ·intro hd E' L' aD an
  have bG:=an 0 _ rfl rfl
  refine ah.UT (i:=0) (m:=m) (n:=n) (xs:=aa) Tryz.underlying38 cI (ab (aD _ _ rfl)) (ab (aD _ _ rfl)) bG cb aP rfl ?_
  refine ah.nil ?_
  exact ae.fin (eP []) rfl rfl
 ·exact hO rfl rfl rfl fun hd E' L' aD an=>eH (ab (aD _ _ rfl))
 refine ae.next ?_
 refine ai.seq ?_
 refine ai.cE ?_
 refine ah.v (ch (ab rfl)) rfl rfl rfl ?_
 refine ah.v (ch (ab rfl)) rfl rfl rfl ?_
 refine ah.v (UU Tryz.underlying38 (ab rfl)) rfl rfl rfl ?_
 refine ah.v (ch (ab rfl)) rfl rfl rfl ?_
 refine ah.v (qV (α:=aw) (m:=m + (aa.length - n)) (h:=aa.length) Tryz.underlying38 cI (ab rfl) (.some (ab rfl)) (.some (ab rfl)) rfl rfl ⟨by omega,s3⟩) rfl rfl rfl ?_
 refine ah.clear (i:=0) (lo:=m + (aa.length - n)) (n:=aa.length - (m + (aa.length - n))) (xs:=aa.take m ++ aa.drop n ++ aa.drop (m + (aa.length - n))) Tryz.underlying38 cI h3 rfl (ab rfl) rfl (by rw [hlen]; omega) rfl ?_
 refine ah.nil ?_
 refine ae.next ?_
 refine ai.seq ?_
 refine ai.cE ?_
 refine ah.v (ch (ab rfl)) rfl rfl rfl ?_
 refine ah.v (eH (ab rfl)) rfl rfl rfl ?_
 refine ah.nil ?_
 refine ae.next ?_
 refine ai.ret ?_
 have Of:(qa (aa.take m ++ aa.drop n ++ aa.drop (m + (aa.length - n))) (m + (aa.length - n)) (aa.length - (m + (aa.length - n)))).take (m + (aa.length - n))=aa.take m ++ aa.drop n:=by
  unfold qa
  rw [List.append_assoc,List.take_append_of_le_length (by rw [List.length_take,hlen]; omega),List.take_take,Nat.min_self,List.take_append_of_le_length (by rw [xI]; exact Nat.le_refl _),← xI,List.take_length]
 refine ae.again (.row 52 (aa.take m ++ aa.drop n) dL) 0 rfl (fun A W o h=> ?_) (fun h=> ?_) ?_
 ·have fM:=GF (n:=m + (aa.length - n)) (by unfold qa; simp only [List.length_append,List.length_take,List.length_replicate,List.length_drop,hlen]; omega) h
  rwa [Of] at fM
 ·exact⟨by rw [← Of,h.1]; simp,h.2⟩
 refine ae.eW ((some p,dL):Option Nat × Nat) (.cons_cons _ (List.nil_sublist _)) rfl ?_ (dH rfl)
 rw [xI]
theorem Re {hp:aN Cell} {aa:Ref} {r:Int} (h:yU hp aa=some r):bO Tryz.prog 43 [I.of (aa)] ([] ++ aV hp) (δ:=Unit) (fun _=>I.of (r)) (fun _=> [] ++ aV hp):=by
 unfold yU at h
 refine bO.of Tryz.func43 rfl Tryz.ntmps43 rfl fun W A=> ?_
 refine aE ?_
 refine aO ?_
 refine bY ?_
 refine aE ?_
 refine aC ?_
 refine bp (mo Tryz.underlying37 (ab rfl)) ?_
 refine aM ?_
 refine cA h (fun h=>?_) fun h=>?_
 ·refine aE ?_
  refine aO ?_
  refine aM ?_
  refine ai.ret ?_
  refine ae.ret ?_
  obtain rfl:=aK h
  exact ae.eW () (.refl _) rfl rfl (dH rfl)
 ·refine c4 ?_
  refine aE ?_
  refine aC ?_
  obtain⟨b6,c8,h⟩:=az h
  refine bp (dx (dZ (ab rfl) c8)) ?_
  refine a4 (aX wV) ?_
  obtain⟨bq,dM,h⟩:=az h
  refine bp (fi ((aQ.id gx).comp tD) (r:=bq.jl) uK (ab rfl) (ep (n:=0) rfl (lY dM) rfl) rfl rfl) ?_
  obtain⟨bZ,eY,h⟩:=az h
  obtain⟨cg,e4,h⟩:=az h
  refine bp (Uc Tryz.underlying133 (kD (ab rfl) eY) (ep (n:=0) rfl (o8 e4) rfl)) ?_
  refine aO ?_
  refine aM ?_
  refine ai.ret ?_
  obtain rfl:=aK h
  exact ae.eW () (.refl _) rfl rfl (dH rfl)
theorem Rf {hp:aN Cell} {aa:Ref} {aj:Vector aA 4} {aT:Int} {r:Bool × (aN Cell)} (h:CS hp aa aj aT=some r):bO Tryz.prog 233 [I.of (aa),I.of (aj),I.of (aT)] ([] ++ aV hp) (δ:=Unit) (fun d=>I.of (r.1)) (fun d=> [] ++ aV r.2):=by
 unfold CS at h
 refine bO.of Tryz.func233 rfl Tryz.ntmps233 rfl fun W A=> ?_
 refine aE ?_
 refine cz fun aW=> ?_
 refine aO ?_
 refine bY ?_
 refine aE ?_
 refine aC ?_
 refine bp (mo Tryz.underlying163 (ab rfl)) ?_
 refine aM ?_
 refine cA h (fun h=>?_) fun h=>?_
 ·refine aE ?_
  refine aO ?_
  refine aM ?_
  refine ai.ret ?_
  refine ae.ret ?_
  obtain rfl:=aK h
  exact ae.eW () (.cons _ (.refl _)) rfl rfl (dH rfl)
 ·refine c4 ?_
  refine ai.seq ?_
  refine ai.seq ?_
  obtain⟨b6,c8,h⟩:=az h
  obtain⟨bq,dM,h⟩:=az h
  obtain⟨bZ,eY,h⟩:=az h
  obtain⟨cg,e4,h⟩:=az h
  obtain⟨bL,dS,h⟩:=az h
  refine ai.draw mixed 10 [some 12,some 13,some 14,some 15,some 16,some 17,some 11,some 18,some 19,some 7] [[],[0],[1],[2],[],[3,4],[5],[6],[6],[7]] [.val _,.val _,.val _,.val _,.val _,.val _,.val _,.val _,.val _,.val _] [false,false,false,false,false,false,false,false,false,false] (by kernel_rfl) rfl rfl rfl (fun dk=>⟨dc,ed fun L' an=>dx (dZ (ab rfl) c8),H1 (aX Dp),ed fun L' an=>fi ((aQ.id mn).comp yx) (r:=bq.nQ) Af (ab rfl) (jJ (fun i e q=>an i e q rfl) (ep (n:=1) rfl (sH dM) rfl)) rfl rfl,gW 0 rA,ed fun L' an=>GD (r:=bL) Tryz.underlying222 DV j7 (kD (ab rfl) eY) (ab rfl) (jJ (fun i e q=>an i e q rfl) (ep (n:=1) rfl (p9 e4) rfl)) (aK dS),dc,xH,xH,JH,trivial⟩) fun dk=> ?_
  refine aO ?_
  refine b5 ?_
  refine aC ?_
  refine aM ?_
  refine cA h (fun h=>?_) fun h=>?_
  ·refine aE ?_
   refine aO ?_
   refine aM ?_
   refine ai.ret ?_
   refine ae.ret ?_
   obtain rfl:=aK h
   exact ae.eW () (.cons _ (.refl _)) rfl rfl (dH rfl)
  ·refine c4 ?_
   refine ai.seq ?_
   refine ai.draw mixed 6 [some 21,some 22,some 23,some 24,some 25,some 26] [[],[0],[1],[2],[],[]] [.val _,.val _,.val _,.val _,.val _,.val _] [false,false,false,false,false,false] (by kernel_rfl) rfl rfl rfl (fun mH=>⟨dc,ed fun L' an=>dx (dZ (ab rfl) c8),H1 (aX Dp),ed fun L' an=>fi ((aQ.id mn).comp yx) (r:=bq.nQ) Af (ab rfl) (jJ (fun i e q=>an i e q rfl) (ep (n:=1) rfl (sH dM) rfl)) rfl rfl,gW 0 rA,dc,trivial⟩) fun mH=> ?_
   obtain⟨cw,iG,h⟩:=az h
   refine ah.DT (k':=Cell.nf (fB cg aj aT)) 1 rfl (by first | exact .inl rfl | exact .inr rfl) Tryz.underlying222 DV (kD (ab rfl) eY) (ab rfl) (ab rfl) (p9 e4) rfl rfl rfl (aK iG) ?_
   refine b5 ?_
   refine aO ?_
   refine aM ?_
   refine ai.ret ?_
   obtain rfl:=aK h
   exact ae.eW () (.cons _ (.refl _)) rfl rfl (dH rfl)
theorem J7 {aa:c9} {aj:Int} {cv:Nat} {kG:Option Nat} {kH:Nat} {r:Int} (h:yo aa aj=some r):bO Tryz.prog 272 [I.eq (.pointer (some ⟨cv,0,none⟩)),I.of (aj)] [⟨some cv,.ca (({ aa with c2:= [] } :c9):c9) [(10,ba kG aa.c2.length kH)]⟩,⟨kG,.row 52 (aa.c2:List aw) kH⟩] (δ:=Unit) (fun d=>I.of (r)) (fun d=> [⟨some cv,.ca (({ aa with c2:= [] } :c9):c9) [(10,ba kG (aa.c2).length kH)]⟩,⟨kG,.row 52 (aa.c2:List aw) kH⟩]):=by
 unfold yo at h
 refine bO.of Tryz.func272 rfl Tryz.ntmps272 rfl fun W A=> ?_
 refine aE ?_
 refine cz fun aW=> ?_
 refine aO ?_
 refine bY ?_
 refine aE ?_
 refine aC ?_
 refine bp (Hn Tryz.underlying170 (ab rfl)) ?_
 refine aM ?_
 refine ai.Ae (ab rfl) rfl ?_
 refine c4 ?_
 refine aE ?_
 refine aC ?_
 refine a4 dx ?_
 refine a4 (aX uq) ?_
 refine bp (hW (i:=1) (q:=0) (β:=c9) (γ:=aw) mE (ab rfl) rfl rfl) ?_
 refine ah.share (α:=Int) 0 3 rfl rfl ?_
 refine bp (Hl (F:=(fun h7=>yn h7 aj)) (τs:= [I.ptr aj]) V5 ⟨ab rfl,trivial⟩ (fun _ _ h=>Qk h)) ?_
 obtain⟨aB,bu,h⟩:=az h
 refine bp (b4.Ya (α:=aw) 2 10 rfl rfl Dj (ly V6 (P3 bu) ⟨ab rfl,ab rfl,trivial⟩)) ?_
 refine aO ?_
 refine aM ?_
 refine ai.ret ?_
 refine ae.bU 2 rfl ?_
 refine ae.bU 2 rfl ?_
 obtain rfl:=aK h
 exact lJ ()
theorem Q6 {hp:aN Cell} {aa:jW} {aj:aw} {r:(aN Cell)} (h:yR hp aa aj=some r):bO Tryz.prog 229 [I.of (aa),I.of (aj)] ([] ++ aV hp) (δ:=Unit) (fun d=>I.eD []) (fun d=> [] ++ aV r):=by
 unfold yR at h
 refine bO.of Tryz.func229 rfl Tryz.ntmps229 rfl fun W A=> ?_
 refine aE ?_
 refine cz fun aW=> ?_
 refine cz fun a2=> ?_
 refine aM ?_
 obtain⟨aB,bu,h⟩:=az h
 refine ai.draw mixed 7 [some 4,some 5,some 6,some 7,some 8,some 9,some 10] [[],[0],[],[2],[3],[],[5]] [.val _,.val _,.val _,.val _,.val _,.val _,.val _] [false,false,false,false,false,false,false] (by kernel_rfl) rfl rfl rfl (fun dk=>⟨H1 (aX G0),ey 1 CI DW,H1 (aX lZ),ey 0 lr fP,fv DX (CX bu),H1 (aX nL),ey 0 mU bK,trivial⟩) fun dk=> ?_
 obtain⟨aH,cB,h⟩:=az h
 refine ah.h1 2 0 rfl V7 (Rf cB) rfl rfl ⟨ab rfl,ab rfl,ab rfl,trivial⟩ rfl fun ax=> ?_
 refine ah.eo (L2:=(⟨some a2,.var (aj:aw)⟩ :: ⟨some aW,.var (aa:jW)⟩ :: aV aH.2)) rfl ?_
 refine ah.nil ?_
 refine ae.nU ?_
 obtain rfl:=aK h
 exact ae.lA () (.cons _ (.cons _ (.refl _))) rfl rfl
theorem CV {aa:aA} {aj:aA} {r:Int} (h:qR aa aj=some r):bW Tryz.prog 145 [I.of (aa),I.of (aj)] (I.of (r)):=by
 unfold qR at h
 refine bW.of Tryz.func145 rfl Tryz.ntmps145 rfl fun W A=> ?_
 refine aE ?_
 refine cz fun aW=> ?_
 refine cz fun a2=> ?_
 refine aO ?_
 refine bY ?_
 obtain⟨aB,bu,h⟩:=az h
 obtain⟨aH,cB,h⟩:=az h
 refine ai.draw mixed 6 [some 8,some 9,some 10,some 11,some 5,some 6] [[],[0],[],[2],[],[]] [.val _,.val _,.val _,.val _,.new (.var (default:Vector Bool 128)),.new (.var (default:Vector Bool 128))] [false,false,false,false,false,false] (by kernel_rfl) rfl rfl rfl (fun dk=>⟨gW 1 b8,fv Ng (Kz bu),gW 0 b8,fv Ng (Kz cB),zw DS,zw DS,trivial⟩) fun dk=> ?_
 refine cY 0 Ad ?_
 refine cY 1 Ad ?_
 refine bY ?_
 refine aE ?_
 refine aO ?_
 refine aM ?_
 refine ai.block ?_
 obtain⟨aF,ao,h⟩:=az h
 refine h5 (γ:=Unit) (δ:=Unit) ao [0,1,2,3,5,6] (fun s1 av=> [(4,I.of (0:Int)),(7,I.of (s1))]) (fun s1 av=> []) (fun ax=>Sum.elim (fun ax=>Exit.exit 0) (fun ax=>Exit.ret) ax) (fun ax av=>Sum.elim (fun ax=> [(4,I.of (0:Int)),(7,I.of (ax.1)),(13,I.of (ax.2))]) (fun ax=> [(4,I.of (ax.1)),(7,I.of (ax.2.1)),(13,I.of (ax.2.2.1)),(22,I.of (ax.2.2.2.1)),(25,I.of (ax.2.2.2.2))]) ax) (fun ax av=>Sum.elim (fun ax=> []) (fun ax=> []) ax) () (fun s1 r h av=> ?_) fun av=> ?_
 ·clear ao
  refine ai.seq ?_
  refine aE ?_
  refine aC ?_
  refine bs mx ?_
  refine aM ?_
  refine cA h (fun h=>?_) fun h=>?_
  ·refine c4 ?_
   refine ai.seq ?_
   refine ai.block ?_
   refine ai.seq ?_
   obtain⟨bj,cQ,h⟩:=az h
   obtain⟨bI,cS,h⟩:=az h
   refine ai.draw mixed 7 [some 16,some 17,some 18,some 19,some 20,some 21,some 22] [[],[0],[1],[],[3],[4],[2,5]] [.val _,.val _,.val _,.val _,.val _,.val _,.val _] [false,false,false,false,false,false,false] (by kernel_rfl) rfl rfl rfl (fun mH=>⟨dc,ed fun L' an=>jH (k:=bj) Ac (ab rfl) (ab rfl) (da cQ),ey 0 ((aQ.id (Vector Bool 128)).comp (aQ.idx (α:=Bool) 128 bj (da cQ).1)) hE,dc,ed fun L' an=>jH (k:=bI) Ac (ab rfl) (ab rfl) (da cS),ey 1 ((aQ.id (Vector Bool 128)).comp (aQ.idx (α:=Bool) 128 bI (da cS).1)) hE,kc (HE Tryz.underlying4),trivial⟩) fun mH=> ?_
   refine aM ?_
   refine cA h (fun h=>?_) fun h=>?_
   ·refine ai.seq ?_
    refine aE ?_
    refine aC ?_
    obtain⟨dv,iI,h⟩:=az h
    refine bp (jH (k:=dv) Ac (ab rfl) (ab rfl) (da iI)) ?_
    refine ct 1 ((aQ.id (Vector Bool 128)).comp (aQ.idx (α:=Bool) 128 dv (da iI).1)) hE ?_
    refine aM ?_
    refine cA h (fun h=>?_) fun h=>?_
    ·refine aE ?_
     refine aO ?_
     refine aM ?_
     refine ai.ret ?_
     refine ae.ret ?_
     refine ae.dR ?_
     refine ae.ret ?_
     obtain rfl:=aK h
     exact eX () 0
    ·refine c4 ?_
     refine aE ?_
     refine aO ?_
     refine aM ?_
     refine ai.ret ?_
     refine ae.dR ?_
     refine ae.ret ?_
     obtain rfl:=aK h
     exact eX () 0
   ·refine ai.skip ?_
    refine ae.eC ?_
    refine ae.next ?_
    refine ai.cE ?_
    refine aC ?_
    refine bs iE ?_
    refine aO ?_
    refine ah.nil ?_
    obtain rfl:=aK h
    exact hD () 0
  ·refine ai.exit ?_
   refine ae.exit ?_
   obtain rfl:=aK h
   exact eX () 0
 ·clear ao
  rcases aF with aF | aF
  ·simp only [Sum.elim_inl] at h
   refine ae.gE ?_
   refine ae.next ?_
   refine aE ?_
   refine aO ?_
   refine aM ?_
   refine ai.ret ?_
   obtain rfl:=aK h
   exact c7
  ·simp only [Sum.elim_inr] at h
   refine ae.dR ?_
   refine ae.ret ?_
   obtain rfl:=aK h
   exact c7
theorem mW {aa:bf} {cv:Nat} {r:Bool × bf} (h:k3 aa=some r):bO Tryz.prog 55 [I.eq (.pointer (some ⟨cv,0,none⟩))] [⟨some cv,.var (aa:bf)⟩] (δ:=Unit) (fun d=>I.of (r.1)) (fun d=> [⟨some cv,.var (r.2:bf)⟩]):=by
 unfold k3 at h
 refine bO.of Tryz.func55 rfl Tryz.ntmps55 rfl fun W A=> ?_
 refine aE ?_
 refine aO ?_
 refine b5 ?_
 refine aC ?_
 refine ah.bU 0 rfl ?_
 obtain⟨aB,bu,h⟩:=az h
 refine eE 1 gh (fZ bu) fun ax=> ?_
 refine bs gI ?_
 refine aO ?_
 refine aM ?_
 refine ai.ret ?_
 refine ae.bU 0 rfl ?_
 obtain rfl:=aK h
 exact lJ ()
theorem QK {aa:bf} {cv:Nat} {r:(List dy) × bf} (h:yz aa=some r):bO Tryz.prog 68 [I.eq (.pointer (some ⟨cv,0,none⟩))] [⟨some cv,.var (aa:bf)⟩] (δ:=Unit) (fun d=>I.of (r.1)) (fun d=> [⟨some cv,.var (r.2:bf)⟩]):=by
 unfold yz at h
 refine bO.of Tryz.func68 rfl Tryz.ntmps68 rfl fun W A=> ?_
 refine aE ?_
 refine bp (eH (look_nil (α:=dy))) ?_
 refine b5 ?_
 refine hF ([0,0,65535,3]:List Int) Tryz.underlying63 bK j7 ?_
 refine aO ?_
 refine b5 ?_
 refine aC ?_
 refine aC ?_
 refine ah.bU 0 rfl ?_
 obtain⟨aB,bu,h⟩:=az h
 refine eE 1 gh (fZ bu) fun ax=> ?_
 obtain⟨bj,cQ,h⟩:=az h
 refine ik cQ Tryz.underlying63 bK ?_
 refine a4 (eh bK) ?_
 refine bp (p3 (b:=({ (default:dy) with bP:=1,hL:=1,mY:=4,gS:=aI ([0,0,65535,3]:List Int) bj } :dy)) [3] L8 rfl HF uL (.cons F2 rfl (bN 1) rfl (by rfl) (.cons FK rfl (bN 1) rfl (by rfl) (.cons J8 rfl (bN 4) rfl (by rfl) (.cons FG rfl (ab rfl) rfl (by rfl) (.nil)))))) ?_
 refine ah.own (α:=gm) 195 ?_
 refine ah.oy (z:=(default:dy)) [3] L8 uL rfl fun aW=> ?_
 refine ah.own (α:=gm) 195 ?_
 refine ah.q8 (i:=1) uM (ab rfl) (ab rfl) rfl ?_
 refine b5 ?_
 refine bp (cW (b:=({ (default:aA) with b2:=1#64 } :aA)) rfl hh eA (.cons eM rfl (fT 1 rfl) rfl (.nil))) ?_
 refine bp (cW (b:=({ (default:aA) with b2:=15#64 } :aA)) rfl hh eA (.cons eM rfl (fT 15 rfl) rfl (.nil))) ?_
 obtain⟨bL,dS,h⟩:=az h
 refine dD dS (cW (b:= { c6:=({ (default:aA) with b2:=1#64 } :aA),gU:=({ (default:aA) with b2:=15#64 } :aA),o9:=2:gm }) rfl DY sR (.cons CK rfl (ab rfl) rfl (.cons CP rfl (ab rfl) rfl (.cons CQ rfl (bN 2) rfl (.nil))))) ?_
 refine bp (cW (b:=({ (default:aA) with b2:=2#64 } :aA)) rfl hh eA (.cons eM rfl (fT 2 rfl) rfl (.nil))) ?_
 refine bp (cW (b:=({ (default:aA) with b2:=3#64 } :aA)) rfl hh eA (.cons eM rfl (fT 3 rfl) rfl (.nil))) ?_
 obtain⟨dF,hR,h⟩:=az h
 refine dD hR (cW (b:= { c6:=({ (default:aA) with b2:=2#64 } :aA),gU:=({ (default:aA) with b2:=3#64 } :aA),o9:=3:gm }) rfl DY sR (.cons CK rfl (ab rfl) rfl (.cons CP rfl (ab rfl) rfl (.cons CQ rfl (bN 3) rfl (.nil))))) ?_
 refine ah.qi (α:=gm) (r:= [bL,dF]) Tryz.underlying191 DZ sR rfl rfl (.cons (by simp) (ab rfl) (.cons (by simp) (ab rfl) (.nil))) rfl fun hN=> ?_
 refine a4 (aX Dr) ?_
 refine ah.jE (i:=2) (γ:=gm) (b':=(({ ({ (default:dy) with bP:=1,hL:=1,mY:=4,gS:=aI ([0,0,65535,3]:List Int) bj } :dy) with ov:= [] } :dy):dy)) (os':= [(3,ba hN [bL,dF].length 2)]) ((aQ.id dy).comp CA) Ag (ab rfl) (ab rfl) iD rfl rfl rfl rfl ?_
 refine bY ?_
 refine aE ?_
 refine aC ?_
 refine ah.bU 4 rfl ?_
 obtain⟨aH,cB,h⟩:=az h
 refine eE 1 ng (mW cB) fun et=> ?_
 refine aM ?_
 obtain⟨bB,cV,h⟩:=az h
 refine kr (γ:=(Option Nat × Nat)) [0,2,3,4,23] (fun av=> []) (fun av=> [(0,⟨some cv,.var (bB.1:bf)⟩),(1,⟨av.1,.row 195 (bB.2:List gm) av.2⟩),(3,⟨some aW,.ca (({ ({ (default:dy) with bP:=1,hL:=1,mY:=4,gS:=aI ([0,0,65535,3]:List Int) bj } :dy) with ov:= [] } :dy):dy) [(3,ba av.1 bB.2.length av.2)]⟩)]) (fun av=> ?_) (fun hm ak=> ?_) fun hm ak=> ?_
 ·clear cV
  refine ae.next ?_
  refine aE ?_
  refine aC ?_
  refine aC ?_
  refine ah.bU 0 rfl ?_
  obtain⟨bn,fF,h⟩:=az h
  refine eE 1 gh (fZ fF) fun cr=> ?_
  obtain⟨bI,cS,h⟩:=az h
  refine ik cS Tryz.underlying63 bK ?_
  refine a4 (eh bK) ?_
  obtain⟨gr,lL,h⟩:=az h
  refine dD lL (cW (b:=({ (default:dy) with bP:=2,hL:=2,gS:=aI ([0,0,65535,3]:List Int) bI } :dy)) rfl HF uL (.cons F2 rfl (bN 2) rfl (.cons FK rfl (bN 2) rfl (.cons FG rfl (ab rfl) rfl (.nil))))) ?_
  refine dJ uL fun a2=> ?_
  refine cY 0 uM ?_
  refine b5 ?_
  obtain⟨iq,nZ,h⟩:=az h
  refine dD nZ (cW (b:=({ (default:dy) with bP:=3,hL:=3,mY:=9,gS:=0 } :dy)) rfl HF uL (.cons F2 rfl (bN 3) rfl (.cons FK rfl (bN 3) rfl (.cons J8 rfl (bN 9) rfl (.cons FG rfl (bN 0) rfl (.nil)))))) ?_
  refine dJ uL fun bF=> ?_
  refine cY 0 uM ?_
  refine bY ?_
  refine aE ?_
  refine aC ?_
  refine ah.bU 2 rfl ?_
  obtain⟨bD,gL,h⟩:=az h
  refine eE 1 gh (fZ gL) fun mh=> ?_
  refine bs gI ?_
  refine aM ?_
  obtain⟨cL,en,h⟩:=az h
  refine kr (γ:=Unit) [0,2,3,4,5,6,23,50] (fun bm=> []) (fun bm=> [(0,⟨some cv,.var (cL.1:bf)⟩),(1,⟨some bF,.var (cL.2:dy)⟩)]) (fun bm=> ?_) (fun hm ak=> ?_) fun hm ak=> ?_
  ·clear en
   refine ae.next ?_
   refine aE ?_
   refine ah.lG (β:=dy) (γ:=gm) (b':=(({ ({ (default:dy) with bP:=1,hL:=1,mY:=4,gS:=aI ([0,0,65535,3]:List Int) bj } :dy) with ov:=bB.2 } :dy):dy)) ((aQ.id dy).comp CA) 5 3 0 rfl rfl rfl rfl rfl rfl ?_
   refine ah.oA 5 rfl ?_
   obtain⟨g5,n0,h⟩:=az h
   refine dD n0 (e9 (i:=5) (aQ.id dy) (r:=({ ({ (default:dy) with bP:=1,hL:=1,mY:=4,gS:=aI ([0,0,65535,3]:List Int) bj } :dy) with ov:=bB.2 } :dy)) uM (ab rfl) rfl rfl rfl) ?_
   refine cR 2 uM ?_
   refine cR 1 uM ?_
   refine hF [g5,gr,cL.2] Tryz.underlying26 uM uL ?_
   refine aO ?_
   refine aM ?_
   refine ai.ret ?_
   refine ae.bU 0 rfl ?_
   obtain rfl:=aK h
   exact lJ ()
  ·have h:=hY ak en
   refine ai.cE ?_
   refine bp (cW (b:=({ (default:aA) with b2:=5#64 } :aA)) rfl hh eA (.cons eM rfl (fT 5 rfl) rfl (.nil))) ?_
   refine bp (cW (b:=({ (default:aA) with b2:=15#64 } :aA)) rfl hh eA (.cons eM rfl (fT 15 rfl) rfl (.nil))) ?_
   refine aC ?_
   refine ah.bU 0 rfl ?_
   obtain⟨b0,hS,h⟩:=az h
   refine eE 1 gh (fZ hS) fun eu=> ?_
   refine bs dX ?_
   obtain⟨kd,rL,h⟩:=az h
   refine dD rL (cW (b:= { c6:=({ (default:aA) with b2:=5#64 } :aA),gU:=({ (default:aA) with b2:=15#64 } :aA),o9:=bA (1 + b0.1):gm }) rfl DY sR (.cons CK rfl (ab rfl) rfl (.cons CP rfl (ab rfl) rfl (.cons CQ rfl (ab rfl) rfl (.nil))))) ?_
   refine hF [kd] Tryz.underlying191 DZ sR ?_
   refine a4 (aX Dr) ?_
   refine vm 1 CA Ag ?_
   refine ah.nil ?_
   obtain rfl:=aK h
   exact dT 0 (hm ())
  ·have h:=hZ ak en
   refine ai.skip ?_
   obtain rfl:=aK h
   exact dT 0 (hm ())
 ·have h:=hY ak cV
  obtain⟨cl,il,h⟩:=az h
  obtain⟨jS,rM,h⟩:=az h
  obtain⟨bg,mG,h⟩:=az h
  obtain⟨dv,iI,h⟩:=az h
  obtain⟨hf,rN,h⟩:=az h
  obtain⟨fe,nY,h⟩:=az h
  refine j8 [0,2,3,4,7,8,9,10,11,12,13,14,15,16,17,18,19,20,21,22,23] ?_
  refine ai.jZ mixed (bk 24 [] [] _ :: bk 25 (0 :: []) (3 :: []) _ :: bk 26 [] [] _ :: ⟨some 27,(2 :: []),(0 :: []),(0 :: []),fun _=>I.of (cl.1),fun hd _=>⟨some cv,.var (cl.2:bf)⟩⟩ :: bk 28 (3 :: []) [] _ :: bk 29 (4 :: []) [] _ :: bk 30 (5 :: []) [] _ :: bk 31 [] [] _ :: bk 32 [] [] _ :: bk 33 [] [] _ :: ⟨some 34,(3 :: 9 :: []),(0 :: []),(0 :: []),fun _=>I.of (bg.1),fun hd _=>⟨some cv,.var (bg.2:bf)⟩⟩ :: bk 35 (8 :: 10 :: []) [] _ :: bk 36 (11 :: []) [] _ :: bk 37 (6 :: 7 :: 12 :: []) [] _ :: bk 38 (13 :: []) [] _ :: ⟨some 39,(1 :: 14 :: []),(1 :: []),(1 :: []),fun hd=>I.eq (ba (hd 15 0) fe.length ((hd 15 1).getD 0)),fun hd _=>⟨(hd 15 0),.row 195 (fe:List gm) ((hd 15 1).getD 0)⟩⟩ :: bk 40 [] [] _ :: ⟨none,(1 :: 15 :: 16 :: []),(3 :: []),(3 :: []),fun _=>I.any,fun hd _=>⟨some aW,.ca (({ ({ (default:dy) with bP:=1,hL:=1,mY:=4,gS:=aI ([0,0,65535,3]:List Int) bj } :dy) with ov:= [] } :dy):dy) [(3,ba (hd 15 0) fe.length ((hd 15 1).getD 0))]⟩⟩ :: []) _ (0 :: 2 :: 3 :: 4 :: 7 :: 8 :: 9 :: 10 :: 11 :: 12 :: 13 :: 14 :: 15 :: 16 :: 17 :: 18 :: 19 :: 20 :: 21 :: 22 :: 23 :: []) rfl rfl (by kernel_rfl) ⟨fx (aX Dr),cm fun hd E' L' aD an=>hW (i:=3) (q:=0) (β:=dy) (γ:=gm) Ag (ab (aD _ _ rfl)) (an 3 _ rfl rfl) rfl,fg,?_,tt V8,fx (ir Tryz.underlying3 Tryz.underlying41),cm fun hd E' L' aD an=>(cW (b:=({ (default:aA) with b2:=BitVec.ofInt 64 (bA (8 * cl.1)) } :aA)) rfl hh eA (.cons eM rfl (ab (aD _ _ rfl)) rfl (.nil))).as (aK rM),cm fun hd E' L' aD an=>cW (b:=({ (default:aA) with b2:=8#64 } :aA)) rfl hh eA (.cons eM rfl (fT 8 rfl) rfl (.nil)),fg,fg,?_,cm fun hd E' L' aD an=>ri (k:=dv) Tryz.underlying63 bK (ab (aD _ _ rfl)) (ab (aD _ _ rfl)) (da iI),fx (eh bK),cm fun hd E' L' aD an=>(cW (b:= { c6:=jS,gU:=({ (default:aA) with b2:=8#64 } :aA),o9:=aI ([0,0,65535,3]:List Int) dv:gm }) rfl DY sR (.cons CK rfl (ab (aD _ _ rfl)) rfl (.cons CP rfl (ab (aD _ _ rfl)) rfl (.cons CQ rfl (ab (aD _ _ rfl)) rfl (.nil))))).as (aK rN),cm fun hd E' L' aD an=>ig (r:= [hf]) Tryz.underlying191 DZ sR rfl rfl (.cons (by simp) (ab (aD _ _ rfl)) (.nil)),?_,fx (aX Dr),?_,trivial⟩ fun eZ=> ?_
  ·intro hd E' L' aD an
   refine ah.bU 0 (an 0 _ rfl rfl) ?_
   refine ah.l2 (Lin:= [⟨some cv,.var (aH.2:bf)⟩]) (Lr:=L'.eraseIdx 0) gh (fZ il) ⟨ab (aD _ _ rfl),bN 2,trivial⟩ rfl fun lk=> ?_
   refine ah.nil ?_
   refine ae.back 0 (an 0 _ rfl rfl) ?_
   exact ae.fin (eP []) rfl rfl
  ·intro hd E' L' aD an
   refine ah.bU 0 (an 0 _ rfl rfl) ?_
   refine ah.l2 (Lin:= [⟨some cv,.var (cl.2:bf)⟩]) (Lr:=L'.eraseIdx 0) gh (fZ mG) ⟨ab (aD _ _ rfl),bN 4,trivial⟩ rfl fun B2=> ?_
   refine ah.nil ?_
   refine ae.back 0 (an 0 _ rfl rfl) ?_
   exact ae.fin (eP []) rfl rfl
  ·intro hd E' L' aD an
   refine ah.app (i:=1) Tryz.underlying191 DZ sR (bytes:=40) (by kernel_rfl) (ab (aD _ _ rfl)) (an 1 _ rfl rfl) (ab (aD _ _ rfl)) nY rfl fun l7 fI=> ?_
   refine ah.nil ?_
   exact ae.fin (eP [l7,some fI]) rfl rfl
  ·intro hd E' L' aD an
   refine ah.jE (i:=3) (γ:=gm) (b':=(({ ({ (default:dy) with bP:=1,hL:=1,mY:=4,gS:=aI ([0,0,65535,3]:List Int) bj } :dy) with ov:= [] } :dy):dy)) (os':= [(3,ba (hd 15 0) fe.length ((hd 15 1).getD 0))]) ((aQ.id dy).comp CA) Ag (ab (aD _ _ rfl)) (ab (aD _ _ rfl)) iD (an 3 _ rfl rfl) rfl rfl rfl ?_
   refine ah.nil ?_
   exact ae.fin (eP []) rfl rfl
  refine ae.eo (L2:= [⟨some cv,.var (bg.2:bf)⟩,⟨(eZ 15 0),.row 195 (fe:List gm) ((eZ 15 1).getD 0)⟩,⟨none,.row 195 (([]:List gm):List gm) 0⟩,⟨some aW,.ca (({ ({ (default:dy) with bP:=1,hL:=1,mY:=4,gS:=aI ([0,0,65535,3]:List Int) bj } :dy) with ov:= [] } :dy):dy) [(3,ba (eZ 15 0) fe.length ((eZ 15 1).getD 0))]⟩,⟨none,.row 195 (([]:List gm):List gm) 0⟩]) rfl ?_
  refine kP [0,2,3,4,7,8,9,10,11,12,13,14,15,16,17,18,19,21,22,23,24,26,27,28,29,30,31,32,33,34,35,36,37,38,39,40] ?_
  obtain rfl:=aK h
  exact dT 0 (hm ((eZ 15 0),((eZ 15 1).getD 0)))
 ·have h:=hZ ak cV
  refine ai.skip ?_
  obtain rfl:=aK h
  exact dT 0 (hm (hN,2))
theorem QB {aa:bf} {cv:Nat} {r:(List dO) × bf} (h:yt aa=some r):bO Tryz.prog 69 [I.eq (.pointer (some ⟨cv,0,none⟩))] [⟨some cv,.var (aa:bf)⟩] (δ:=Unit) (fun d=>I.of (r.1)) (fun d=> [⟨some cv,.var (r.2:bf)⟩]):=by
 unfold yt at h
 refine bO.of Tryz.func69 rfl Tryz.ntmps69 rfl fun W A=> ?_
 refine aE ?_
 refine bp (eH (look_nil (α:=dO))) ?_
 refine b5 ?_
 refine hl D0 Ah ({ (default:fr) with dp:=3 } :fr) (iH Cy .nil) ?_
 refine dJ Ah fun aW=> ?_
 refine cY 0 D1 ?_
 refine bY ?_
 obtain⟨bL,dS,h⟩:=az h
 obtain⟨dF,hR,h⟩:=az h
 obtain⟨gr,lL,h⟩:=az h
 obtain⟨iq,nZ,h⟩:=az h
 obtain⟨g5,n0,h⟩:=az h
 obtain⟨kd,rL,h⟩:=az h
 obtain⟨jS,rM,h⟩:=az h
 obtain⟨hf,rN,h⟩:=az h
 obtain⟨ll,vp,h⟩:=az h
 obtain⟨kQ,u6,h⟩:=az h
 obtain⟨ks,u7,h⟩:=az h
 obtain⟨lM,va,h⟩:=az h
 obtain⟨kt,AM,h⟩:=az h
 obtain⟨aB,bu,h⟩:=az h
 obtain⟨kR,AN,h⟩:=az h
 obtain⟨aH,cB,h⟩:=az h
 obtain⟨n1,AO,h⟩:=az h
 obtain⟨oK,AP,h⟩:=az h
 obtain⟨mI,Ih,h⟩:=az h
 refine ai.qk 1 ?_
 refine j8 [0,2,3,5] ?_
 refine ai.jZ mixed (bk 6 [] [] _ :: bk 7 [] [] _ :: bk 8 (1 :: []) [] _ :: bk 9 (2 :: []) [] _ :: bk 10 [] [] _ :: bk 11 (4 :: []) [] _ :: bk 12 [] (0 :: []) _ :: bk 13 (6 :: []) [] _ :: bk 14 (7 :: []) [] _ :: bk 15 (5 :: 8 :: []) [] _ :: bk 16 [] [] _ :: bk 17 (10 :: []) [] _ :: bk 18 [] (0 :: []) _ :: bk 19 (12 :: []) [] _ :: bk 20 [] [] _ :: bk 21 (14 :: []) [] _ :: bk 22 (13 :: 15 :: []) [] _ :: bk 23 (11 :: 16 :: []) [] _ :: bk 24 [] [] _ :: bk 25 [] [] _ :: bk 26 (18 :: 19 :: []) [] _ :: bk 27 [] [] _ :: bk 28 [] (0 :: []) _ :: bk 29 (22 :: []) [] _ :: bk 30 [] [] _ :: bk 31 (24 :: []) [] _ :: bk 32 (21 :: 23 :: 25 :: []) [] _ :: bk 33 (20 :: 26 :: []) [] _ :: bk 34 [] [] _ :: ⟨some 35,(28 :: []),(1 :: []),(1 :: []),fun _=>I.of (aB.1),fun hd _=>⟨some cv,.var (aB.2:bf)⟩⟩ :: bk 36 (29 :: []) [] _ :: bk 37 (30 :: []) [] _ :: bk 38 [] [] _ :: ⟨some 39,(29 :: 32 :: []),(1 :: []),(1 :: []),fun _=>I.of (aH.1),fun hd _=>⟨some cv,.var (aH.2:bf)⟩⟩ :: bk 40 (33 :: []) [] _ :: bk 41 (34 :: []) [] _ :: bk 42 (35 :: []) [] _ :: bk 43 (36 :: []) [] _ :: bk 44 (31 :: 37 :: []) [] _ :: bk 45 (38 :: []) [] _ :: ⟨some 46,(0 :: 3 :: 9 :: 17 :: 27 :: 39 :: []),(2 :: []),(2 :: []),fun hd=>I.eq (ba (hd 40 0) [bL,dF,g5,hf,kt,mI].length 6),fun hd _=>⟨(hd 40 0),.row 148 ([bL,dF,g5,hf,kt,mI]:List dO) 6⟩⟩ :: ⟨some 4,(40 :: []),[],[],fun hd=>I.eq (ba (hd 40 0) [bL,dF,g5,hf,kt,mI].length 6),fun _ _=>⟨none,.dead⟩⟩ :: []) _ (0 :: 2 :: 3 :: 5 :: []) rfl rfl (by kernel_rfl) ⟨cm fun hd E' L' aD an=>(cW (b:=({ (default:dO) with bP:=1,cc:=ByteArray.mk #[110,111,112] } :dO)) rfl uJ qd (.cons tK rfl (bN 1) rfl (.cons wb rfl (dA (ByteArray.mk #[110,111,112])) rfl (.nil)))).as (aK dS),cm fun hd E' L' aD an=>cW (b:=({ (default:eR) with hP:=6 } :eR)) rfl rk m8 (.cons qQ rfl (bN 6) rfl (.nil)),cm fun hd E' L' aD an=>ig (r:= [({ (default:eR) with hP:=6 } :eR)]) Tryz.underlying146 Ai m8 rfl rfl (.cons (by simp) (ab (aD _ _ rfl)) (.nil)),cm fun hd E' L' aD an=>(cW (b:=({ (default:dO) with bP:=2,cc:=ByteArray.mk #[100,114,111,112],nM:= [({ (default:eR) with hP:=6 } :eR)] } :dO)) rfl uJ qd (.cons tK rfl (bN 2) rfl (.cons wb rfl (dA (ByteArray.mk #[100,114,111,112])) rfl (.cons yA rfl (ab (aD _ _ rfl)) rfl (.nil))))).as (aK hR),cm fun hd E' L' aD an=>(cW (b:= { cc:=ByteArray.mk #[112,111,114,116],ff:=16:ic }) rfl D2 sQ (.cons CL rfl (dA (ByteArray.mk #[112,111,114,116])) rfl (.cons yJ rfl (bN 16) rfl (.nil)))).as (aK lL),cm fun hd E' L' aD an=>ig (r:= [gr]) Tryz.underlying145 xf sQ rfl rfl (.cons (by simp) (ab (aD _ _ rfl)) (.nil)),pz 0 D1,cm fun hd E' L' aD an=>(cW (b:=({ (default:eR) with hP:=7,kn:=({ (default:fr) with dp:=3 } :fr) } :eR)) rfl rk m8 (.cons qQ rfl (bN 7) rfl (.cons wo rfl (ab (aD _ _ rfl)) rfl (.nil)))).as (aK nZ),cm fun hd E' L' aD an=>ig (r:= [iq]) Tryz.underlying146 Ai m8 rfl rfl (.cons (by simp) (ab (aD _ _ rfl)) (.nil)),cm fun hd E' L' aD an=>(cW (b:=({ (default:dO) with bP:=3,cc:=ByteArray.mk #[102,111,114,119,97,114,100],jX:= [gr],nM:= [iq] } :dO)) rfl uJ qd (.cons tK rfl (bN 3) rfl (.cons wb rfl (dA (ByteArray.mk #[102,111,114,119,97,114,100])) rfl (.cons Ct rfl (ab (aD _ _ rfl)) rfl (.cons yA rfl (ab (aD _ _ rfl)) rfl (.nil)))))).as (aK n0),cm fun hd E' L' aD an=>cW (b:= { cc:=ByteArray.mk #[120],ff:=4:ic }) rfl D2 sQ (.cons CL rfl (dA (ByteArray.mk #[120])) rfl (.cons yJ rfl (bN 4) rfl (.nil))),cm fun hd E' L' aD an=>ig (r:= [{ cc:=ByteArray.mk #[120],ff:=4:ic }]) Tryz.underlying145 xf sQ rfl rfl (.cons (by simp) (ab (aD _ _ rfl)) (.nil)),pz 0 D1,cm fun hd E' L' aD an=>(cW (b:= { hP:=1,jo:=5,kn:=({ (default:fr) with dp:=3 } :fr):eR }) rfl rk m8 (.cons qQ rfl (bN 1) rfl (.cons tL rfl (bN 5) rfl (.cons wo rfl (ab (aD _ _ rfl)) rfl (.nil))))).as (aK rL),cm fun hd E' L' aD an=>(cW (b:=({ (default:fr) with dp:=2,vr:=5 } :fr)) rfl D0 Ah (.cons Cy rfl (bN 2) rfl (.cons Ke rfl (bN 5) rfl (.nil)))).as (aK rM),cm fun hd E' L' aD an=>cW (b:= { hP:=2,jo:=3,kn:=jS:eR }) rfl rk m8 (.cons qQ rfl (bN 2) rfl (.cons tL rfl (bN 3) rfl (.cons wo rfl (ab (aD _ _ rfl)) rfl (.nil)))),cm fun hd E' L' aD an=>ig (r:= [kd,{ hP:=2,jo:=3,kn:=jS:eR }]) Tryz.underlying146 Ai m8 rfl rfl (.cons (by simp) (ab (aD _ _ rfl)) (.cons (by simp) (ab (aD _ _ rfl)) (.nil))),cm fun hd E' L' aD an=>(cW (b:=({ (default:dO) with bP:=4,cc:=ByteArray.mk #[116,97,103],jX:= [{ cc:=ByteArray.mk #[120],ff:=4:ic }],nM:= [kd,{ hP:=2,jo:=3,kn:=jS:eR }] } :dO)) rfl uJ qd (.cons tK rfl (bN 4) rfl (.cons wb rfl (dA (ByteArray.mk #[116,97,103])) rfl (.cons Ct rfl (ab (aD _ _ rfl)) rfl (.cons yA rfl (ab (aD _ _ rfl)) rfl (.nil)))))).as (aK rN),cm fun hd E' L' aD an=>cW (b:= { cc:=ByteArray.mk #[120],ff:=4:ic }) rfl D2 sQ (.cons CL rfl (dA (ByteArray.mk #[120])) rfl (.cons yJ rfl (bN 4) rfl (.nil))),cm fun hd E' L' aD an=>cW (b:= { cc:=ByteArray.mk #[121],ff:=12:ic }) rfl D2 sQ (.cons CL rfl (dA (ByteArray.mk #[121])) rfl (.cons yJ rfl (bN 12) rfl (.nil))),cm fun hd E' L' aD an=>(ig (r:= [{ cc:=ByteArray.mk #[120],ff:=4:ic },{ cc:=ByteArray.mk #[121],ff:=12:ic }]) Tryz.underlying145 xf sQ rfl rfl (.cons (by simp) (ab (aD _ _ rfl)) (.cons (by simp) (ab (aD _ _ rfl)) (.nil)))).as (aK vp),cm fun hd E' L' aD an=>cW (b:=({ (default:eR) with hP:=4,jo:=3 } :eR)) rfl rk m8 (.cons qQ rfl (bN 4) rfl (.cons tL rfl (bN 3) rfl (.nil))),pz 0 D1,cm fun hd E' L' aD an=>(cW (b:= { hP:=1,jo:=9,kn:=({ (default:fr) with dp:=3 } :fr):eR }) rfl rk m8 (.cons qQ rfl (bN 1) rfl (.cons tL rfl (bN 9) rfl (.cons wo rfl (ab (aD _ _ rfl)) rfl (.nil))))).as (aK u6),cm fun hd E' L' aD an=>(cW (b:=({ (default:fr) with dp:=3,vr:=1 } :fr)) rfl D0 Ah (.cons Cy rfl (bN 3) rfl (.cons Ke rfl (bN 1) rfl (.nil)))).as (aK u7),cm fun hd E' L' aD an=>cW (b:= { hP:=3,jo:=8,kn:=ks:eR }) rfl rk m8 (.cons qQ rfl (bN 3) rfl (.cons tL rfl (bN 8) rfl (.cons wo rfl (ab (aD _ _ rfl)) rfl (.nil)))),cm fun hd E' L' aD an=>(ig (r:= [({ (default:eR) with hP:=4,jo:=3 } :eR),kQ,{ hP:=3,jo:=8,kn:=ks:eR }]) Tryz.underlying146 Ai m8 rfl rfl (.cons (by simp) (ab (aD _ _ rfl)) (.cons (by simp) (ab (aD _ _ rfl)) (.cons (by simp) (ab (aD _ _ rfl)) (.nil))))).as (aK va),cm fun hd E' L' aD an=>(cW (b:=({ (default:dO) with bP:=5,cc:=ByteArray.mk #[119,114,97,112],jX:=ll,nM:=lM } :dO)) rfl uJ qd (.cons tK rfl (bN 5) rfl (.cons wb rfl (dA (ByteArray.mk #[119,114,97,112])) rfl (.cons Ct rfl (ab (aD _ _ rfl)) rfl (.cons yA rfl (ab (aD _ _ rfl)) rfl (.nil)))))).as (aK AM),fg,?_,tt dX,cm fun hd E' L' aD an=>(cW (b:=({ (default:eR) with hP:=5,jo:=bA (2 + aB.1) } :eR)) rfl rk m8 (.cons qQ rfl (bN 5) rfl (.cons tL rfl (ab (aD _ _ rfl)) rfl (.nil)))).as (aK AN),fg,?_,fx (ir Tryz.underlying3 Tryz.underlying41),cm fun hd E' L' aD an=>(cW (b:=({ (default:aA) with b2:=BitVec.ofInt 64 aH.1 } :aA)) rfl hh eA (.cons eM rfl (ab (aD _ _ rfl)) rfl (.nil))).as (aK AO),cm fun hd E' L' aD an=>(cW (b:=({ (default:fr) with dp:=1,c6:=n1 } :fr)) rfl D0 Ah (.cons Cy rfl (bN 1) rfl (.cons Qq rfl (ab (aD _ _ rfl)) rfl (.nil)))).as (aK AP),cm fun hd E' L' aD an=>cW (b:= { hP:=2,jo:=6,kn:=oK:eR }) rfl rk m8 (.cons qQ rfl (bN 2) rfl (.cons tL rfl (bN 6) rfl (.cons wo rfl (ab (aD _ _ rfl)) rfl (.nil)))),cm fun hd E' L' aD an=>ig (r:= [kR,{ hP:=2,jo:=6,kn:=oK:eR }]) Tryz.underlying146 Ai m8 rfl rfl (.cons (by simp) (ab (aD _ _ rfl)) (.cons (by simp) (ab (aD _ _ rfl)) (.nil))),cm fun hd E' L' aD an=>(cW (b:=({ (default:dO) with bP:=6,cc:=ByteArray.mk #[115,116,114,105,112],nM:= [kR,{ hP:=2,jo:=6,kn:=oK:eR }] } :dO)) rfl uJ qd (.cons tK rfl (bN 6) rfl (.cons wb rfl (dA (ByteArray.mk #[115,116,114,105,112])) rfl (.cons yA rfl (ab (aD _ _ rfl)) rfl (.nil))))).as (aK Ih),?_,?_,trivial⟩ fun eZ=> ?_
 ·intro hd E' L' aD an
  refine ah.bU 1 (an 1 _ rfl rfl) ?_
  refine ah.l2 (Lin:= [⟨some cv,.var (aa:bf)⟩]) (Lr:=L'.eraseIdx 1) gh (fZ bu) ⟨ab (aD _ _ rfl),bN 2,trivial⟩ rfl fun ax=> ?_
  refine ah.nil ?_
  refine ae.back 1 (an 1 _ rfl rfl) ?_
  exact ae.fin (eP []) rfl rfl
 ·intro hd E' L' aD an
  refine ah.bU 1 (an 1 _ rfl rfl) ?_
  refine ah.l2 (Lin:= [⟨some cv,.var (aB.2:bf)⟩]) (Lr:=L'.eraseIdx 1) gh (fZ cB) ⟨ab (aD _ _ rfl),bN 256,trivial⟩ rfl fun et=> ?_
  refine ah.nil ?_
  refine ae.back 1 (an 1 _ rfl rfl) ?_
  exact ae.fin (eP []) rfl rfl
 ·intro hd E' L' aD an
  refine ah.qi (α:=dO) (r:= [bL,dF,g5,hf,kt,mI]) Tryz.underlying27 pb qd rfl rfl (.cons (by simp) (ab (aD _ _ rfl)) (.cons (by simp) (ab (aD _ _ rfl)) (.cons (by simp) (ab (aD _ _ rfl)) (.cons (by simp) (ab (aD _ _ rfl)) (.cons (by simp) (ab (aD _ _ rfl)) (.cons (by simp) (ab (aD _ _ rfl)) (.nil))))))) rfl fun hN=> ?_
  refine ah.nil ?_
  refine ae.place 2 (an 2 _ rfl rfl) ?_
  exact ae.fin (eP [hN]) rfl rfl
 ·intro hd E' L' aD an
  refine bp (eH (ab (aD _ _ rfl))) ?_
  refine ah.nil ?_
  exact ae.fin (eP []) rfl rfl
 refine ae.eo (L2:= [⟨some aW,.var (({ (default:fr) with dp:=3 } :fr):fr)⟩,⟨some cv,.var (aH.2:bf)⟩,⟨(eZ 40 0),.row 148 ([bL,dF,g5,hf,kt,mI]:List dO) 6⟩]) rfl ?_
 refine kP [0,2,3,4,5,6,7,8,9,10,11,12,13,14,15,16,17,18,19,20,21,22,23,24,25,26,27,28,29,30,31,32,33,34,35,36,37,38,39,40,41,42,43,44,45,46] ?_
 refine ae.bU 2 rfl ?_
 refine ae.next ?_
 refine ai.seq ?_
 refine aE ?_
 refine aC ?_
 refine ah.bU 2 rfl ?_
 obtain⟨bn,fF,h⟩:=az h
 refine eE 1 ng (mW fF) fun cr=> ?_
 refine aM ?_
 obtain⟨bB,cV,h⟩:=az h
 refine kr (γ:=(Option Nat × Nat)) [0,2,3,48] (fun av=> [(4,I.eq (ba av.1 bB.length av.2))]) (fun av=> [(1,⟨av.1,.row 148 (bB:List dO) av.2⟩)]) (fun av=> ?_) (fun hm ak=> ?_) fun hm ak=> ?_
 ·clear cV
  refine ae.next ?_
  refine ai.seq ?_
  refine aE ?_
  refine aC ?_
  refine ah.bU 0 rfl ?_
  obtain⟨bD,gL,h⟩:=az h
  refine eE 1 ng (mW gL) fun mh=> ?_
  refine aM ?_
  obtain⟨cL,en,h⟩:=az h
  refine kr (γ:=(Option Nat × Nat)) [0,2,3,48,53] (fun bm=> [(4,I.eq (ba bm.1 cL.length bm.2))]) (fun bm=> [(1,⟨bm.1,.row 148 (cL:List dO) bm.2⟩)]) (fun bm=> ?_) (fun hm ak=> ?_) fun hm ak=> ?_
  ·clear en
   refine ae.next ?_
   refine aE ?_
   refine aC ?_
   refine aO ?_
   refine aM ?_
   refine ai.ret ?_
   refine ae.m3 (α:=dO) 1 [2,4,57] ⟨rfl,rfl,rfl,trivial⟩ rfl ?_
   refine ae.bU 0 rfl ?_
   obtain rfl:=aK h
   exact lJ ()
  ·have h:=hY ak en
   refine ai.cE ?_
   refine aC ?_
   obtain⟨bj,cQ,h⟩:=az h
   refine bp (lB (i:=1) (k:=bj) (xs:=(bB:List dO)) Tryz.underlying27 pb (ab rfl) (bN 4) rfl (da cQ)) ?_
   refine a4 (aX L9) ?_
   obtain⟨rQ,AQ,h⟩:=az h
   refine ah.ux (i:=1) (k:=bj) ((aQ.id dO).comp J5) (v:=(ByteArray.mk #[120,32,60,32,121,32,124,124,32,120,32,61,61,32,49,53]:ByteArray)) (r:=(rQ:List dO)) pA (ab rfl) (dA (ByteArray.mk #[120,32,60,32,121,32,124,124,32,120,32,61,61,32,49,53])) rfl (da cQ).1 rfl (aK AQ) ?_
   refine ah.hM (m:=rQ.length) 4 rfl (jC (aK AQ)) ?_
   refine ah.hM (m:=rQ.length) 54 rfl (jC (aK AQ)) ?_
   refine ah.nil ?_
   obtain rfl:=aK h
   exact dT 0 (hm (av.1,av.2))
  ·have h:=hZ ak en
   refine ai.skip ?_
   obtain rfl:=aK h
   exact dT 0 (hm (av.1,av.2))
 ·have h:=hY ak cV
  refine ai.cE ?_
  refine aC ?_
  obtain⟨bI,cS,h⟩:=az h
  refine bp (lB (i:=1) (k:=bI) (xs:=([bL,dF,g5,hf,kt,mI]:List dO)) Tryz.underlying27 pb (ab rfl) (bN 2) rfl (da cS)) ?_
  refine a4 (aX L9) ?_
  obtain⟨qo,xt,h⟩:=az h
  refine ah.ux (i:=1) (k:=bI) ((aQ.id dO).comp J5) (v:=(ByteArray.mk #[112,111,114,116,32,33,61,32,48]:ByteArray)) (r:=(qo:List dO)) pA (ab rfl) (dA (ByteArray.mk #[112,111,114,116,32,33,61,32,48])) rfl (da cS).1 rfl (aK xt) ?_
  refine ah.hM (m:=qo.length) 4 rfl (jC (aK xt)) ?_
  refine ah.hM (m:=qo.length) 46 rfl (jC (aK xt)) ?_
  refine ah.hM (m:=qo.length) 49 rfl (jC (aK xt)) ?_
  refine ah.nil ?_
  obtain rfl:=aK h
  exact dT 0 (hm ((eZ 40 0),6))
 ·have h:=hZ ak cV
  refine ai.skip ?_
  obtain rfl:=aK h
  exact dT 0 (hm ((eZ 40 0),6))
theorem QL {aa:bf} {cv:Nat} {r:(List bQ) × bf} (h:yB aa=some r):bO Tryz.prog 70 [I.eq (.pointer (some ⟨cv,0,none⟩))] [⟨some cv,.var (aa:bf)⟩] (δ:=Unit) (fun d=>I.of (r.1)) (fun d=> [⟨some cv,.var (r.2:bf)⟩]):=by
 unfold yB at h
 refine bO.of Tryz.func70 rfl Tryz.ntmps70 rfl fun W A=> ?_
 refine aE ?_
 refine bp (eH (look_nil (α:=bQ))) ?_
 refine b5 ?_
 obtain⟨bL,dS,h⟩:=az h
 refine dD dS (cW (b:= { cc:=ByteArray.mk #[97],gC:=4,dp:=1:cM }) rfl rB j2 (.cons qP rfl (dA (ByteArray.mk #[97])) rfl (.cons o1 rfl (bN 4) rfl (.cons mX rfl (bN 1) rfl (.nil))))) ?_
 refine hF [bL] Tryz.underlying62 ko j2 ?_
 refine hF ([1,2,4]:List Int) Tryz.underlying63 bK j7 ?_
 refine aC ?_
 refine ah.bU 0 rfl ?_
 obtain⟨aB,bu,h⟩:=az h
 refine eE 1 gh (fZ bu) fun ax=> ?_
 refine bs dX ?_
 refine aC ?_
 refine ah.bU 0 rfl ?_
 obtain⟨aH,cB,h⟩:=az h
 refine eE 1 gh (fZ cB) fun et=> ?_
 refine bs dX ?_
 obtain⟨dF,hR,h⟩:=az h
 refine dD hR (cW (b:=({ (default:bQ) with bP:=1,cc:=ByteArray.mk #[112,111,114,116,115],cO:= [bL],dP:=([1,2,4]:List Int),gS:=bA (1 + aB.1),gD:=bA (2 + aH.1) } :bQ)) rfl AR l8 (.cons nF rfl (bN 1) rfl (.cons CM rfl (dA (ByteArray.mk #[112,111,114,116,115])) rfl (.cons kC rfl (ab rfl) rfl (.cons v9 rfl (ab rfl) rfl (.cons Cv rfl (ab rfl) rfl (.cons yK rfl (ab rfl) rfl (.nil)))))))) ?_
 refine dJ l8 fun aW=> ?_
 refine cY 0 gJ ?_
 refine b5 ?_
 obtain⟨gr,lL,h⟩:=az h
 refine dD lL (cW (b:= { cc:=ByteArray.mk #[100],gC:=7,dp:=2:cM }) rfl rB j2 (.cons qP rfl (dA (ByteArray.mk #[100])) rfl (.cons o1 rfl (bN 7) rfl (.cons mX rfl (bN 2) rfl (.nil))))) ?_
 refine ah.qi (α:=cM) (r:= [gr]) Tryz.underlying62 ko j2 rfl rfl (.cons (by simp) (ab rfl) (.nil)) rfl fun hN=> ?_
 refine hF ([1,2,3,4]:List Int) Tryz.underlying63 bK j7 ?_
 refine aC ?_
 refine ah.bU 2 rfl ?_
 obtain⟨bn,fF,h⟩:=az h
 refine eE 1 gh (fZ fF) fun cr=> ?_
 refine bs dX ?_
 refine bp (p3 (b:=({ (default:bQ) with bP:=2,cc:=ByteArray.mk #[114,111,117,116,101,115],dP:=([1,2,3,4]:List Int),gS:=2,gD:=bA (3 + bn.1) } :bQ)) [] Ho rfl AR l8 (.cons nF rfl (bN 2) rfl (by rfl) (.cons CM rfl (dA (ByteArray.mk #[114,111,117,116,101,115])) rfl (by rfl) (.hole kC rfl (ab rfl) iD rfl rfl (.cons v9 rfl (ab rfl) rfl (by rfl) (.cons Cv rfl (bN 2) rfl (by rfl) (.cons yK rfl (ab rfl) rfl (by rfl) (.nil)))))))) ?_
 refine ah.oy (z:=(default:bQ)) [2] Hp l8 rfl fun a2=> ?_
 refine ah.own (α:=cM) 86 ?_
 refine ah.q8 (i:=1) gJ (ab rfl) (ab rfl) rfl ?_
 refine bY ?_
 refine aE ?_
 refine aC ?_
 refine ah.bU 2 rfl ?_
 obtain⟨bD,gL,h⟩:=az h
 refine eE 1 ng (mW gL) fun mh=> ?_
 refine aM ?_
 obtain⟨bB,cV,h⟩:=az h
 refine kr (γ:=(Option Nat × Nat)) [0,2,3,4,28] (fun av=> []) (fun av=> [(2,⟨some a2,.ca (bB.1:bQ) [(2,ba av.1 bB.2.length av.2)]⟩),(3,⟨av.1,.row 86 (bB.2:List cM) av.2⟩)]) (fun av=> ?_) (fun hm ak=> ?_) fun hm ak=> ?_
 ·clear cV
  refine ae.next ?_
  refine aE ?_
  obtain⟨iq,nZ,h⟩:=az h
  refine dD nZ (cW (b:= { cc:=ByteArray.mk #[101],gC:=6,dp:=3:cM }) rfl rB j2 (.cons qP rfl (dA (ByteArray.mk #[101])) rfl (.cons o1 rfl (bN 6) rfl (.cons mX rfl (bN 3) rfl (.nil))))) ?_
  obtain⟨g5,n0,h⟩:=az h
  refine dD n0 (cW (b:= { cc:=ByteArray.mk #[97],gC:=4,dp:=3:cM }) rfl rB j2 (.cons qP rfl (dA (ByteArray.mk #[97])) rfl (.cons o1 rfl (bN 4) rfl (.cons mX rfl (bN 3) rfl (.nil))))) ?_
  refine ah.qi (α:=cM) (r:= [iq,g5]) Tryz.underlying62 ko j2 rfl rfl (.cons (by simp) (ab rfl) (.cons (by simp) (ab rfl) (.nil))) rfl fun l7=> ?_
  refine hF ([1,2,3,5,6]:List Int) Tryz.underlying63 bK j7 ?_
  refine aC ?_
  refine ah.bU 1 rfl ?_
  obtain⟨b0,hS,h⟩:=az h
  refine eE 1 gh (fZ hS) fun eu=> ?_
  refine bs dX ?_
  refine bp (p3 (b:=({ (default:bQ) with bP:=3,cc:=ByteArray.mk #[97,99,108],dP:=([1,2,3,5,6]:List Int),gS:=1,gD:=bA (4 + b0.1) } :bQ)) [] Ho rfl AR l8 (.cons nF rfl (bN 3) rfl (by rfl) (.cons CM rfl (dA (ByteArray.mk #[97,99,108])) rfl (by rfl) (.hole kC rfl (ab rfl) iD rfl rfl (.cons v9 rfl (ab rfl) rfl (by rfl) (.cons Cv rfl (bN 1) rfl (by rfl) (.cons yK rfl (ab rfl) rfl (by rfl) (.nil)))))))) ?_
  refine ah.oy (z:=(default:bQ)) [2] Hp l8 rfl fun bF=> ?_
  refine ah.own (α:=cM) 86 ?_
  refine ah.q8 (i:=1) gJ (ab rfl) (ab rfl) rfl ?_
  refine bY ?_
  refine aE ?_
  refine aC ?_
  refine ah.bU 2 rfl ?_
  obtain⟨cl,il,h⟩:=az h
  refine eE 1 ng (mW il) fun lk=> ?_
  refine aM ?_
  obtain⟨cL,en,h⟩:=az h
  refine kr (γ:=(Option Nat × Nat)) [0,2,3,4,5,28,44] (fun bm=> []) (fun bm=> [(2,⟨some bF,.ca (cL.1:bQ) [(2,ba bm.1 cL.2.length bm.2)]⟩),(3,⟨bm.1,.row 86 (cL.2:List cM) bm.2⟩)]) (fun bm=> ?_) (fun hm ak=> ?_) fun hm ak=> ?_
  ·clear en
   refine ae.next ?_
   refine aE ?_
   obtain⟨kd,rL,h⟩:=az h
   refine dD rL (cW (b:= { cc:=ByteArray.mk #[102],gC:=8,dp:=4:cM }) rfl rB j2 (.cons qP rfl (dA (ByteArray.mk #[102])) rfl (.cons o1 rfl (bN 8) rfl (.cons mX rfl (bN 4) rfl (.nil))))) ?_
   refine ah.qi (α:=cM) (r:= [kd]) Tryz.underlying62 ko j2 rfl rfl (.cons (by simp) (ab rfl) (.nil)) rfl fun nV=> ?_
   refine hF ([1,3,5]:List Int) Tryz.underlying63 bK j7 ?_
   refine bp (cW (b:=({ (default:aA) with b2:=7#64 } :aA)) rfl hh eA (.cons eM rfl (fT 7 rfl) rfl (.nil))) ?_
   refine hF [({ (default:aA) with b2:=7#64 } :aA)] Tryz.underlying48 b8 eA ?_
   refine aC ?_
   refine ah.bU 1 rfl ?_
   obtain⟨bg,mG,h⟩:=az h
   refine eE 1 gh (fZ mG) fun B2=> ?_
   refine bs dX ?_
   refine bp (p3 (b:=({ (default:bQ) with bP:=4,cc:=ByteArray.mk #[115,112,97,110,115],dP:=([1,3,5]:List Int),gS:=3,tP:= [({ (default:aA) with b2:=7#64 } :aA)],gD:=bA (3 + bg.1) } :bQ)) [] Ho rfl AR l8 (.cons nF rfl (bN 4) rfl (by rfl) (.cons CM rfl (dA (ByteArray.mk #[115,112,97,110,115])) rfl (by rfl) (.hole kC rfl (ab rfl) iD rfl rfl (.cons v9 rfl (ab rfl) rfl (by rfl) (.cons Cv rfl (bN 3) rfl (by rfl) (.cons P9 rfl (ab rfl) rfl (by rfl) (.cons yK rfl (ab rfl) rfl (by rfl) (.nil))))))))) ?_
   refine ah.oy (z:=(default:bQ)) [2] Hp l8 rfl fun iO=> ?_
   refine ah.own (α:=cM) 86 ?_
   refine ah.q8 (i:=1) gJ (ab rfl) (ab rfl) rfl ?_
   refine bY ?_
   refine aE ?_
   refine aC ?_
   refine ah.bU 2 rfl ?_
   obtain⟨fe,nY,h⟩:=az h
   refine eE 1 ng (mW nY) fun qC=> ?_
   refine aM ?_
   obtain⟨fb,gV,h⟩:=az h
   refine kr (γ:=(Option Nat × Nat)) [0,2,3,4,5,6,28,44,61] (fun bS=> []) (fun bS=> [(2,⟨some iO,.ca (fb.1:bQ) [(2,ba bS.1 fb.2.length bS.2)]⟩),(3,⟨bS.1,.row 86 (fb.2:List cM) bS.2⟩)]) (fun bS=> ?_) (fun hm ak=> ?_) fun hm ak=> ?_
   ·clear gV
    refine ae.next ?_
    refine aE ?_
    refine cR 10 gJ ?_
    refine ah.lG (β:=bQ) (γ:=cM) (b':=(({ bB.1 with cO:=bB.2 } :bQ):bQ)) ((aQ.id bQ).comp kC) 8 9 0 rfl rfl rfl rfl rfl rfl ?_
    refine ah.oA 8 rfl ?_
    refine cR 8 gJ ?_
    refine ah.lG (β:=bQ) (γ:=cM) (b':=(({ cL.1 with cO:=cL.2 } :bQ):bQ)) ((aQ.id bQ).comp kC) 5 6 0 rfl rfl rfl rfl rfl rfl ?_
    refine ah.oA 5 rfl ?_
    refine cR 5 gJ ?_
    refine ah.lG (β:=bQ) (γ:=cM) (b':=(({ fb.1 with cO:=fb.2 } :bQ):bQ)) ((aQ.id bQ).comp kC) 2 3 0 rfl rfl rfl rfl rfl rfl ?_
    refine ah.oA 2 rfl ?_
    refine cR 2 gJ ?_
    obtain⟨jS,rM,h⟩:=az h
    refine ah.Og (α:=bQ) (r0:= [dF,({ bB.1 with cO:=bB.2 } :bQ),({ cL.1 with cO:=cL.2 } :bQ),({ fb.1 with cO:=fb.2 } :bQ)]) (r:=jS) Tryz.underlying28 gJ l8 rfl rfl (.cons (by simp) (ab rfl) (.cons (by simp) (ab rfl) (.cons (by simp) (ab rfl) (.cons (by simp) (ab rfl) (.nil))))) (aK rM) rfl fun xu=> ?_
    refine aO ?_
    refine b5 ?_
    obtain⟨hf,rN,h⟩:=az h
    refine dD rN (ig (r:= [ByteArray.mk #[],ByteArray.mk #[97,32,33,61,32,48],ByteArray.mk #[97,32,60,32,49,52,32,38,38,32,97,32,33,61,32,51]]) Tryz.underlying200 pA EN rfl rfl (.cons (by simp) (dA (ByteArray.mk #[])) (.cons (by simp) (dA (ByteArray.mk #[97,32,33,61,32,48])) (.cons (by simp) (dA (ByteArray.mk #[97,32,60,32,49,52,32,38,38,32,97,32,33,61,32,51])) (.nil))))) ?_
    obtain⟨ll,vp,h⟩:=az h
    refine dD vp (ig (r:= [ByteArray.mk #[],ByteArray.mk #[100,58,58,112,114,101,102,105,120,95,108,101,110,103,116,104,32,62,61,32,56],ByteArray.mk #[100,58,58,112,114,101,102,105,120,95,108,101,110,103,116,104,32,61,61,32,51,50,32,45,62,32,100,58,58,118,97,108,117,101,32,62,32,48,120,102,102]]) Tryz.underlying200 pA EN rfl rfl (.cons (by simp) (dA (ByteArray.mk #[])) (.cons (by simp) (dA (ByteArray.mk #[100,58,58,112,114,101,102,105,120,95,108,101,110,103,116,104,32,62,61,32,56])) (.cons (by simp) (dA (ByteArray.mk #[100,58,58,112,114,101,102,105,120,95,108,101,110,103,116,104,32,61,61,32,51,50,32,45,62,32,100,58,58,118,97,108,117,101,32,62,32,48,120,102,102])) (.nil))))) ?_
    obtain⟨kQ,u6,h⟩:=az h
    refine dD u6 (ig (r:= [ByteArray.mk #[],ByteArray.mk #[112,114,105,111,114,105,116,121,32,60,32,49,48,48,32,38,38,32,40,101,58,58,109,97,115,107,32,33,61,32,48,32,124,124,32,97,58,58,109,97,115,107,32,33,61,32,48,41],ByteArray.mk #[101,58,58,109,97,115,107,32,61,61,32,48,32,45,62,32,112,114,105,111,114,105,116,121,32,62,32,53]]) Tryz.underlying200 pA EN rfl rfl (.cons (by simp) (dA (ByteArray.mk #[])) (.cons (by simp) (dA (ByteArray.mk #[112,114,105,111,114,105,116,121,32,60,32,49,48,48,32,38,38,32,40,101,58,58,109,97,115,107,32,33,61,32,48,32,124,124,32,97,58,58,109,97,115,107,32,33,61,32,48,41])) (.cons (by simp) (dA (ByteArray.mk #[101,58,58,109,97,115,107,32,61,61,32,48,32,45,62,32,112,114,105,111,114,105,116,121,32,62,32,53])) (.nil))))) ?_
    obtain⟨ks,u7,h⟩:=az h
    refine dD u7 (ig (r:= [ByteArray.mk #[],ByteArray.mk #[102,58,58,104,105,103,104,32,45,32,102,58,58,108,111,119,32,60,61,32,48,120,49,48,48],ByteArray.mk #[33,40,102,58,58,108,111,119,32,61,61,32,48,32,38,38,32,102,58,58,104,105,103,104,32,62,32,49,48,48,48,41]]) Tryz.underlying200 pA EN rfl rfl (.cons (by simp) (dA (ByteArray.mk #[])) (.cons (by simp) (dA (ByteArray.mk #[102,58,58,104,105,103,104,32,45,32,102,58,58,108,111,119,32,60,61,32,48,120,49,48,48])) (.cons (by simp) (dA (ByteArray.mk #[33,40,102,58,58,108,111,119,32,61,61,32,48,32,38,38,32,102,58,58,104,105,103,104,32,62,32,49,48,48,48,41])) (.nil))))) ?_
    refine hF [hf,ll,kQ,ks] Tryz.underlying201 HG V9 ?_
    refine aO ?_
    refine bY ?_
    refine aE ?_
    refine aC ?_
    refine bp (ra (i:=0) Tryz.underlying28 (ab rfl) rfl rfl) ?_
    refine aC ?_
    refine aM ?_
    refine ai.block ?_
    obtain⟨aF,ao,h⟩:=az h
    refine h5 (γ:=(Option Nat × Nat)) (δ:=(Option Nat × Nat)) ao [0,2,3,4,5,6,8,28,44,61,80] (fun s1 dq=> [(7,I.eq (ba dq.1 s1.2.1.length dq.2)),(81,I.of (s1.1))]) (fun s1 dq=> [(0,⟨dq.1,.row 65 (s1.2.1:List bQ) dq.2⟩),(1,⟨some cv,.var (s1.2.2:bf)⟩)]) (fun pO=>Exit.exit 0) (fun pO dq=> [(7,I.eq (ba dq.1 pO.2.2.1.length dq.2)),(81,I.of (pO.1)),(82,I.of (pO.2.1))]) (fun pO dq=> [(0,⟨dq.1,.row 65 (pO.2.2.1:List bQ) dq.2⟩),(1,⟨some cv,.var (pO.2.2.2:bf)⟩)]) (xu,4) (fun s1 r h dq=> ?_) fun dq=> ?_
    ·clear ao
     refine aE ?_
     refine bs e1 ?_
     refine bY ?_
     refine cA h (fun h=>?_) fun h=>?_
     ·refine c4 ?_
      refine ai.seq ?_
      refine ai.block ?_
      refine aE ?_
      refine aC ?_
      refine aO ?_
      refine aM ?_
      obtain⟨bj,cQ,h⟩:=az h
      obtain⟨b3,px,h⟩:=az h
      obtain⟨bI,cS,h⟩:=az h
      obtain⟨dv,iI,h⟩:=az h
      obtain⟨lM,va,h⟩:=az h
      refine j8 [0,2,3,4,5,6,7,8,9,28,44,61,80,81,82,83] ?_
      refine ai.jZ mixed (bk 84 [] [] _ :: bk 85 [] [] _ :: bk 86 [] [] _ :: bk 87 [] [] _ :: bk 88 (2 :: 3 :: []) [] _ :: bk 89 (4 :: []) [] _ :: bk 90 [] [] _ :: ⟨some 91,(6 :: []),(1 :: []),(1 :: []),fun _=>I.of (b3.1),fun hd _=>⟨some cv,.var (b3.2:bf)⟩⟩ :: bk 92 (5 :: 7 :: []) [] _ :: bk 93 (8 :: []) [] _ :: bk 94 (0 :: 1 :: []) (0 :: []) _ :: bk 95 (10 :: []) [] _ :: ⟨none,(9 :: 10 :: 11 :: []),(0 :: []),(0 :: []),fun _=>I.any,fun hd _=>⟨dq.1,.row 65 (lM:List bQ) dq.2⟩⟩ :: []) _ (0 :: 2 :: 3 :: 4 :: 5 :: 6 :: 7 :: 8 :: 9 :: 28 :: 44 :: 61 :: 80 :: 81 :: 82 :: 83 :: []) rfl rfl (by kernel_rfl) ⟨fg,fg,fg,fg,cm fun hd E' L' aD an=>ri (k:=bj) Tryz.underlying201 HG (ab (aD _ _ rfl)) (ab (aD _ _ rfl)) (da cQ),fx (eh HG),fg,?_,cm fun hd E' L' aD an=>ri (k:=bI) Tryz.underlying200 pA (ab (aD _ _ rfl)) (ab (aD _ _ rfl)) (da cS),fx (eh pA),cm fun hd E' L' aD an=>lB (i:=0) (k:=dv) (xs:=(s1.2.1:List bQ)) Tryz.underlying28 gJ (ab (aD _ _ rfl)) (ab (aD _ _ rfl)) (an 0 _ rfl rfl) (da iI),fx (aX UW),?_,trivial⟩ fun eZ=> ?_
      ·intro hd E' L' aD an
       refine ah.bU 1 (an 1 _ rfl rfl) ?_
       refine ah.l2 (Lin:= [⟨some cv,.var (s1.2.2:bf)⟩]) (Lr:=L'.eraseIdx 1) gh (fZ px) ⟨ab (aD _ _ rfl),bN 3,trivial⟩ rfl fun EM=> ?_
       refine ah.nil ?_
       refine ae.back 1 (an 1 _ rfl rfl) ?_
       exact ae.fin (eP []) rfl rfl
      ·intro hd E' L' aD an
       refine ah.ux (i:=0) (k:=dv) ((aQ.id bQ).comp Qa) (v:=(aI (aI [hf,ll,kQ,ks] bj) bI:ByteArray)) (r:=(lM:List bQ)) pA (ab (aD _ _ rfl)) (ab (aD _ _ rfl)) (an 0 _ rfl rfl) (da iI).1 rfl (aK va) ?_
       refine ah.nil ?_
       exact ae.fin (eP []) rfl rfl
      refine ae.eo (L2:= [⟨dq.1,.row 65 (lM:List bQ) dq.2⟩,⟨some cv,.var (b3.2:bf)⟩,⟨none,.row 86 (([]:List cM):List cM) 0⟩,⟨some iO,.var (({ fb.1 with cO:=fb.2 } :bQ):bQ)⟩,⟨none,.dead⟩,⟨none,.row 86 (([]:List cM):List cM) 0⟩,⟨some bF,.var (({ cL.1 with cO:=cL.2 } :bQ):bQ)⟩,⟨none,.dead⟩,⟨none,.row 86 (([]:List cM):List cM) 0⟩,⟨some a2,.var (({ bB.1 with cO:=bB.2 } :bQ):bQ)⟩,⟨none,.dead⟩,⟨some aW,.var (dF:bQ)⟩]) rfl ?_
      refine ae.hM (m:=lM.length) 7 rfl (jC (aK va)) ?_
      refine ae.hM (m:=lM.length) 84 rfl (jC (aK va)) ?_
      refine kP [0,2,3,4,5,6,7,8,9,28,44,61,80,81,82,83,84,85,86,87,88,89,90,91,92,93,94,95] ?_
      refine ae.eC ?_
      refine ae.next ?_
      refine ai.cE ?_
      refine bs dX ?_
      refine aC ?_
      refine ah.nil ?_
      obtain rfl:=aK h
      exact hD (dq.1,dq.2) 0
     ·refine ai.exit ?_
      refine ae.exit ?_
      obtain rfl:=aK h
      exact eX (dq.1,dq.2) 0
    ·clear ao
     refine ae.gE ?_
     refine ae.next ?_
     refine aE ?_
     refine aC ?_
     refine aO ?_
     refine aM ?_
     refine ai.ret ?_
     refine ae.m3 (α:=bQ) 0 [2,7,97] ⟨rfl,rfl,rfl,trivial⟩ rfl ?_
     refine ae.bU 1 rfl ?_
     obtain rfl:=aK h
     exact lJ ()
   ·have h:=hY ak gV
    refine ai.cE ?_
    refine a4 (aX mv) ?_
    refine bp (hW (i:=2) (q:=0) (β:=bQ) (γ:=cM) l6 (ab rfl) rfl rfl) ?_
    obtain⟨kt,AM,h⟩:=az h
    refine dD AM (cW (b:= { cc:=ByteArray.mk #[103],gC:=9,dp:=1:cM }) rfl rB j2 (.cons qP rfl (dA (ByteArray.mk #[103])) rfl (.cons o1 rfl (bN 9) rfl (.cons mX rfl (bN 1) rfl (.nil))))) ?_
    obtain⟨kR,AN,h⟩:=az h
    refine dD AN (cW (b:= { cc:=ByteArray.mk #[100],gC:=7,dp:=2:cM }) rfl rB j2 (.cons qP rfl (dA (ByteArray.mk #[100])) rfl (.cons o1 rfl (bN 7) rfl (.cons mX rfl (bN 2) rfl (.nil))))) ?_
    refine hF [kt,kR] Tryz.underlying62 ko j2 ?_
    obtain⟨fJ,u4,h⟩:=az h
    refine nX 3 Tryz.underlying62 ko j2 u4 fun vb fI=> ?_
    refine a4 (aX mv) ?_
    refine ah.jE (i:=2) (γ:=cM) (b':=(({ ({ (default:bQ) with bP:=4,cc:=ByteArray.mk #[115,112,97,110,115],dP:=([1,3,5]:List Int),gS:=3,tP:= [({ (default:aA) with b2:=7#64 } :aA)],gD:=bA (3 + bg.1) } :bQ) with cO:= [] } :bQ):bQ)) (os':= [(2,ba vb fJ.length fI)]) ((aQ.id bQ).comp kC) l6 (ab rfl) (ab rfl) iD rfl rfl rfl rfl ?_
    refine ah.nil ?_
    obtain rfl:=aK h
    exact dT 0 (hm (vb,fI))
   ·have h:=hZ ak gV
    refine ai.skip ?_
    obtain rfl:=aK h
    exact dT 0 (hm (nV,1))
  ·have h:=hY ak en
   refine ai.cE ?_
   refine a4 (aX mv) ?_
   refine bp (hW (i:=2) (q:=0) (β:=bQ) (γ:=cM) l6 (ab rfl) rfl rfl) ?_
   obtain⟨n1,AO,h⟩:=az h
   refine dD AO (cW (b:= { cc:=ByteArray.mk #[98],gC:=5,dp:=1:cM }) rfl rB j2 (.cons qP rfl (dA (ByteArray.mk #[98])) rfl (.cons o1 rfl (bN 5) rfl (.cons mX rfl (bN 1) rfl (.nil))))) ?_
   refine hF [n1] Tryz.underlying62 ko j2 ?_
   obtain⟨jN,u5,h⟩:=az h
   refine nX 3 Tryz.underlying62 ko j2 u5 fun Oh pk=> ?_
   refine a4 (aX mv) ?_
   refine ah.jE (i:=2) (γ:=cM) (b':=(({ ({ (default:bQ) with bP:=3,cc:=ByteArray.mk #[97,99,108],dP:=([1,2,3,5,6]:List Int),gS:=1,gD:=bA (4 + b0.1) } :bQ) with cO:= [] } :bQ):bQ)) (os':= [(2,ba Oh jN.length pk)]) ((aQ.id bQ).comp kC) l6 (ab rfl) (ab rfl) iD rfl rfl rfl rfl ?_
   refine ah.nil ?_
   obtain rfl:=aK h
   exact dT 0 (hm (Oh,pk))
  ·have h:=hZ ak en
   refine ai.skip ?_
   obtain rfl:=aK h
   exact dT 0 (hm (l7,2))
 ·have h:=hY ak cV
  refine ai.cE ?_
  refine a4 (aX mv) ?_
  refine bp (hW (i:=2) (q:=0) (β:=bQ) (γ:=cM) l6 (ab rfl) rfl rfl) ?_
  obtain⟨oK,AP,h⟩:=az h
  refine dD AP (cW (b:= { cc:=ByteArray.mk #[109],gC:=3,dp:=1:cM }) rfl rB j2 (.cons qP rfl (dA (ByteArray.mk #[109])) rfl (.cons o1 rfl (bN 3) rfl (.cons mX rfl (bN 1) rfl (.nil))))) ?_
  refine hF [oK] Tryz.underlying62 ko j2 ?_
  obtain⟨hG,rz,h⟩:=az h
  refine nX 3 Tryz.underlying62 ko j2 rz fun Oi vc=> ?_
  refine a4 (aX mv) ?_
  refine ah.jE (i:=2) (γ:=cM) (b':=(({ ({ (default:bQ) with bP:=2,cc:=ByteArray.mk #[114,111,117,116,101,115],dP:=([1,2,3,4]:List Int),gS:=2,gD:=bA (3 + bn.1) } :bQ) with cO:= [] } :bQ):bQ)) (os':= [(2,ba Oi hG.length vc)]) ((aQ.id bQ).comp kC) l6 (ab rfl) (ab rfl) iD rfl rfl rfl rfl ?_
  refine ah.nil ?_
  obtain rfl:=aK h
  exact dT 0 (hm (Oi,vc))
 ·have h:=hZ ak cV
  refine ai.skip ?_
  obtain rfl:=aK h
  exact dT 0 (hm (hN,1))
theorem QV {aa:bf} {aj:List bQ} {cv:Nat} {r:(List cC) × bf} (h:yL aa aj=some r):bO Tryz.prog 71 [I.eq (.pointer (some ⟨cv,0,none⟩)),I.of (aj)] [⟨some cv,.var (aa:bf)⟩] (δ:=Unit) (fun d=>I.of (r.1)) (fun d=> [⟨some cv,.var (r.2:bf)⟩]):=by
 unfold yL at h
 refine bO.of Tryz.func71 rfl Tryz.ntmps71 rfl fun W A=> ?_
 refine aE ?_
 refine bp (eH (look_nil (α:=cC))) ?_
 refine b5 ?_
 refine hF ([1,2,3,4,5,6]:List Int) Tryz.underlying63 bK j7 ?_
 refine bp (p3 (b:=({ (default:cC) with bP:=1,cc:=ByteArray.mk #[97,108,108],dP:=([1,2,3,4,5,6]:List Int),qY:=40,zG:=true } :cC)) [2] wW rfl HH uN (.cons F3 rfl (bN 1) rfl (by rfl) (.cons FX rfl (dA (ByteArray.mk #[97,108,108])) rfl (by rfl) (.cons FL rfl (ab rfl) rfl (by rfl) (.cons FT rfl (bN 40) rfl (by rfl) (.cons QW rfl (fG true) rfl (by rfl) (.nil))))))) ?_
 refine ah.own (α:=dn) 207 ?_
 refine ah.oy (z:=(default:cC)) [2] wW uN rfl fun aW=> ?_
 refine ah.own (α:=dn) 207 ?_
 refine ah.q8 (i:=1) uO (ab rfl) (ab rfl) rfl ?_
 refine b5 ?_
 refine aC ?_
 refine ah.bU 3 rfl ?_
 obtain⟨aB,bu,h⟩:=az h
 refine eE 1 gh (fZ bu) fun ax=> ?_
 refine bs dX ?_
 refine hF ([1,2,bA (3 + aB.1)]:List Int) Tryz.underlying63 bK j7 ?_
 refine aC ?_
 refine ah.bU 0 rfl ?_
 obtain⟨aH,cB,h⟩:=az h
 refine eE 1 gh (fZ cB) fun et=> ?_
 refine bs dX ?_
 refine bp (p3 (b:=({ (default:cC) with bP:=2,cc:=ByteArray.mk #[115,111,109,101],dP:=([1,2,bA (3 + aB.1)]:List Int),qY:=bA (1 + aH.1) } :cC)) [2] wW rfl HH uN (.cons F3 rfl (bN 2) rfl (by rfl) (.cons FX rfl (dA (ByteArray.mk #[115,111,109,101])) rfl (by rfl) (.cons FL rfl (ab rfl) rfl (by rfl) (.cons FT rfl (ab rfl) rfl (by rfl) (.nil)))))) ?_
 refine ah.own (α:=dn) 207 ?_
 refine ah.oy (z:=(default:cC)) [2] wW uN rfl fun a2=> ?_
 refine ah.own (α:=dn) 207 ?_
 refine ah.q8 (i:=1) uO (ab rfl) (ab rfl) rfl ?_
 refine b5 ?_
 refine aC ?_
 refine ah.bU 3 rfl ?_
 obtain⟨bn,fF,h⟩:=az h
 refine eE 1 gh (fZ fF) fun cr=> ?_
 refine bs dX ?_
 refine hF [bA (1 + bn.1)] Tryz.underlying63 bK j7 ?_
 refine aC ?_
 refine ah.bU 0 rfl ?_
 obtain⟨bD,gL,h⟩:=az h
 refine eE 1 gh (fZ gL) fun mh=> ?_
 refine bp (p3 (b:=({ (default:cC) with bP:=7,cc:=ByteArray.mk #[102,101,119],dP:= [bA (1 + bn.1)],qY:=bD.1 } :cC)) [2] wW rfl HH uN (.cons F3 rfl (bN 7) rfl (by rfl) (.cons FX rfl (dA (ByteArray.mk #[102,101,119])) rfl (by rfl) (.cons FL rfl (ab rfl) rfl (by rfl) (.cons FT rfl (ab rfl) rfl (by rfl) (.nil)))))) ?_
 refine ah.own (α:=dn) 207 ?_
 refine ah.oy (z:=(default:cC)) [2] wW uN rfl fun bF=> ?_
 refine ah.own (α:=dn) 207 ?_
 refine ah.q8 (i:=1) uO (ab rfl) (ab rfl) rfl ?_
 refine bY ?_
 refine aE ?_
 refine aC ?_
 refine a4 (eT Tryz.underlying28) ?_
 refine aC ?_
 refine aM ?_
 refine ai.block ?_
 obtain⟨aF,ao,h⟩:=az h
 refine h5 (γ:=(Option Nat × Nat) × (Option Nat × Nat) × (Option Nat × Nat)) (δ:=(Option Nat × Nat) × (Option Nat × Nat) × (Option Nat × Nat)) ao [0,1,4,5,6,7,30,31] (fun s1 av=> [(32,I.of (s1.1))]) (fun s1 av=> [(1,⟨some bF,.ca (s1.2.1:cC) [(2,ba av.1.1 s1.2.2.1.length av.1.2)]⟩),(2,⟨av.1.1,.row 207 (s1.2.2.1:List dn) av.1.2⟩),(3,⟨some cv,.var (s1.2.2.2.1:bf)⟩),(5,⟨some a2,.ca (s1.2.2.2.2.1:cC) [(2,ba av.2.1.1 s1.2.2.2.2.2.1.length av.2.1.2)]⟩),(6,⟨av.2.1.1,.row 207 (s1.2.2.2.2.2.1:List dn) av.2.1.2⟩),(8,⟨some aW,.ca (s1.2.2.2.2.2.2.1:cC) [(2,ba av.2.2.1 s1.2.2.2.2.2.2.2.length av.2.2.2)]⟩),(9,⟨av.2.2.1,.row 207 (s1.2.2.2.2.2.2.2:List dn) av.2.2.2⟩)]) (fun eu=>Exit.exit 0) (fun eu av=> [(32,I.of (eu.1)),(33,I.of (eu.2.1))]) (fun eu av=> [(1,⟨some bF,.ca (eu.2.2.1:cC) [(2,ba av.1.1 eu.2.2.2.1.length av.1.2)]⟩),(2,⟨av.1.1,.row 207 (eu.2.2.2.1:List dn) av.1.2⟩),(3,⟨some cv,.var (eu.2.2.2.2.1:bf)⟩),(5,⟨some a2,.ca (eu.2.2.2.2.2.1:cC) [(2,ba av.2.1.1 eu.2.2.2.2.2.2.1.length av.2.1.2)]⟩),(6,⟨av.2.1.1,.row 207 (eu.2.2.2.2.2.2.1:List dn) av.2.1.2⟩),(8,⟨some aW,.ca (eu.2.2.2.2.2.2.2.1:cC) [(2,ba av.2.2.1 eu.2.2.2.2.2.2.2.2.length av.2.2.2)]⟩),(9,⟨av.2.2.1,.row 207 (eu.2.2.2.2.2.2.2.2:List dn) av.2.2.2⟩)]) ((none,0),(none,0),(none,0)) (fun s1 r h av=> ?_) fun av=> ?_
 ·clear ao
  refine aE ?_
  refine bs e1 ?_
  refine bY ?_
  refine cA h (fun h=>?_) fun h=>?_
  ·refine c4 ?_
   refine ai.seq ?_
   refine ai.block ?_
   refine aE ?_
   obtain⟨bj,cQ,h⟩:=az h
   refine ik cQ Tryz.underlying28 gJ ?_
   refine a4 (eh gJ) ?_
   refine dJ l8 fun iO=> ?_
   refine cY 0 gJ ?_
   refine b5 ?_
   refine a4 (aX mv) ?_
   refine ct 0 kC l6 ?_
   refine a4 (eT Tryz.underlying62) ?_
   obtain⟨b0,hS,h⟩:=az h
   refine ah.OV Tryz.underlying205 hE OW rfl (by kernel_rfl) (ab rfl) (ab rfl) hS rfl fun hN=> ?_
   refine aO ?_
   refine b5 ?_
   refine a4 (aX mv) ?_
   refine ct 1 kC l6 ?_
   refine a4 (eT Tryz.underlying62) ?_
   obtain⟨cl,il,h⟩:=az h
   refine ah.OV Tryz.underlying205 hE OW rfl (by kernel_rfl) (ab rfl) (ab rfl) il rfl fun l7=> ?_
   refine aO ?_
   refine bY ?_
   refine aE ?_
   refine aC ?_
   refine bp (ra (i:=1) Tryz.underlying205 (ab rfl) rfl rfl) ?_
   refine aC ?_
   refine aM ?_
   refine ai.block ?_
   obtain⟨aR,ao,h⟩:=az h
   refine h5 (γ:=(Option Nat × Nat) × (Option Nat × Nat)) (δ:=(Option Nat × Nat) × (Option Nat × Nat)) ao [0,1,4,5,6,7,9,30,31,32,33,45] (fun s2 bm=> [(10,I.eq (ba bm.2.1 s2.2.2.1.length bm.2.2)),(11,I.eq (ba bm.1.1 s2.2.1.length bm.1.2)),(46,I.of (s2.1))]) (fun s2 bm=> [(0,⟨bm.1.1,.row 4 (s2.2.1:List Bool) bm.1.2⟩),(1,⟨bm.2.1,.row 4 (s2.2.2.1:List Bool) bm.2.2⟩),(6,⟨some cv,.var (s2.2.2.2:bf)⟩)]) (fun lk=>Exit.exit 2) (fun lk bm=> [(10,I.eq (ba bm.2.1 lk.2.2.2.1.length bm.2.2)),(11,I.eq (ba bm.1.1 lk.2.2.1.length bm.1.2)),(46,I.of (lk.1)),(47,I.of (lk.2.1))]) (fun lk bm=> [(0,⟨bm.1.1,.row 4 (lk.2.2.1:List Bool) bm.1.2⟩),(1,⟨bm.2.1,.row 4 (lk.2.2.2.1:List Bool) bm.2.2⟩),(6,⟨some cv,.var (lk.2.2.2.2:bf)⟩)]) ((l7,cl.length),(hN,b0.length)) (fun s2 r h bm=> ?_) fun bm=> ?_
   ·clear ao
    refine aE ?_
    refine bs e1 ?_
    refine bY ?_
    refine cA h (fun h=>?_) fun h=>?_
    ·refine c4 ?_
     refine ai.seq ?_
     refine ai.block ?_
     refine aE ?_
     refine aC ?_
     refine aO ?_
     refine aM ?_
     refine ai.cE ?_
     refine aC ?_
     refine aC ?_
     refine aC ?_
     refine aC ?_
     refine aC ?_
     refine ah.bU 6 rfl ?_
     obtain⟨bg,mG,h⟩:=az h
     refine eE 1 gh (fZ mG) fun B2=> ?_
     refine bs qe ?_
     obtain⟨bI,cS,h⟩:=az h
     refine bp (lB (i:=2) (k:=bI) (xs:=(s2.2.2.1:List Bool)) Tryz.underlying205 hE (ab rfl) (ab rfl) rfl (da cS)) ?_
     refine ah.ux (i:=2) (k:=bI) (aQ.id Bool) (v:=(true:Bool)) (r:=(ea s2.2.2.1 bI true:List Bool)) hE (ab rfl) (fG true) rfl (da cS).1 rfl rfl ?_
     refine ah.hM (m:=(ea s2.2.2.1 bI true).length) 10 rfl (jC rfl) ?_
     refine ah.hM (m:=(ea s2.2.2.1 bI true).length) 49 rfl (jC rfl) ?_
     obtain⟨dv,iI,h⟩:=az h
     refine bp (lB (i:=1) (k:=dv) (xs:=(s2.2.1:List Bool)) Tryz.underlying205 hE (ab rfl) (ab rfl) rfl (da iI)) ?_
     refine ah.ux (i:=1) (k:=dv) (aQ.id Bool) (v:=(decide (bg.1 > 0):Bool)) (r:=(ea s2.2.1 dv (decide (bg.1 > 0)):List Bool)) hE (ab rfl) (ab rfl) rfl (da iI).1 rfl rfl ?_
     refine ah.hM (m:=(ea s2.2.1 dv (decide (bg.1 > 0))).length) 11 rfl (jC rfl) ?_
     refine ah.hM (m:=(ea s2.2.1 dv (decide (bg.1 > 0))).length) 51 rfl (jC rfl) ?_
     refine ah.nil ?_
     refine ae.eC ?_
     refine ae.next ?_
     refine ai.cE ?_
     refine bs dX ?_
     refine aC ?_
     refine ah.nil ?_
     refine ae.bU 6 rfl ?_
     refine ae.bU 6 rfl ?_
     refine ae.bU 6 rfl ?_
     refine ae.bU 6 rfl ?_
     refine ae.bU 6 rfl ?_
     refine ae.bU 6 rfl ?_
     obtain rfl:=aK h
     exact hD ((bm.1.1,bm.1.2),(bm.2.1,bm.2.2)) 0
    ·refine ai.exit ?_
     refine ae.exit ?_
     obtain rfl:=aK h
     exact eX ((bm.1.1,bm.1.2),(bm.2.1,bm.2.2)) 0
   ·clear ao
    refine ae.gE ?_
    refine ae.next ?_
    refine aE ?_
    refine a4 (aX wX) ?_
    refine bp (hW (i:=11) (q:=0) (β:=cC) (γ:=dn) uP (ab rfl) rfl rfl) ?_
    refine a4 (aX q4) ?_
    refine ct 2 nF bK ?_
    refine aC ?_
    refine ah.m3 (α:=Bool) 1 [63,10] ⟨rfl,rfl,trivial⟩ rfl ?_
    obtain⟨bL,dS,h⟩:=az h
    refine dD dS (cW (b:= { bo:=(aI aj bj).bP,rb:=true,qZ:=true,cO:=aR.2.2.2.1:dn }) rfl HI rl (.cons FN rfl (ab rfl) rfl (.cons FU rfl (fG true) rfl (.cons FO rfl (fG true) rfl (.cons FV rfl (ab rfl) rfl (.nil)))))) ?_
    refine hF [bL] Tryz.underlying202 xh rl ?_
    obtain⟨fe,nY,h⟩:=az h
    refine nX 12 Tryz.underlying202 xh rl nY fun nV fI=> ?_
    refine a4 (aX wX) ?_
    refine ah.jE (i:=11) (γ:=dn) (b':=(({ s1.2.2.2.2.2.2.1 with iT:= [] } :cC):cC)) (os':= [(2,ba nV fe.length fI)]) ((aQ.id cC).comp wc) uP (ab rfl) (ab rfl) iD rfl rfl rfl rfl ?_
    refine bY ?_
    refine aE ?_
    refine aC ?_
    refine ah.bU 6 rfl ?_
    obtain⟨b3,px,h⟩:=az h
    refine eE 1 gh (fZ px) fun qC=> ?_
    refine bs qe ?_
    refine aM ?_
    refine ai.freeze (α:=Bool) 1 11 rfl rfl ?_
    obtain⟨bB,cV,h⟩:=az h
    refine kr (γ:=(Option Nat × Nat)) [0,1,4,5,6,7,9,10,11,30,31,32,33,45,46,47,70] (fun bS=> []) (fun bS=> [(0,⟨some cv,.var (bB.1:bf)⟩),(8,⟨some a2,.ca (bB.2.1:cC) [(2,ba bS.1 bB.2.2.length bS.2)]⟩),(9,⟨bS.1,.row 207 (bB.2.2:List dn) bS.2⟩)]) (fun bS=> ?_) (fun hm ak=> ?_) fun hm ak=> ?_
    ·clear cV
     refine ae.next ?_
     refine aE ?_
     refine aC ?_
     refine ah.bU 0 rfl ?_
     obtain⟨fJ,u4,h⟩:=az h
     refine eE 1 ng (mW u4) fun pO=> ?_
     refine aM ?_
     obtain⟨cL,en,h⟩:=az h
     refine kr (γ:=(Option Nat × Nat)) [0,1,4,5,6,7,9,10,11,30,31,32,33,45,46,47,70,86] (fun dq=> []) (fun dq=> [(0,⟨some cv,.var (cL.1:bf)⟩),(5,⟨some bF,.ca (cL.2.1:cC) [(2,ba dq.1 cL.2.2.length dq.2)]⟩),(6,⟨dq.1,.row 207 (cL.2.2:List dn) dq.2⟩)]) (fun dq=> ?_) (fun hm ak=> ?_) fun hm ak=> ?_
     ·clear en
      refine ae.eC ?_
      refine ae.next ?_
      refine ai.cE ?_
      refine bs dX ?_
      refine aC ?_
      refine ah.nil ?_
      refine ae.bU 6 rfl ?_
      refine ae.bU 6 rfl ?_
      refine ae.bU 6 rfl ?_
      refine ae.bU 6 rfl ?_
      refine ae.bU 6 rfl ?_
      refine ae.bU 6 rfl ?_
      obtain rfl:=aK h
      exact hD ((dq.1,dq.2),(bS.1,bS.2),(nV,fI)) 3
     ·have h:=hY ak en
      obtain⟨jN,u5,h⟩:=az h
      obtain⟨hG,rz,h⟩:=az h
      obtain⟨dF,hR,h⟩:=az h
      obtain⟨h6,AK,h⟩:=az h
      refine j8 [0,1,4,5,6,7,9,10,11,30,31,32,33,45,46,47,70,85,86] ?_
      refine ai.jZ mixed (bk 87 [] [] _ :: bk 88 (0 :: []) (5 :: []) _ :: bk 89 [] [] _ :: bk 90 (2 :: []) (3 :: []) _ :: bk 91 [] [] _ :: ⟨some 92,(4 :: []),(0 :: []),(0 :: []),fun _=>I.of (jN.1),fun hd _=>⟨some cv,.var (jN.2:bf)⟩⟩ :: bk 93 [] [] _ :: ⟨some 94,(5 :: 6 :: []),(0 :: []),(0 :: []),fun _=>I.of (hG.1),fun hd _=>⟨some cv,.var (hG.2:bf)⟩⟩ :: bk 95 [] [] _ :: bk 96 (3 :: 5 :: 7 :: 8 :: []) [] _ :: bk 97 (9 :: []) [] _ :: ⟨some 98,(1 :: 10 :: []),(6 :: []),(6 :: []),fun hd=>I.eq (ba (hd 11 0) h6.length ((hd 11 1).getD 0)),fun hd _=>⟨(hd 11 0),.row 207 (h6:List dn) ((hd 11 1).getD 0)⟩⟩ :: bk 99 [] [] _ :: ⟨none,(1 :: 11 :: 12 :: []),(5 :: []),(5 :: []),fun _=>I.any,fun hd _=>⟨some bF,.ca (({ s1.2.1 with iT:= [] } :cC):cC) [(2,ba (hd 11 0) h6.length ((hd 11 1).getD 0))]⟩⟩ :: []) _ (0 :: 1 :: 4 :: 5 :: 6 :: 7 :: 9 :: 10 :: 11 :: 30 :: 31 :: 32 :: 33 :: 45 :: 46 :: 47 :: 70 :: 85 :: 86 :: []) rfl rfl (by kernel_rfl) ⟨fx (aX wX),cm fun hd E' L' aD an=>hW (i:=5) (q:=0) (β:=cC) (γ:=dn) uP (ab (aD _ _ rfl)) (an 5 _ rfl rfl) rfl,fx (aX q4),py 3 nF bK,fg,?_,fg,?_,fg,cm fun hd E' L' aD an=>(cW (b:= { bo:=(aI aj bj).bP,rb:=jN.1,qZ:=hG.1,cO:=aR.2.2.2.1:dn }) rfl HI rl (.cons FN rfl (ab (aD _ _ rfl)) rfl (.cons FU rfl (ab (aD _ _ rfl)) rfl (.cons FO rfl (ab (aD _ _ rfl)) rfl (.cons FV rfl (ab (aD _ _ rfl)) rfl (.nil)))))).as (aK hR),cm fun hd E' L' aD an=>ig (r:= [dF]) Tryz.underlying202 xh rl rfl rfl (.cons (by simp) (ab (aD _ _ rfl)) (.nil)),?_,fx (aX wX),?_,trivial⟩ fun eZ=> ?_
      ·intro hd E' L' aD an
       refine ah.bU 0 (an 0 _ rfl rfl) ?_
       refine ah.l2 (Lin:= [⟨some cv,.var (fJ.2:bf)⟩]) (Lr:=L'.eraseIdx 0) ng (mW u5) ⟨ab (aD _ _ rfl),trivial⟩ rfl fun EM=> ?_
       refine ah.nil ?_
       refine ae.back 0 (an 0 _ rfl rfl) ?_
       exact ae.fin (eP []) rfl rfl
      ·intro hd E' L' aD an
       refine ah.bU 0 (an 0 _ rfl rfl) ?_
       refine ah.l2 (Lin:= [⟨some cv,.var (jN.2:bf)⟩]) (Lr:=L'.eraseIdx 0) ng (mW rz) ⟨ab (aD _ _ rfl),trivial⟩ rfl fun ku=> ?_
       refine ah.nil ?_
       refine ae.back 0 (an 0 _ rfl rfl) ?_
       exact ae.fin (eP []) rfl rfl
      ·intro hd E' L' aD an
       refine ah.app (i:=6) Tryz.underlying202 xh rl (bytes:=40) (by kernel_rfl) (ab (aD _ _ rfl)) (an 6 _ rfl rfl) (ab (aD _ _ rfl)) AK rfl fun xu pk=> ?_
       refine ah.nil ?_
       exact ae.fin (eP [xu,some pk]) rfl rfl
      ·intro hd E' L' aD an
       refine ah.jE (i:=5) (γ:=dn) (b':=(({ s1.2.1 with iT:= [] } :cC):cC)) (os':= [(2,ba (hd 11 0) h6.length ((hd 11 1).getD 0))]) ((aQ.id cC).comp wc) uP (ab (aD _ _ rfl)) (ab (aD _ _ rfl)) iD (an 5 _ rfl rfl) rfl rfl rfl ?_
       refine ah.nil ?_
       exact ae.fin (eP []) rfl rfl
      refine ae.eo (L2:= [⟨some cv,.var (hG.2:bf)⟩,⟨none,.dead⟩,⟨none,.dead⟩,⟨some iO,.var (aI aj bj:bQ)⟩,⟨none,.row 207 (([]:List dn):List dn) 0⟩,⟨some bF,.ca (({ s1.2.1 with iT:= [] } :cC):cC) [(2,ba (eZ 11 0) h6.length ((eZ 11 1).getD 0))]⟩,⟨(eZ 11 0),.row 207 (h6:List dn) ((eZ 11 1).getD 0)⟩,⟨none,.row 207 (([]:List dn):List dn) 0⟩,⟨some a2,.ca (bB.2.1:cC) [(2,ba bS.1 bB.2.2.length bS.2)]⟩,⟨bS.1,.row 207 (bB.2.2:List dn) bS.2⟩,⟨none,.row 207 (([]:List dn):List dn) 0⟩,⟨some aW,.ca (({ s1.2.2.2.2.2.2.1 with iT:= [] } :cC):cC) [(2,ba nV fe.length fI)]⟩,⟨nV,.row 207 (fe:List dn) fI⟩]) rfl ?_
      refine kP [0,1,4,5,6,7,9,10,11,30,31,32,33,45,46,47,70,85,86,87,89,90,91,92,93,94,95,96,97,98,99] ?_
      obtain rfl:=aK h
      exact dT 0 (hm ((eZ 11 0),((eZ 11 1).getD 0)))
     ·have h:=hZ ak en
      refine ai.skip ?_
      obtain rfl:=aK h
      exact dT 0 (hm (av.1.1,av.1.2))
    ·have h:=hY ak cV
     obtain⟨iW,AL,h⟩:=az h
     obtain⟨mJ,Yb,h⟩:=az h
     obtain⟨gr,lL,h⟩:=az h
     obtain⟨te,Yc,h⟩:=az h
     refine j8 [0,1,4,5,6,7,9,10,11,30,31,32,33,45,46,47,59,61,62,63,64,65,66,67,68,69,70] ?_
     refine ai.jZ mixed (bk 71 [] [] _ :: bk 72 (0 :: []) (8 :: []) _ :: bk 73 [] [] _ :: bk 74 (2 :: []) (3 :: []) _ :: bk 75 [] [] _ :: ⟨some 76,(4 :: []),(0 :: []),(0 :: []),fun _=>I.of (iW.1),fun hd _=>⟨some cv,.var (iW.2:bf)⟩⟩ :: bk 77 (5 :: []) [] _ :: bk 78 [] [] _ :: ⟨some 79,(5 :: 7 :: []),(0 :: []),(0 :: []),fun _=>I.of (mJ.1),fun hd _=>⟨some cv,.var (mJ.2:bf)⟩⟩ :: bk 80 [] [] _ :: bk 81 (3 :: 6 :: 8 :: 9 :: []) [] _ :: bk 82 (10 :: []) [] _ :: ⟨some 83,(1 :: 11 :: []),(9 :: []),(9 :: []),fun hd=>I.eq (ba (hd 12 0) te.length ((hd 12 1).getD 0)),fun hd _=>⟨(hd 12 0),.row 207 (te:List dn) ((hd 12 1).getD 0)⟩⟩ :: bk 84 [] [] _ :: ⟨none,(1 :: 12 :: 13 :: []),(8 :: []),(8 :: []),fun _=>I.any,fun hd _=>⟨some a2,.ca (({ s1.2.2.2.2.1 with iT:= [] } :cC):cC) [(2,ba (hd 12 0) te.length ((hd 12 1).getD 0))]⟩⟩ :: []) _ (0 :: 1 :: 4 :: 5 :: 6 :: 7 :: 9 :: 10 :: 11 :: 30 :: 31 :: 32 :: 33 :: 45 :: 46 :: 47 :: 59 :: 61 :: 62 :: 63 :: 64 :: 65 :: 66 :: 67 :: 68 :: 69 :: 70 :: []) rfl rfl (by kernel_rfl) ⟨fx (aX wX),cm fun hd E' L' aD an=>hW (i:=8) (q:=0) (β:=cC) (γ:=dn) uP (ab (aD _ _ rfl)) (an 8 _ rfl rfl) rfl,fx (aX q4),py 3 nF bK,fg,?_,tt qe,fg,?_,fg,cm fun hd E' L' aD an=>(cW (b:= { bo:=(aI aj bj).bP,rb:=decide (iW.1 > 0),qZ:=mJ.1,cO:=aR.2.2.1:dn }) rfl HI rl (.cons FN rfl (ab (aD _ _ rfl)) rfl (.cons FU rfl (ab (aD _ _ rfl)) rfl (.cons FO rfl (ab (aD _ _ rfl)) rfl (.cons FV rfl (ab (aD _ _ rfl)) rfl (.nil)))))).as (aK lL),cm fun hd E' L' aD an=>ig (r:= [gr]) Tryz.underlying202 xh rl rfl rfl (.cons (by simp) (ab (aD _ _ rfl)) (.nil)),?_,fx (aX wX),?_,trivial⟩ fun iJ=> ?_
     ·intro hd E' L' aD an
      refine ah.bU 0 (an 0 _ rfl rfl) ?_
      refine ah.l2 (Lin:= [⟨some cv,.var (b3.2:bf)⟩]) (Lr:=L'.eraseIdx 0) gh (fZ AL) ⟨ab (aD _ _ rfl),bN 4,trivial⟩ rfl fun aa7=> ?_
      refine ah.nil ?_
      refine ae.back 0 (an 0 _ rfl rfl) ?_
      exact ae.fin (eP []) rfl rfl
     ·intro hd E' L' aD an
      refine ah.bU 0 (an 0 _ rfl rfl) ?_
      refine ah.l2 (Lin:= [⟨some cv,.var (iW.2:bf)⟩]) (Lr:=L'.eraseIdx 0) ng (mW Yb) ⟨ab (aD _ _ rfl),trivial⟩ rfl fun Zh=> ?_
      refine ah.nil ?_
      refine ae.back 0 (an 0 _ rfl rfl) ?_
      exact ae.fin (eP []) rfl rfl
     ·intro hd E' L' aD an
      refine ah.app (i:=9) Tryz.underlying202 xh rl (bytes:=40) (by kernel_rfl) (ab (aD _ _ rfl)) (an 9 _ rfl rfl) (ab (aD _ _ rfl)) Yc rfl fun vb vc=> ?_
      refine ah.nil ?_
      exact ae.fin (eP [vb,some vc]) rfl rfl
     ·intro hd E' L' aD an
      refine ah.jE (i:=8) (γ:=dn) (b':=(({ s1.2.2.2.2.1 with iT:= [] } :cC):cC)) (os':= [(2,ba (hd 12 0) te.length ((hd 12 1).getD 0))]) ((aQ.id cC).comp wc) uP (ab (aD _ _ rfl)) (ab (aD _ _ rfl)) iD (an 8 _ rfl rfl) rfl rfl rfl ?_
      refine ah.nil ?_
      exact ae.fin (eP []) rfl rfl
     refine ae.eo (L2:= [⟨some cv,.var (mJ.2:bf)⟩,⟨none,.dead⟩,⟨none,.dead⟩,⟨some iO,.var (aI aj bj:bQ)⟩,⟨none,.row 207 (([]:List dn):List dn) 0⟩,⟨some bF,.ca (s1.2.1:cC) [(2,ba av.1.1 s1.2.2.1.length av.1.2)]⟩,⟨av.1.1,.row 207 (s1.2.2.1:List dn) av.1.2⟩,⟨none,.row 207 (([]:List dn):List dn) 0⟩,⟨some a2,.ca (({ s1.2.2.2.2.1 with iT:= [] } :cC):cC) [(2,ba (iJ 12 0) te.length ((iJ 12 1).getD 0))]⟩,⟨(iJ 12 0),.row 207 (te:List dn) ((iJ 12 1).getD 0)⟩,⟨none,.row 207 (([]:List dn):List dn) 0⟩,⟨some aW,.ca (({ s1.2.2.2.2.2.2.1 with iT:= [] } :cC):cC) [(2,ba nV fe.length fI)]⟩,⟨nV,.row 207 (fe:List dn) fI⟩]) rfl ?_
     refine kP [0,1,4,5,6,7,9,10,11,30,31,32,33,45,46,47,59,61,62,63,64,65,66,67,68,69,70,71,73,74,75,76,77,78,79,80,81,82,83,84] ?_
     obtain rfl:=aK h
     exact dT 0 (hm ((iJ 12 0),((iJ 12 1).getD 0)))
    ·have h:=hZ ak cV
     refine ai.skip ?_
     obtain rfl:=aK h
     exact dT 0 (hm (av.2.1.1,av.2.1.2))
  ·refine ai.exit ?_
   refine ae.exit ?_
   obtain rfl:=aK h
   exact eX ((av.1.1,av.1.2),(av.2.1.1,av.2.1.2),(av.2.2.1,av.2.2.2)) 0
 ·clear ao
  refine ae.gE ?_
  refine ae.next ?_
  refine aE ?_
  refine ah.lG (β:=cC) (γ:=dn) (b':=(({ aF.2.2.2.2.2.2.2.1 with iT:=aF.2.2.2.2.2.2.2.2 } :cC):cC)) ((aQ.id cC).comp wc) 8 9 0 rfl rfl rfl rfl rfl rfl ?_
  refine ah.oA 8 rfl ?_
  obtain⟨iq,nZ,h⟩:=az h
  refine dD nZ (e9 (i:=8) (aQ.id cC) (r:=({ aF.2.2.2.2.2.2.2.1 with iT:=aF.2.2.2.2.2.2.2.2 } :cC)) uO (ab rfl) rfl rfl rfl) ?_
  refine ah.lG (β:=cC) (γ:=dn) (b':=(({ aF.2.2.2.2.2.1 with iT:=aF.2.2.2.2.2.2.1 } :cC):cC)) ((aQ.id cC).comp wc) 5 6 0 rfl rfl rfl rfl rfl rfl ?_
  refine ah.oA 5 rfl ?_
  refine cR 5 uO ?_
  refine ah.lG (β:=cC) (γ:=dn) (b':=(({ aF.2.2.1 with iT:=aF.2.2.2.1 } :cC):cC)) ((aQ.id cC).comp wc) 1 2 0 rfl rfl rfl rfl rfl rfl ?_
  refine ah.oA 1 rfl ?_
  refine cR 1 uO ?_
  obtain⟨g5,n0,h⟩:=az h
  refine dD n0 (ig (r:= [iq,({ aF.2.2.2.2.2.1 with iT:=aF.2.2.2.2.2.2.1 } :cC),({ aF.2.2.1 with iT:=aF.2.2.2.1 } :cC)]) Tryz.underlying30 uO uN rfl rfl (.cons (by simp) (ab rfl) (.cons (by simp) (ab rfl) (.cons (by simp) (ab rfl) (.nil))))) ?_
  refine aO ?_
  refine aM ?_
  refine ai.ret ?_
  refine ae.bU 3 rfl ?_
  obtain rfl:=aK h
  exact lJ ()
theorem Ka {aa:bf} {cv:Nat} {r:a1 × bf} (h:we aa=some r):bO Tryz.prog 16 [I.eq (.pointer (some ⟨cv,0,none⟩))] [⟨some cv,.var (aa:bf)⟩] (δ:=Unit) (fun d=>I.of (r.1)) (fun d=> [⟨some cv,.var (r.2:bf)⟩]):=by
 unfold we at h
 refine bO.of Tryz.func16 rfl Tryz.ntmps16 rfl fun W A=> ?_
 refine aE ?_
 refine dJ Eo fun aW=> ?_
 refine b5 ?_
 refine aC ?_
 refine ah.bU 1 rfl ?_
 obtain⟨aB,bu,h⟩:=az h
 refine eE 1 gh (fZ bu) fun ax=> ?_
 refine bs dX ?_
 refine aC ?_
 refine ah.bU 0 rfl ?_
 obtain⟨aH,cB,h⟩:=az h
 refine eE 1 gh (fZ cB) fun et=> ?_
 refine bs dX ?_
 refine bp (p3 (b:=({ (default:a1) with zk:=bA (2 + aB.1),zx:=bA (12 + aH.1) } :a1)) [5,7] Lv rfl Yd Eo (.cons Qi rfl (ab rfl) rfl (by rfl) (.cons Qr rfl (ab rfl) rfl (by rfl) (.nil)))) ?_
 refine ah.own (α:=ft) 127 ?_
 refine ah.own (α:=eS) 129 ?_
 refine ah.oy (z:=(default:a1)) [5,7] Lv Eo rfl fun a2=> ?_
 refine ah.own (α:=ft) 127 ?_
 refine ah.own (α:=eS) 129 ?_
 refine ah.q8 (i:=2) iv (ab rfl) (ab rfl) rfl ?_
 refine b5 ?_
 obtain⟨bL,dS,h⟩:=az h
 refine dD dS (cW (b:= { bP:=1,cc:=ByteArray.mk #[105,110,103,114,101,115,115],ff:=16:fh }) rfl rm pa (.cons o2 rfl (bN 1) rfl (.cons qN rfl (dA (ByteArray.mk #[105,110,103,114,101,115,115])) rfl (.cons o0 rfl (bN 16) rfl (.nil))))) ?_
 obtain⟨dF,hR,h⟩:=az h
 refine dD hR (cW (b:= { bP:=2,cc:=ByteArray.mk #[101,103,114,101,115,115],ff:=16:fh }) rfl rm pa (.cons o2 rfl (bN 2) rfl (.cons qN rfl (dA (ByteArray.mk #[101,103,114,101,115,115])) rfl (.cons o0 rfl (bN 16) rfl (.nil))))) ?_
 obtain⟨gr,lL,h⟩:=az h
 refine dD lL (cW (b:= { bP:=3,cc:=ByteArray.mk #[109,101,116,97],ff:=8:fh }) rfl rm pa (.cons o2 rfl (bN 3) rfl (.cons qN rfl (dA (ByteArray.mk #[109,101,116,97])) rfl (.cons o0 rfl (bN 8) rfl (.nil))))) ?_
 refine hl rm pa { bP:=4,cc:=ByteArray.mk #[97],ff:=4:fh } (iH o2 (iH qN (iH o0 .nil))) ?_
 refine hl rm pa { bP:=5,cc:=ByteArray.mk #[98],ff:=4:fh } (iH o2 (iH qN (iH o0 .nil))) ?_
 obtain⟨iq,nZ,h⟩:=az h
 refine dD nZ (cW (b:= { bP:=6,cc:=ByteArray.mk #[101],ff:=8:fh }) rfl rm pa (.cons o2 rfl (bN 6) rfl (.cons qN rfl (dA (ByteArray.mk #[101])) rfl (.cons o0 rfl (bN 8) rfl (.nil))))) ?_
 obtain⟨g5,n0,h⟩:=az h
 refine dD n0 (cW (b:= { bP:=7,cc:=ByteArray.mk #[100],ff:=32:fh }) rfl rm pa (.cons o2 rfl (bN 7) rfl (.cons qN rfl (dA (ByteArray.mk #[100])) rfl (.cons o0 rfl (bN 32) rfl (.nil))))) ?_
 obtain⟨kd,rL,h⟩:=az h
 refine dD rL (cW (b:= { bP:=8,cc:=ByteArray.mk #[102],ff:=12:fh }) rfl rm pa (.cons o2 rfl (bN 8) rfl (.cons qN rfl (dA (ByteArray.mk #[102])) rfl (.cons o0 rfl (bN 12) rfl (.nil))))) ?_
 obtain⟨jS,rM,h⟩:=az h
 refine dD rM (cW (b:= { bP:=9,cc:=ByteArray.mk #[103],ff:=4:fh }) rfl rm pa (.cons o2 rfl (bN 9) rfl (.cons qN rfl (dA (ByteArray.mk #[103])) rfl (.cons o0 rfl (bN 4) rfl (.nil))))) ?_
 obtain⟨hf,rN,h⟩:=az h
 refine dD rN (ig (r:= [bL,dF,gr,{ bP:=4,cc:=ByteArray.mk #[97],ff:=4:fh },{ bP:=5,cc:=ByteArray.mk #[98],ff:=4:fh },iq,g5,kd,jS]) Tryz.underlying24 uI pa rfl rfl (.cons (by simp) (ab rfl) (.cons (by simp) (ab rfl) (.cons (by simp) (ab rfl) (.cons (by simp) (ab rfl) (.cons (by simp) (ab rfl) (.cons (by simp) (ab rfl) (.cons (by simp) (ab rfl) (.cons (by simp) (ab rfl) (.cons (by simp) (ab rfl) (.nil))))))))))) ?_
 refine a4 (aX DF) ?_
 obtain⟨ll,vp,h⟩:=az h
 refine ah.sG (i:=2) ((aQ.id a1).comp Cs) (v:=(hf:List fh)) (b':=(ll:a1)) AI (ab rfl) (ab rfl) rfl rfl (aK vp) (by rfl) ?_
 refine b5 ?_
 refine hF ([4,5,6]:List Int) Tryz.underlying63 bK j7 ?_
 obtain⟨kQ,u6,h⟩:=az h
 refine dD u6 (cW (b:= { bP:=1,cc:=ByteArray.mk #[111,110,101],gH:=([4,5,6]:List Int):jk }) rfl HJ D3 (.cons FY rfl (bN 1) rfl (.cons FP rfl (dA (ByteArray.mk #[111,110,101])) rfl (.cons FH rfl (ab rfl) rfl (.nil))))) ?_
 refine hF ([7]:List Int) Tryz.underlying63 bK j7 ?_
 obtain⟨ks,u7,h⟩:=az h
 refine dD u7 (cW (b:= { bP:=2,cc:=ByteArray.mk #[116,119,111],gH:=([7]:List Int):jk }) rfl HJ D3 (.cons FY rfl (bN 2) rfl (.cons FP rfl (dA (ByteArray.mk #[116,119,111])) rfl (.cons FH rfl (ab rfl) rfl (.nil))))) ?_
 refine hF ([8,9]:List Int) Tryz.underlying63 bK j7 ?_
 obtain⟨lM,va,h⟩:=az h
 refine dD va (cW (b:= { bP:=3,cc:=ByteArray.mk #[116,104,114,101,101],gH:=([8,9]:List Int):jk }) rfl HJ D3 (.cons FY rfl (bN 3) rfl (.cons FP rfl (dA (ByteArray.mk #[116,104,114,101,101])) rfl (.cons FH rfl (ab rfl) rfl (.nil))))) ?_
 refine hF [kQ,ks,lM] Tryz.underlying25 Wa D3 ?_
 refine a4 (aX UX) ?_
 refine ah.sG (i:=2) ((aQ.id a1).comp Ql) (v:=([kQ,ks,lM]:List jk)) (b':=(({ ll with sv:= [kQ,ks,lM] } :a1):a1)) Oj (ab rfl) (ab rfl) rfl rfl rfl (by rfl) ?_
 refine b5 ?_
 refine aC ?_
 refine ah.bU 5 rfl ?_
 obtain⟨bn,fF,h⟩:=az h
 refine eE 1 Ye (QK fF) fun cr=> ?_
 refine aC ?_
 refine ah.bU 0 rfl ?_
 obtain⟨bD,gL,h⟩:=az h
 refine eE 1 Yf (QB gL) fun mh=> ?_
 refine aC ?_
 refine ah.bU 0 rfl ?_
 obtain⟨b0,hS,h⟩:=az h
 refine eE 1 Yg (QL hS) fun eu=> ?_
 refine a4 (aX UY) ?_
 obtain⟨kt,AM,h⟩:=az h
 refine ah.sG (i:=3) ((aQ.id a1).comp Qs) (v:=(bn.1:List dy)) (b':=(kt:a1)) Ok (ab rfl) (ab rfl) rfl rfl (aK AM) (by rfl) ?_
 refine a4 (aX MB) ?_
 refine ah.sG (i:=3) ((aQ.id a1).comp J6) (v:=(bD.1:List dO)) (b':=(({ kt with dP:=bD.1 } :a1):a1)) Ib (ab rfl) (ab rfl) rfl rfl rfl (by rfl) ?_
 refine a4 (aX o7) ?_
 obtain⟨kR,AN,h⟩:=az h
 refine ah.sG (i:=3) ((aQ.id a1).comp oY) (v:=(b0.1:List bQ)) (b':=(kR:a1)) oE (ab rfl) (ab rfl) rfl rfl (aK AN) (by rfl) ?_
 refine b5 ?_
 refine aC ?_
 refine a4 (aX o7) ?_
 refine OU 3 oY oE ?_
 refine ah.bU 0 rfl ?_
 obtain⟨cl,il,h⟩:=az h
 refine eE 1 Yh (QV il) fun lk=> ?_
 refine a4 (aX UZ) ?_
 refine ah.sG (i:=3) ((aQ.id a1).comp QC) (v:=(cl.1:List cC)) (b':=(({ kR with nI:=cl.1 } :a1):a1)) Ol (ab rfl) (ab rfl) rfl rfl rfl (by rfl) ?_
 refine b5 ?_
 refine hl Aj sS { bo:=1,hL:=1:ft } (iH yC (iH FM .nil)) ?_
 refine hl Aj sS { bo:=2,hL:=2:ft } (iH yC (iH FM .nil)) ?_
 refine hl Aj sS ({ (default:ft) with bo:=3 } :ft) (iH yC .nil) ?_
 refine hl Aj sS { bo:=4,hL:=3:ft } (iH yC (iH FM .nil)) ?_
 obtain⟨n1,AO,h⟩:=az h
 refine ah.Og (α:=ft) (r0:= [{ bo:=1,hL:=1:ft },{ bo:=2,hL:=2:ft },({ (default:ft) with bo:=3 } :ft),{ bo:=4,hL:=3:ft }]) (r:=n1) Tryz.underlying29 HK sS rfl rfl (.cons (by simp) (ab rfl) (.cons (by simp) (ab rfl) (.cons (by simp) (ab rfl) (.cons (by simp) (ab rfl) (.nil))))) (aK AO) rfl fun hN=> ?_
 refine a4 (aX Hq) ?_
 refine ah.jE (i:=4) (γ:=ft) (b':=(({ ({ kR with nI:=cl.1 } :a1) with mZ:= [] } :a1):a1)) (os':= [(5,ba hN n1.length 4),(7,ba none ([]:List eS).length 0)]) ((aQ.id a1).comp FI) Ep (ab rfl) (ab rfl) iD rfl rfl rfl rfl ?_
 refine bY ?_
 refine aE ?_
 refine aC ?_
 refine ah.bU 1 rfl ?_
 obtain⟨bg,mG,h⟩:=az h
 refine eE 1 ng (mW mG) fun B2=> ?_
 refine aM ?_
 obtain⟨bB,cV,h⟩:=az h
 refine kr (γ:=(Option Nat × Nat)) [0,2,3,51] (fun av=> []) (fun av=> [(1,⟨av.1,.row 127 (bB:List ft) av.2⟩),(4,⟨some a2,.ca (({ ({ kR with nI:=cl.1 } :a1) with mZ:= [] } :a1):a1) [(5,ba av.1 bB.length av.2),(7,ba none ([]:List eS).length 0)]⟩)]) (fun av=> ?_) (fun hm ak=> ?_) fun hm ak=> ?_
 ·clear cV
  refine ae.next ?_
  refine ai.seq ?_
  refine aE ?_
  refine aC ?_
  refine ah.bU 0 rfl ?_
  obtain⟨fe,nY,h⟩:=az h
  refine eE 1 ng (mW nY) fun qC=> ?_
  refine aM ?_
  obtain⟨cL,en,h⟩:=az h
  refine kr (γ:=(Option Nat × Nat)) [0,2,3,51,59] (fun bm=> []) (fun bm=> [(4,⟨some a2,.ca (cL.1:a1) [(5,ba av.1 bB.length av.2),(7,ba bm.1 cL.2.length bm.2)]⟩),(5,⟨bm.1,.row 129 (cL.2:List eS) bm.2⟩)]) (fun bm=> ?_) (fun hm ak=> ?_) fun hm ak=> ?_
  ·clear en
   refine ae.next ?_
   refine ai.seq ?_
   refine aE ?_
   refine aC ?_
   refine ah.bU 0 rfl ?_
   obtain⟨b3,px,h⟩:=az h
   refine eE 1 ng (mW px) fun pO=> ?_
   refine aC ?_
   refine dB (aX o7) ?_
   refine eQ (fun hb=>G1 (i:=4) ((aQ.id a1).comp oY) (r:=cL.1.b1) oE (cq rfl hb) rfl rfl rfl (by rfl)) ?_
   obtain⟨bj,cQ,h⟩:=az h
   refine eQ (fun hb=>ri (k:=bj) Tryz.underlying28 gJ (cq rfl hb) (bN 2) (da (ga cQ hb))) ?_
   refine eQ (fun hb=>D4 kC mv (cq rfl hb) rfl rfl) ?_
   refine dB (eh l6) ?_
   refine dB (eT Tryz.underlying62) ?_
   refine kO gI ?_
   refine k9 ?_
   refine aM ?_
   obtain⟨fb,gV,h⟩:=az h
   refine kr (γ:=(Option Nat × Nat)) [0,2,3,51,59,76] (fun bS=> []) (fun bS=> [(4,⟨some a2,.ca (fb.1:a1) [(5,ba av.1 bB.length av.2),(7,ba bS.1 fb.2.length bS.2)]⟩),(5,⟨bS.1,.row 129 (fb.2:List eS) bS.2⟩)]) (fun bS=> ?_) (fun hm ak=> ?_) fun hm ak=> ?_
   ·clear gV
    refine ae.next ?_
    refine ai.seq ?_
    refine aE ?_
    refine aC ?_
    refine ah.bU 0 rfl ?_
    obtain⟨fJ,u4,h⟩:=az h
    refine eE 1 ng (mW u4) fun EM=> ?_
    refine aC ?_
    refine dB (aX o7) ?_
    refine eQ (fun hb=>G1 (i:=4) ((aQ.id a1).comp oY) (r:=fb.1.b1) oE (cq rfl hb) rfl rfl rfl (by rfl)) ?_
    obtain⟨bI,cS,h⟩:=az h
    refine eQ (fun hb=>ri (k:=bI) Tryz.underlying28 gJ (cq rfl hb) (bN 3) (da (ga cS hb))) ?_
    refine eQ (fun hb=>D4 kC mv (cq rfl hb) rfl rfl) ?_
    refine dB (eh l6) ?_
    refine dB (eT Tryz.underlying62) ?_
    refine kO gI ?_
    refine k9 ?_
    refine aM ?_
    obtain⟨oS,Bg,h⟩:=az h
    refine kr (γ:=(Option Nat × Nat)) [0,2,3,51,59,76,93] (fun dq=> []) (fun dq=> [(4,⟨some a2,.ca (oS.1:a1) [(5,ba av.1 bB.length av.2),(7,ba dq.1 oS.2.length dq.2)]⟩),(5,⟨dq.1,.row 129 (oS.2:List eS) dq.2⟩)]) (fun dq=> ?_) (fun hm ak=> ?_) fun hm ak=> ?_
    ·clear Bg
     refine ae.next ?_
     refine aE ?_
     refine ah.lG (β:=a1) (γ:=ft) (b':=(({ oS.1 with mZ:=bB } :a1):a1)) ((aQ.id a1).comp FI) 4 1 0 rfl rfl rfl rfl rfl rfl ?_
     refine ah.lG (β:=a1) (γ:=eS) (b':=(({ ({ oS.1 with mZ:=bB } :a1) with nN:=oS.2 } :a1):a1)) ((aQ.id a1).comp CB) 4 5 0 rfl rfl rfl rfl rfl rfl ?_
     refine ah.oA 4 rfl ?_
     obtain⟨oK,AP,h⟩:=az h
     refine dD AP (e9 (i:=4) (aQ.id a1) (r:=({ ({ oS.1 with mZ:=bB } :a1) with nN:=oS.2 } :a1)) iv (ab rfl) rfl rfl rfl) ?_
     refine cY 7 iv ?_
     refine aM ?_
     refine ai.ret ?_
     refine ae.bU 0 rfl ?_
     obtain rfl:=aK h
     exact ae.eW () (.cons_cons _ (List.nil_sublist _)) rfl rfl (kk (i:=7) iv rfl rfl)
    ·have h:=hY ak Bg
     refine ai.cE ?_
     refine a4 (aX w7) ?_
     refine bp (hW (i:=4) (q:=1) (β:=a1) (γ:=eS) vd (ab rfl) rfl rfl) ?_
     obtain⟨mI,Ih,h⟩:=az h
     refine dD Ih (cW (b:=({ (default:eS) with bo:=4,uQ:=1,o4:=1 } :eS)) rfl D5 qf (.cons CR rfl (bN 4) rfl (.cons Kj rfl (bN 1) rfl (.cons CC rfl (bN 1) rfl (.nil))))) ?_
     obtain⟨rQ,AQ,h⟩:=az h
     refine dD AQ (cW (b:=({ (default:eS) with bo:=4,jm:=5,o4:=1 } :eS)) rfl D5 qf (.cons CR rfl (bN 4) rfl (.cons Kd rfl (bN 5) rfl (.cons CC rfl (bN 1) rfl (.nil))))) ?_
     refine hF [mI,rQ] Tryz.underlying31 xi qf ?_
     obtain⟨jN,u5,h⟩:=az h
     refine nX 5 Tryz.underlying31 xi qf u5 fun l7 fI=> ?_
     refine a4 (aX w7) ?_
     refine ah.jE (i:=4) (γ:=eS) (b':=(({ fb.1 with nN:= [] } :a1):a1)) (os':= [(5,ba av.1 bB.length av.2),(7,ba l7 jN.length fI)]) ((aQ.id a1).comp CB) vd (ab rfl) (ab rfl) iD rfl rfl rfl rfl ?_
     refine ah.nil ?_
     obtain rfl:=aK h
     exact dT 0 (hm (l7,fI))
    ·have h:=hZ ak Bg
     refine ai.skip ?_
     obtain rfl:=aK h
     exact dT 0 (hm (bS.1,bS.2))
   ·have h:=hY ak gV
    refine ai.cE ?_
    refine a4 (aX w7) ?_
    refine bp (hW (i:=4) (q:=1) (β:=a1) (γ:=eS) vd (ab rfl) rfl rfl) ?_
    obtain⟨qo,xt,h⟩:=az h
    refine dD xt (cW (b:=({ (default:eS) with bo:=3,uQ:=2,o4:=1 } :eS)) rfl D5 qf (.cons CR rfl (bN 3) rfl (.cons Kj rfl (bN 2) rfl (.cons CC rfl (bN 1) rfl (.nil))))) ?_
    refine hF [qo] Tryz.underlying31 xi qf ?_
    obtain⟨hG,rz,h⟩:=az h
    refine nX 5 Tryz.underlying31 xi qf rz fun nV pk=> ?_
    refine a4 (aX w7) ?_
    refine ah.jE (i:=4) (γ:=eS) (b':=(({ cL.1 with nN:= [] } :a1):a1)) (os':= [(5,ba av.1 bB.length av.2),(7,ba nV hG.length pk)]) ((aQ.id a1).comp CB) vd (ab rfl) (ab rfl) iD rfl rfl rfl rfl ?_
    refine ah.nil ?_
    obtain rfl:=aK h
    exact dT 0 (hm (nV,pk))
   ·have h:=hZ ak gV
    refine ai.skip ?_
    obtain rfl:=aK h
    exact dT 0 (hm (bm.1,bm.2))
  ·have h:=hY ak en
   refine ai.cE ?_
   refine a4 (aX w7) ?_
   refine bp (hW (i:=4) (q:=1) (β:=a1) (γ:=eS) vd (ab rfl) rfl rfl) ?_
   obtain⟨IJ,Yi,h⟩:=az h
   refine dD Yi (cW (b:=({ (default:eS) with bo:=2,jm:=4,o4:=1 } :eS)) rfl D5 qf (.cons CR rfl (bN 2) rfl (.cons Kd rfl (bN 4) rfl (.cons CC rfl (bN 1) rfl (.nil))))) ?_
   refine hF [IJ] Tryz.underlying31 xi qf ?_
   obtain⟨h6,AK,h⟩:=az h
   refine nX 5 Tryz.underlying31 xi qf AK fun xu vc=> ?_
   refine a4 (aX w7) ?_
   refine ah.jE (i:=4) (γ:=eS) (b':=(({ ({ ({ kR with nI:=cl.1 } :a1) with mZ:= [] } :a1) with nN:= [] } :a1):a1)) (os':= [(5,ba av.1 bB.length av.2),(7,ba xu h6.length vc)]) ((aQ.id a1).comp CB) vd (ab rfl) (ab rfl) iD rfl rfl rfl rfl ?_
   refine ah.nil ?_
   obtain rfl:=aK h
   exact dT 0 (hm (xu,vc))
  ·have h:=hZ ak en
   refine ai.skip ?_
   obtain rfl:=aK h
   exact dT 0 (hm (none,0))
 ·have h:=hY ak cV
  refine ai.cE ?_
  refine a4 (aX Hq) ?_
  refine bp (hW (i:=4) (q:=0) (β:=a1) (γ:=ft) Ep (ab rfl) rfl rfl) ?_
  refine hl Aj sS ({ (default:ft) with bo:=1 } :ft) (iH yC .nil) ?_
  refine hF [({ (default:ft) with bo:=1 } :ft)] Tryz.underlying29 HK sS ?_
  obtain⟨iW,AL,h⟩:=az h
  refine nX 1 Tryz.underlying29 HK sS AL fun vb Om=> ?_
  refine a4 (aX Hq) ?_
  refine ah.jE (i:=4) (γ:=ft) (b':=(({ ({ kR with nI:=cl.1 } :a1) with mZ:= [] } :a1):a1)) (os':= [(5,ba vb iW.length Om),(7,ba none ([]:List eS).length 0)]) ((aQ.id a1).comp FI) Ep (ab rfl) (ab rfl) iD rfl rfl rfl rfl ?_
  refine ah.nil ?_
  obtain rfl:=aK h
  exact dT 0 (hm (vb,Om))
 ·have h:=hZ ak cV
  refine ai.skip ?_
  obtain rfl:=aK h
  exact dT 0 (hm (hN,4))
theorem PY {aa:List aw} {aj:Int} {aT:Int} {cG:aw→aw→Option Int} {gF:Option Nat} {dL:Nat} {r:(List aw)} (h:yc aa aj aT cG=some r):bO Tryz.prog 176 [I.eq (ba gF aa.length dL),I.of (aj),I.of (aT),I.qp Tryz.prog cG] [⟨gF,.row 52 (aa:List aw) dL⟩] (δ:=Unit) (fun d=>I.eD []) (fun d=> [⟨gF,.row 52 (r:List aw) dL⟩]):=by
 unfold yc at h
 refine bO.of Tryz.func176 rfl Tryz.ntmps176 rfl fun W A=> ?_
 refine aE ?_
 refine aC ?_
 refine bs dX ?_
 refine aO ?_
 refine aM ?_
 refine ai.block ?_
 obtain⟨aF,ao,h⟩:=az h
 refine h5 (γ:=Unit) (δ:=Unit) ao [1,2,3] (fun s1 av=> [(0,I.eq (ba gF s1.2.length dL)),(8,I.of (s1.1))]) (fun s1 av=> [(0,⟨gF,.row 52 (s1.2:List aw) dL⟩)]) (fun ax=>Exit.exit 0) (fun ax av=> [(0,I.eq (ba gF ax.2.2.length dL)),(8,I.of (ax.1)),(14,I.of (ax.2.1))]) (fun ax av=> [(0,⟨gF,.row 52 (ax.2.2:List aw) dL⟩)]) () (fun s1 r h av=> ?_) fun av=> ?_
 ·clear ao
  refine ai.seq ?_
  refine aE ?_
  refine aC ?_
  refine aC ?_
  refine bs e1 ?_
  refine aM ?_
  refine cA h (fun h=>?_) fun h=>?_
  ·refine c4 ?_
   refine ai.seq ?_
   refine ai.block ?_
   refine aE ?_
   refine aC ?_
   refine aO ?_
   refine aM ?_
   refine ai.block ?_
   obtain⟨aR,ao,h⟩:=az h
   refine h5 (γ:=Unit) (δ:=Unit) ao [1,2,3,8,14] (fun s2 bm=> [(0,I.eq (ba gF s2.2.length dL)),(9,I.of (s2.1))]) (fun s2 bm=> [(0,⟨gF,.row 52 (s2.2:List aw) dL⟩)]) (fun et=>Exit.exit 2) (fun et bm=> [(0,I.eq (ba gF et.2.2.length dL)),(9,I.of (et.1)),(34,I.of (et.2.1))]) (fun et bm=> [(0,⟨gF,.row 52 (et.2.2:List aw) dL⟩)]) () (fun s2 r h bm=> ?_) fun bm=> ?_
   ·clear ao
    refine ai.seq ?_
    refine ai.seq ?_
    obtain⟨bj,cQ,h⟩:=az h
    obtain⟨bI,cS,h⟩:=az h
    obtain⟨aB,bu,h⟩:=az h
    refine ai.draw mixed 17 ((some 18) :: (some 19) :: (some 20) :: (some 21) :: (some 22) :: (some 23) :: (some 24) :: (some 25) :: (some 26) :: (some 27) :: (some 28) :: (some 29) :: (some 30) :: (some 31) :: (some 32) :: (some 33) :: (some 34) :: []) ([] :: [] :: [0,1] :: [2] :: [3] :: [3] :: [3] :: [3,5,6] :: [3,7] :: [3] :: [3] :: [3,10] :: [3,9,11] :: [3,12] :: [3,4,8,13] :: [3,14] :: [3,15] :: []) (.val _ :: .val _ :: .val _ :: .val _ :: .val _ :: .val _ :: .val _ :: .val _ :: .val _ :: .val _ :: .val _ :: .val _ :: .val _ :: .val _ :: .val _ :: .val _ :: .val _ :: []) (false :: false :: false :: false :: false :: false :: false :: false :: false :: false :: false :: false :: false :: false :: false :: false :: false :: []) (by kernel_rfl) rfl rfl rfl (fun dk=>⟨dc,dc,kc qe,dc,gu fun L' an=>fun hb=>ch (ab rfl),gu fun L' an=>fun hb=>ch (ab rfl),gu fun L' an=>fun hb=>ch (ab rfl),gu fun L' an=>fun hb=>lB (i:=0) (k:=bj) (xs:=(s2.2:List aw)) Tryz.underlying38 cI (cq rfl hb) (cq rfl hb) (an _ _ rfl rfl) (da (ga cQ hb)),gu fun L' an=>fun hb=>p6 (i:=0) (k:=bj) (aQ.id aw) (r:=(aI s2.2 bj)) cI (cq rfl hb) (an _ _ rfl rfl) (da (ga cQ hb)).1 rfl rfl,gu fun L' an=>fun hb=>ch (ab rfl),gu fun L' an=>fun hb=>ch (ab rfl),gu fun L' an=>fun hb=>iE (cq rfl hb) (bN 1),gu fun L' an=>fun hb=>lB (i:=0) (k:=bI) (xs:=(s2.2:List aw)) Tryz.underlying38 cI (cq rfl hb) (cq rfl hb) (an _ _ rfl rfl) (da (ga cS hb)),gu fun L' an=>fun hb=>p6 (i:=0) (k:=bI) (aQ.id aw) (r:=(aI s2.2 bI)) cI (cq rfl hb) (an _ _ rfl rfl) (da (ga cS hb)).1 rfl rfl,gu fun L' an=>fun hb=>zy (cq rfl hb) (cq rfl hb) (cq rfl hb) (ga bu hb),gu fun L' an=>fun hb=>e1 (cq rfl hb) (bN 0),ed fun L' an=>pc (ab rfl) (ab rfl) (fun h=>h),trivial⟩) fun dk=> ?_
    refine aM ?_
    refine cA h (fun h=>?_) fun h=>?_
    ·refine c4 ?_
     refine ai.seq ?_
     refine ai.block ?_
     obtain⟨dv,iI,h⟩:=az h
     obtain⟨ht,rO,h⟩:=az h
     obtain⟨jT,OX,h⟩:=az h
     obtain⟨oT,OY,h⟩:=az h
     refine j8 [0,1,2,3,8,9,14,18,19,20,21,22,23,24,25,26,27,28,29,30,31,32,33,34] ?_
     refine ai.jZ mixed (bk 37 [] [] _ :: bk 38 [] [] _ :: bk 39 [] [] _ :: bk 40 [] [] _ :: bk 41 (3 :: []) [] _ :: bk 42 [] [] _ :: bk 43 [] [] _ :: bk 44 (6 :: []) [] _ :: bk 45 (5 :: 7 :: []) (0 :: []) _ :: bk 46 (8 :: []) (0 :: []) _ :: bk 47 [] [] _ :: bk 48 [] [] _ :: bk 49 (10 :: 11 :: []) (0 :: []) _ :: bk 50 (12 :: []) (0 :: []) _ :: bk 51 (0 :: 1 :: []) (0 :: []) _ :: ⟨none,(8 :: 9 :: 12 :: 13 :: 14 :: []),(0 :: []),(0 :: []),fun _=>I.any,fun hd _=>⟨gF,.row 52 (ea s2.2 jT (aI s2.2 dv):List aw) dL⟩⟩ :: bk 52 (2 :: 4 :: 15 :: []) (0 :: []) _ :: ⟨none,(8 :: 9 :: 12 :: 13 :: 14 :: 15 :: 16 :: []),(0 :: []),(0 :: []),fun _=>I.any,fun hd _=>⟨gF,.row 52 (ea (ea s2.2 jT (aI s2.2 dv)) oT (aI s2.2 ht):List aw) dL⟩⟩ :: []) _ (0 :: 1 :: 2 :: 3 :: 8 :: 9 :: 14 :: 18 :: 19 :: 20 :: 21 :: 22 :: 23 :: 24 :: 25 :: 26 :: 27 :: 28 :: 29 :: 30 :: 31 :: 32 :: 33 :: 34 :: []) rfl rfl (by kernel_rfl) ⟨fg,fg,fg,fg,tt iE,fg,fg,tt iE,cm fun hd E' L' aD an=>lB (i:=0) (k:=dv) (xs:=(s2.2:List aw)) Tryz.underlying38 cI (ab (aD _ _ rfl)) (ab (aD _ _ rfl)) (an 0 _ rfl rfl) (da iI),cm fun hd E' L' aD an=>p6 (i:=0) (k:=dv) (aQ.id aw) (r:=(aI s2.2 dv)) cI (ab (aD _ _ rfl)) (an 0 _ rfl rfl) (da iI).1 rfl rfl,fg,fg,cm fun hd E' L' aD an=>lB (i:=0) (k:=ht) (xs:=(s2.2:List aw)) Tryz.underlying38 cI (ab (aD _ _ rfl)) (ab (aD _ _ rfl)) (an 0 _ rfl rfl) (da rO),cm fun hd E' L' aD an=>p6 (i:=0) (k:=ht) (aQ.id aw) (r:=(aI s2.2 ht)) cI (ab (aD _ _ rfl)) (an 0 _ rfl rfl) (da rO).1 rfl rfl,cm fun hd E' L' aD an=>lB (i:=0) (k:=jT) (xs:=(s2.2:List aw)) Tryz.underlying38 cI (ab (aD _ _ rfl)) (ab (aD _ _ rfl)) (an 0 _ rfl rfl) (da OX),?_,cm fun hd E' L' aD an=>lB (i:=0) (k:=oT) (xs:=(ea s2.2 jT (aI s2.2 dv):List aw)) Tryz.underlying38 cI (Tt (m:=(ea s2.2 jT (aI s2.2 dv)).length) (jC rfl) (ab (aD _ _ rfl))) (ab (aD _ _ rfl)) (an 0 _ rfl rfl) (da OY),?_,trivial⟩ fun eZ=> ?_
     ·intro hd E' L' aD an
      refine ah.ux (i:=0) (k:=jT) (aQ.id aw) (v:=((aI s2.2 dv):aw)) (r:=(ea s2.2 jT (aI s2.2 dv):List aw)) cI (ab (aD _ _ rfl)) (ab (aD _ _ rfl)) (an 0 _ rfl rfl) (da OX).1 rfl rfl ?_
      refine ah.nil ?_
      exact ae.fin (eP []) rfl rfl
     ·intro hd E' L' aD an
      refine ah.ux (i:=0) (k:=oT) (aQ.id aw) (v:=((aI s2.2 ht):aw)) (r:=(ea (ea s2.2 jT (aI s2.2 dv)) oT (aI s2.2 ht):List aw)) cI (ab (aD _ _ rfl)) (ab (aD _ _ rfl)) (an 0 _ rfl rfl) (da OY).1 rfl rfl ?_
      refine ah.nil ?_
      exact ae.fin (eP []) rfl rfl
     refine ae.eo (L2:= [⟨gF,.row 52 (ea (ea s2.2 jT (aI s2.2 dv)) oT (aI s2.2 ht):List aw) dL⟩]) rfl ?_
     refine ae.hM (m:=(ea s2.2 jT (aI s2.2 dv)).length) 0 rfl (jC rfl) ?_
     refine ae.hM (m:=(ea s2.2 jT (aI s2.2 dv)).length) 37 rfl (jC rfl) ?_
     refine ae.hM (m:=(ea s2.2 jT (aI s2.2 dv)).length) 39 rfl (jC rfl) ?_
     refine ae.hM (m:=(ea s2.2 jT (aI s2.2 dv)).length) 42 rfl (jC rfl) ?_
     refine ae.hM (m:=(ea s2.2 jT (aI s2.2 dv)).length) 47 rfl (jC rfl) ?_
     refine ae.hM (m:=(ea (ea s2.2 jT (aI s2.2 dv)) oT (aI s2.2 ht)).length) 0 rfl (jC rfl) ?_
     refine ae.hM (m:=(ea (ea s2.2 jT (aI s2.2 dv)) oT (aI s2.2 ht)).length) 37 rfl (jC rfl) ?_
     refine ae.hM (m:=(ea (ea s2.2 jT (aI s2.2 dv)) oT (aI s2.2 ht)).length) 39 rfl (jC rfl) ?_
     refine ae.hM (m:=(ea (ea s2.2 jT (aI s2.2 dv)) oT (aI s2.2 ht)).length) 42 rfl (jC rfl) ?_
     refine ae.hM (m:=(ea (ea s2.2 jT (aI s2.2 dv)) oT (aI s2.2 ht)).length) 47 rfl (jC rfl) ?_
     refine kP [0,1,2,3,8,9,14,18,19,20,21,22,23,24,25,26,27,28,29,30,31,32,33,34,37,38,39,40,41,42,43,44,45,46,47,48,49,50,51,52] ?_
     refine ae.eC ?_
     refine ae.next ?_
     refine ai.cE ?_
     refine aC ?_
     refine bs iE ?_
     refine aO ?_
     refine ah.nil ?_
     obtain rfl:=aK h
     exact hD () 0
    ·refine ai.exit ?_
     refine ae.exit ?_
     obtain rfl:=aK h
     exact eX () 0
   ·clear ao
    refine ae.gE ?_
    refine ae.eC ?_
    refine ae.next ?_
    refine ai.cE ?_
    refine aC ?_
    refine bs dX ?_
    refine aO ?_
    refine ah.nil ?_
    obtain rfl:=aK h
    exact hD () 0
  ·refine ai.exit ?_
   refine ae.exit ?_
   obtain rfl:=aK h
   exact eX () 0
 ·clear ao
  refine ae.gE ?_
  refine ae.nU ?_
  refine ae.bU 0 rfl ?_
  obtain rfl:=aK h
  exact ae.lA () (.cons_cons _ (List.nil_sublist _)) rfl rfl
theorem Km {aa:Int} {r:Bool} (h:y0 aa=some r):bW Tryz.prog 126 [I.of (aa)] (I.of (r)):=by
 unfold y0 at h
 refine bW.of Tryz.func126 rfl Tryz.ntmps126 rfl fun W A=> ?_
 refine aE ?_
 refine aO ?_
 refine b5 ?_
 refine aC ?_
 refine aC ?_
 refine bs pd ?_
 refine aO ?_
 refine aM ?_
 refine ai.ret ?_
 obtain rfl:=aK h
 exact c7
theorem PZ {aa:List aw} {aj:Int} {aT:Int} {cG:Int} {Fh:aw→aw→Option Int} {gF:Option Nat} {dL:Nat} {r:(List aw)} (h:Cl aa aj aT cG Fh=some r):bO Tryz.prog 131 [I.eq (ba gF aa.length dL),I.of (aj),I.of (aT),I.of (cG),I.qp Tryz.prog Fh] [⟨gF,.row 52 (aa:List aw) dL⟩] (δ:=Unit) (fun d=>I.eD []) (fun d=> [⟨gF,.row 52 (r:List aw) dL⟩]):=by
 unfold Cl at h
 refine bO.of Tryz.func131 rfl Tryz.ntmps131 rfl fun W A=> ?_
 refine aE ?_
 refine aO ?_
 refine b5 ?_
 refine aO ?_
 refine aM ?_
 refine ai.block ?_
 obtain⟨aF,ao,h⟩:=az h
 refine h5 (γ:=Unit) (δ:=Unit) ao [1,2,4] (fun s1 av=> [(0,I.eq (ba gF aa.length dL))]) (fun s1 av=> []) (fun ax=>Exit.ret) (fun ax av=> [(0,I.eq (ba gF ax.2.2.length dL)),(12,I.of (ax.1)),(25,I.of (ax.2.1))]) (fun ax av=> [(0,⟨gF,.row 52 (ax.2.2:List aw) dL⟩)]) () (fun s1 r h av=> ?_) fun av=> ?_
 ·clear ao
  refine ai.block ?_
  refine aE ?_
  refine aC ?_
  refine aC ?_
  refine bs iE ?_
  refine aO ?_
  refine bY ?_
  refine aE ?_
  refine aC ?_
  refine bs Ab ?_
  refine aM ?_
  refine cA h (fun h=>?_) fun h=>?_
  ·refine aE ?_
   refine aC ?_
   refine aC ?_
   refine aC ?_
   refine aC ?_
   refine ah.bU 0 rfl ?_
   obtain⟨aB,bu,h⟩:=az h
   refine eE 1 Wb (PY (G2 bu)) fun et=> ?_
   refine ah.hM (m:=aB.length) 0 rfl ((uc bu).symm) ?_
   refine ah.hM (m:=aB.length) 26 rfl ((uc bu).symm) ?_
   refine aM ?_
   refine ai.ret ?_
   refine ae.ret ?_
   refine ae.dR ?_
   obtain rfl:=aK h
   exact eX () 0
  ·cases h
 ·clear ao
  refine ae.dR ?_
  refine ae.bU 0 rfl ?_
  obtain rfl:=aK h
  exact ae.lA () (.cons_cons _ (List.nil_sublist _)) rfl rfl
theorem sn {aa:Int} {aj:Int} {r:Int} (h:oi aa aj=some r):bW Tryz.prog 92 [I.of (aa),I.of (aj)] (I.of (r)):=by
 unfold oi at h
 refine bW.of Tryz.func92 rfl Tryz.ntmps92 rfl fun W A=> ?_
 refine aE ?_
 refine aO ?_
 refine b5 ?_
 refine aC ?_
 obtain⟨aB,bu,h⟩:=az h
 refine fQ Nh (Km bu) ?_
 refine aO ?_
 refine b5 ?_
 refine aC ?_
 obtain⟨aH,cB,h⟩:=az h
 refine fQ Nh (Km cB) ?_
 refine aO ?_
 refine bY ?_
 refine aE ?_
 refine aC ?_
 refine aM ?_
 refine cA h (fun h=>?_) fun h=>?_
 ·refine ai.seq ?_
  refine aE ?_
  refine aC ?_
  refine aM ?_
  refine cA h (fun h=>?_) fun h=>?_
  ·refine aE ?_
   refine aO ?_
   refine aM ?_
   refine ai.ret ?_
   refine ae.ret ?_
   refine ae.ret ?_
   obtain rfl:=aK h
   exact c7
  ·refine c4 ?_
   refine aE ?_
   refine aO ?_
   refine aM ?_
   refine ai.ret ?_
   refine ae.ret ?_
   obtain rfl:=aK h
   exact c7
 ·refine c4 ?_
  refine ai.seq ?_
  refine aE ?_
  refine aC ?_
  refine aM ?_
  refine cA h (fun h=>?_) fun h=>?_
  ·refine aE ?_
   refine aO ?_
   refine aM ?_
   refine ai.ret ?_
   refine ae.ret ?_
   obtain rfl:=aK h
   exact c7
  ·refine c4 ?_
   refine ai.seq ?_
   refine aE ?_
   refine aC ?_
   refine aC ?_
   refine bs e1 ?_
   refine aM ?_
   refine cA h (fun h=>?_) fun h=>?_
   ·refine aE ?_
    refine aO ?_
    refine aM ?_
    refine ai.ret ?_
    refine ae.ret ?_
    obtain rfl:=aK h
    exact c7
   ·refine c4 ?_
    refine ai.seq ?_
    refine aE ?_
    refine aC ?_
    refine aC ?_
    refine bs qe ?_
    refine aM ?_
    refine cA h (fun h=>?_) fun h=>?_
    ·refine aE ?_
     refine aO ?_
     refine aM ?_
     refine ai.ret ?_
     refine ae.ret ?_
     obtain rfl:=aK h
     exact c7
    ·refine c4 ?_
     refine aE ?_
     refine aO ?_
     refine aM ?_
     refine ai.ret ?_
     obtain rfl:=aK h
     exact c7
theorem QX {hp:aN Cell} {aa:jW} {aj:bh} {r:Int × Bool} (h:yM hp aa aj=some r):bO Tryz.prog 227 [I.of (aa),I.of (aj)] ([] ++ aV hp) (δ:=Unit) (fun _=>I.eD [I.of (r.1),I.of (r.2)]) (fun _=> [] ++ aV hp):=by
 unfold yM at h
 refine bO.of Tryz.func227 rfl Tryz.ntmps227 rfl fun W A=> ?_
 refine aE ?_
 refine cz fun aW=> ?_
 refine cz fun a2=> ?_
 refine aO ?_
 refine aO ?_
 refine bY ?_
 obtain⟨aB,bu,h⟩:=az h
 obtain⟨aH,cB,h⟩:=az h
 refine j8 [0,1,2,3] ?_
 refine ai.uR 2 mixed (bk 6 [] [] _ :: bk 7 (0 :: []) (1 :: []) _ :: bk 8 [] (0 :: []) _ :: bk 9 (2 :: []) [] _ :: ⟨some 10,(1 :: 3 :: []),[],[],fun _=>I.eD [I.of (aH.1),I.of (aH.2)],fun _ _=>⟨none,.dead⟩⟩ :: bk 11 (4 :: []) [] _ :: bk 12 (4 :: []) [] _ :: bk 4 (5 :: []) [] _ :: bk 5 (6 :: []) [] _ :: []) _ (0 :: 1 :: 2 :: 3 :: []) rfl rfl (by kernel_rfl) (by kernel_rfl) ⟨c3.q (fx (aX G0)),c3.q (py 1 CI DW),c3.q (pz 0 fP),c3.q (cm fun hd E' L' aD an=>ly DX (CX bu) ⟨ab (aD _ _ rfl),trivial⟩),?_,c3.q (cm fun hd E' L' aD an=>m9 (ab (aD _ _ rfl)) rfl),c3.q (cm fun hd E' L' aD an=>m9 (ab (aD _ _ rfl)) rfl),c3.q (cm fun hd E' L' aD an=>eH (ab (aD _ _ rfl))),c3.q (cm fun hd E' L' aD an=>eH (ab (aD _ _ rfl))),trivial⟩ fun eZ=> ?_
 ·intro hd E' L' aD an dK
  refine ah.iN (fS.jF 2 (dK.trans rfl) Ni (Kh cB) ⟨ab (aD _ _ rfl),ab (aD _ _ rfl),trivial⟩) rfl rfl rfl ?_
  refine ah.nil ?_
  exact ae.fin (eP []) rfl rfl
 refine ae.eo (L2:=(⟨some a2,.var (aj:bh)⟩ :: ⟨some aW,.var (aa:jW)⟩ :: aV hp)) rfl ?_
 refine kP [0,1,2,3,4,5,6,7,8,9,10,11,12] ?_
 refine ae.next ?_
 refine ai.ret ?_
 obtain rfl:=aK h
 exact ae.kl () (.cons _ (.cons _ (.refl _))) rfl rfl (dH rfl) (dH rfl)
theorem FF {aa:gA} {aj:bh} {r:(Vector aA 4) × aA × Int} (h:tF aa aj=some r):bW Tryz.prog 239 [I.of (aa),I.of (aj)] (I.eD [I.of (r.1),I.of (r.2.1),I.of (r.2.2)]):=by
 unfold tF at h
 refine bW.of Tryz.func239 rfl Tryz.ntmps239 rfl fun W A=> ?_
 refine aE ?_
 refine cz fun aW=> ?_
 refine cz fun a2=> ?_
 refine dJ xg fun bF=> ?_
 refine dJ eA fun iO=> ?_
 refine aO ?_
 refine bY ?_
 obtain⟨aB,bu,h⟩:=az h
 obtain⟨aH,cB,h⟩:=az h
 refine ai.draw mixed 10 [some 10,some 11,some 12,some 13,some 9,some 14,some 15,some 7,some 8,none] [[],[],[1],[0,2],[3],[4],[4],[],[],[5,7]] [.val _,.val _,.val _,.val _,.val _,.val _,.val _,.new (.var (default:Vector aA 4)),.new (.var (default:aA)),.mb 7 (.var (aH.1:Vector aA 4))] [false,false,false,false,false,false,false,false,false,true] (by kernel_rfl) rfl rfl rfl (fun dk=>⟨gW 3 D6,gW 2 fP,fv DX (CX bu),fv Wc (Qp cB),dc,xH,xH,zw xg,zw eA,⟨rfl,_,rfl,fun L' q hq=>w2 (i:=q) (aQ.id (Vector aA 4)) (v:=(aH.1:Vector aA 4)) (b':=(aH.1:Vector aA 4)) km (ab rfl) (ab rfl) hq rfl rfl⟩,trivial⟩) fun dk=> ?_
 refine cY 1 b8 ?_
 refine bY ?_
 refine aE ?_
 refine a4 (aX Dq) ?_
 refine ct 5 ym bK ?_
 refine a4 (aX lX) ?_
 refine ct 4 lu lF ?_
 refine a4 (eT Tryz.underlying47) ?_
 refine bs mx ?_
 refine aM ?_
 refine cA h (fun h=>?_) fun h=>?_
 ·refine ai.seq ?_
  refine ai.draw mixed 3 [some 22,some 23,none] [[],[],[0]] [.val _,.val _,.kN 3 (.var (aH.1:Vector aA 4))] [false,false,true] (by kernel_rfl) rfl rfl rfl (fun mH=>⟨gW 0 km,gW 1 b8,⟨_,_,rfl,fun L' an=>w2 (i:=3) (aQ.id (Vector aA 4)) (v:=(aH.1:Vector aA 4)) (b':=(aH.1:Vector aA 4)) km (ab rfl) (ab rfl) (an _ _ rfl) rfl rfl⟩,trivial⟩) fun mH=> ?_
  refine cY 2 b8 ?_
  refine aO ?_
  refine aM ?_
  refine ai.ret ?_
  refine ae.ret ?_
  obtain rfl:=aK h
  exact ae.On rfl (hn 3 km) (hn 2 b8) (ve rfl)
 ·refine c4 ?_
  refine ai.seq ?_
  obtain⟨bj,cQ,h⟩:=az h
  refine ai.draw mixed 11 [some 24,some 25,some 26,some 27,some 28,some 29,some 30,some 31,some 32,none,none] [[],[],[],[2],[],[4],[3,5],[6],[7],[0],[1]] [.val _,.val _,.val _,.val _,.val _,.val _,.val _,.val _,.val _,.kN 3 (.var (aH.1:Vector aA 4)),.kN 2 (.var (aH.2:aA))] [false,false,false,false,false,false,false,false,false,true,true] (by kernel_rfl) rfl rfl rfl (fun Zi=>⟨gW 0 km,gW 1 b8,H1 (aX lX),ey 4 lu lF,H1 (aX Dq),ey 5 ym bK,nk cQ Tryz.underlying47 fp,vl oZ sI,H1 (eh bK),⟨_,_,rfl,fun L' an=>w2 (i:=3) (aQ.id (Vector aA 4)) (v:=(aH.1:Vector aA 4)) (b':=(aH.1:Vector aA 4)) km (ab rfl) (ab rfl) (an _ _ rfl) rfl rfl⟩,⟨_,_,rfl,fun L' an=>w2 (i:=2) (aQ.id aA) (v:=(aH.2:aA)) (b':=(aH.2:aA)) b8 (ab rfl) (ab rfl) (an _ _ rfl) rfl rfl⟩,trivial⟩) fun Zi=> ?_
  refine aO ?_
  refine aM ?_
  refine ai.ret ?_
  obtain rfl:=aK h
  exact ae.On rfl (hn 3 km) (hn 2 b8) (ve rfl)
theorem KA {aa:Int} {r:aA} (h:wJ aa=some r):bW Tryz.prog 188 [I.of (aa)] (I.of (r)):=by
 unfold wJ at h
 refine bW.of Tryz.func188 rfl Tryz.ntmps188 rfl fun W A=> ?_
 refine aE ?_
 refine dJ eA fun aW=> ?_
 refine b5 ?_
 obtain⟨bL,dS,h⟩:=az h
 refine dD dS (cW (b:= { de:=18446744073709551615#64,b2:=18446744073709551615#64:aA }) rfl hh eA (.cons ia rfl (fT 18446744073709551615 rfl) rfl (.cons eM rfl (fT 18446744073709551615 rfl) rfl (.nil)))) ?_
 refine aC ?_
 obtain⟨aB,bu,h⟩:=az h
 refine fQ Nj (Kq bu) ?_
 refine bs iE ?_
 obtain⟨aH,cB,h⟩:=az h
 refine fQ Nk (Kw cB) ?_
 refine cY 0 b8 ?_
 refine aM ?_
 refine ai.ret ?_
 obtain rfl:=aK h
 exact ae.iU rfl (hn 0 b8)
theorem KH {aa:aA} {aj:Int} {r:Bool} (h:tU aa aj=some r):bW Tryz.prog 196 [I.of (aa),I.of (aj)] (I.of (r)):=by
 unfold tU at h
 refine bW.of Tryz.func196 rfl Tryz.ntmps196 rfl fun W A=> ?_
 refine aE ?_
 refine cz fun aW=> ?_
 refine aO ?_
 refine b5 ?_
 refine aC ?_
 refine bs mx ?_
 refine aC ?_
 refine dB ch ?_
 refine kO e1 ?_
 refine k9 ?_
 refine aC ?_
 refine eQ (fun hb=>e9 (i:=0) (aQ.id aA) (r:=aa) b8 (ab rfl) rfl rfl rfl) ?_
 refine dB ch ?_
 obtain⟨aB,bu,h⟩:=az h
 refine eQ (fun hb=>ly Nk (Kw (ga bu hb)) ⟨cq rfl hb,cq rfl hb,trivial⟩) ?_
 refine eQ (fun hb=>GZ eM ME fo rfl (cq rfl hb) rfl rfl) ?_
 refine eQ (fun hb=>qX (cq rfl hb) (fT 1 rfl)) ?_
 refine eQ (fun hb=>wU (cq rfl hb) (fT 1 rfl)) ?_
 obtain⟨bL,dS,h⟩:=az h
 refine dD dS (pc (ab rfl) (ab rfl) (fun h=>h)) ?_
 refine aO ?_
 refine aM ?_
 refine ai.ret ?_
 obtain rfl:=aK h
 exact c7
theorem P5 {aa:List bR} {aj:List bR} {aT:bR→bR→Option Int} {r:Int} (h:yf aa aj aT=some r):bW Tryz.prog 134 [I.of (aa),I.of (aj),I.qp Tryz.prog aT] (I.of (r)):=by
 unfold yf at h
 refine bW.of Tryz.func134 rfl Tryz.ntmps134 rfl fun W A=> ?_
 refine aE ?_
 refine aO ?_
 refine bY ?_
 refine aE ?_
 refine aC ?_
 refine a4 (eT Tryz.underlying47) ?_
 refine aC ?_
 refine aM ?_
 refine ai.block ?_
 obtain⟨aF,ao,h⟩:=az h
 refine h5 (γ:=Unit) (δ:=Unit) ao [0,1,2,11,12] (fun s1 av=> [(6,I.of (0:Int)),(13,I.of (s1))]) (fun s1 av=> []) (fun ax=>Sum.elim (fun ax=>Exit.exit 0) (fun ax=>Exit.ret) ax) (fun ax av=>Sum.elim (fun ax=> [(6,I.of (0:Int)),(13,I.of (ax.1)),(14,I.of (ax.2))]) (fun ax=> [(6,I.of (ax.1)),(7,I.of (ax.2.1)),(13,I.of (ax.2.2.1)),(14,I.of (ax.2.2.2.1)),(21,I.of (ax.2.2.2.2))]) ax) (fun ax av=>Sum.elim (fun ax=> []) (fun ax=> []) ax) () (fun s1 r h av=> ?_) fun av=> ?_
 ·clear ao
  refine aE ?_
  refine bs e1 ?_
  refine bY ?_
  refine cA h (fun h=>?_) fun h=>?_
  ·refine c4 ?_
   refine ai.seq ?_
   refine ai.block ?_
   refine aE ?_
   refine aC ?_
   obtain⟨bj,cQ,h⟩:=az h
   refine ik cQ Tryz.underlying47 fp ?_
   refine a4 (eh fp) ?_
   refine dJ lE fun aW=> ?_
   refine aO ?_
   refine cY 0 fp ?_
   refine bY ?_
   refine aE ?_
   refine aC ?_
   refine aC ?_
   refine a4 (eT Tryz.underlying47) ?_
   refine bs mx ?_
   refine aM ?_
   refine cA h (fun h=>?_) fun h=>?_
   ·refine aE ?_
    refine aO ?_
    refine aM ?_
    refine ai.ret ?_
    refine ae.ret ?_
    refine ae.dR ?_
    refine ae.ret ?_
    obtain rfl:=aK h
    exact eX () 1
   ·refine c4 ?_
    refine aE ?_
    refine aC ?_
    refine aC ?_
    obtain⟨bI,cS,h⟩:=az h
    refine ik cS Tryz.underlying47 fp ?_
    refine a4 (eh fp) ?_
    refine dJ lE fun a2=> ?_
    refine cY 0 fp ?_
    refine b5 ?_
    refine aC ?_
    refine cR 1 fp ?_
    refine cR 0 fp ?_
    obtain⟨aB,bu,h⟩:=az h
    refine bp (zy (ab rfl) (ab rfl) (ab rfl) bu) ?_
    refine aO ?_
    refine b5 ?_
    refine aC ?_
    refine bs pd ?_
    refine aM ?_
    refine cA h (fun h=>?_) fun h=>?_
    ·refine aE ?_
     refine aC ?_
     refine aO ?_
     refine aM ?_
     refine ai.ret ?_
     refine ae.dR ?_
     refine ae.ret ?_
     obtain rfl:=aK h
     exact eX () 2
    ·refine ai.skip ?_
     refine ae.eC ?_
     refine ae.next ?_
     refine ai.cE ?_
     refine bs dX ?_
     refine aC ?_
     refine ah.nil ?_
     obtain rfl:=aK h
     exact hD () 2
  ·refine ai.exit ?_
   refine ae.exit ?_
   obtain rfl:=aK h
   exact eX () 0
 ·clear ao
  rcases aF with aF | aF
  ·simp only [Sum.elim_inl] at h
   refine ae.gE ?_
   refine ae.next ?_
   refine ai.seq ?_
   refine aE ?_
   refine aC ?_
   refine a4 (eT Tryz.underlying47) ?_
   refine aC ?_
   refine a4 (eT Tryz.underlying47) ?_
   refine bs e1 ?_
   refine aM ?_
   refine cA h (fun h=>?_) fun h=>?_
   ·refine aE ?_
    refine aO ?_
    refine aM ?_
    refine ai.ret ?_
    refine ae.ret ?_
    obtain rfl:=aK h
    exact c7
   ·refine c4 ?_
    refine aE ?_
    refine aO ?_
    refine aM ?_
    refine ai.ret ?_
    obtain rfl:=aK h
    exact c7
  ·simp only [Sum.elim_inr] at h
   refine ae.dR ?_
   refine ae.ret ?_
   obtain rfl:=aK h
   exact c7
theorem P6 {aa:List aA} {aj:List aA} {aT:aA→aA→Option Int} {r:Int} (h:yg aa aj aT=some r):bW Tryz.prog 136 [I.of (aa),I.of (aj),I.qp Tryz.prog aT] (I.of (r)):=by
 unfold yg at h
 refine bW.of Tryz.func136 rfl Tryz.ntmps136 rfl fun W A=> ?_
 refine aE ?_
 refine aO ?_
 refine bY ?_
 refine aE ?_
 refine aC ?_
 refine a4 (eT Tryz.underlying48) ?_
 refine aC ?_
 refine aM ?_
 refine ai.block ?_
 obtain⟨aF,ao,h⟩:=az h
 refine h5 (γ:=Unit) (δ:=Unit) ao [0,1,2,11,12] (fun s1 av=> [(6,I.of (0:Int)),(13,I.of (s1))]) (fun s1 av=> []) (fun ax=>Sum.elim (fun ax=>Exit.exit 0) (fun ax=>Exit.ret) ax) (fun ax av=>Sum.elim (fun ax=> [(6,I.of (0:Int)),(13,I.of (ax.1)),(14,I.of (ax.2))]) (fun ax=> [(6,I.of (ax.1)),(7,I.of (ax.2.1)),(13,I.of (ax.2.2.1)),(14,I.of (ax.2.2.2.1)),(21,I.of (ax.2.2.2.2))]) ax) (fun ax av=>Sum.elim (fun ax=> []) (fun ax=> []) ax) () (fun s1 r h av=> ?_) fun av=> ?_
 ·clear ao
  refine aE ?_
  refine bs e1 ?_
  refine bY ?_
  refine cA h (fun h=>?_) fun h=>?_
  ·refine c4 ?_
   refine ai.seq ?_
   refine ai.block ?_
   refine aE ?_
   refine aC ?_
   obtain⟨bj,cQ,h⟩:=az h
   refine ik cQ Tryz.underlying48 b8 ?_
   refine a4 (eh b8) ?_
   refine dJ eA fun aW=> ?_
   refine aO ?_
   refine cY 0 b8 ?_
   refine bY ?_
   refine aE ?_
   refine aC ?_
   refine aC ?_
   refine a4 (eT Tryz.underlying48) ?_
   refine bs mx ?_
   refine aM ?_
   refine cA h (fun h=>?_) fun h=>?_
   ·refine aE ?_
    refine aO ?_
    refine aM ?_
    refine ai.ret ?_
    refine ae.ret ?_
    refine ae.dR ?_
    refine ae.ret ?_
    obtain rfl:=aK h
    exact eX () 1
   ·refine c4 ?_
    refine aE ?_
    refine aC ?_
    refine aC ?_
    obtain⟨bI,cS,h⟩:=az h
    refine ik cS Tryz.underlying48 b8 ?_
    refine a4 (eh b8) ?_
    refine dJ eA fun a2=> ?_
    refine cY 0 b8 ?_
    refine b5 ?_
    refine aC ?_
    refine cR 1 b8 ?_
    refine cR 0 b8 ?_
    obtain⟨aB,bu,h⟩:=az h
    refine bp (zy (ab rfl) (ab rfl) (ab rfl) bu) ?_
    refine aO ?_
    refine b5 ?_
    refine aC ?_
    refine bs pd ?_
    refine aM ?_
    refine cA h (fun h=>?_) fun h=>?_
    ·refine aE ?_
     refine aC ?_
     refine aO ?_
     refine aM ?_
     refine ai.ret ?_
     refine ae.dR ?_
     refine ae.ret ?_
     obtain rfl:=aK h
     exact eX () 2
    ·refine ai.skip ?_
     refine ae.eC ?_
     refine ae.next ?_
     refine ai.cE ?_
     refine bs dX ?_
     refine aC ?_
     refine ah.nil ?_
     obtain rfl:=aK h
     exact hD () 2
  ·refine ai.exit ?_
   refine ae.exit ?_
   obtain rfl:=aK h
   exact eX () 0
 ·clear ao
  rcases aF with aF | aF
  ·simp only [Sum.elim_inl] at h
   refine ae.gE ?_
   refine ae.next ?_
   refine ai.seq ?_
   refine aE ?_
   refine aC ?_
   refine a4 (eT Tryz.underlying48) ?_
   refine aC ?_
   refine a4 (eT Tryz.underlying48) ?_
   refine bs e1 ?_
   refine aM ?_
   refine cA h (fun h=>?_) fun h=>?_
   ·refine aE ?_
    refine aO ?_
    refine aM ?_
    refine ai.ret ?_
    refine ae.ret ?_
    obtain rfl:=aK h
    exact c7
   ·refine c4 ?_
    refine aE ?_
    refine aO ?_
    refine aM ?_
    refine ai.ret ?_
    obtain rfl:=aK h
    exact c7
  ·simp only [Sum.elim_inr] at h
   refine ae.dR ?_
   refine ae.ret ?_
   obtain rfl:=aK h
   exact c7
theorem F6 {aa:List Int} {r:Int} (h:qS aa=some r):bW Tryz.prog 133 [I.of (aa)] (I.of (r)):=by
 unfold qS at h
 refine bW.of Tryz.func133 rfl Tryz.ntmps133 rfl fun W A=> ?_
 refine aE ?_
 refine aO ?_
 refine bY ?_
 refine aE ?_
 refine aC ?_
 refine a4 (eT Tryz.underlying63) ?_
 refine aC ?_
 refine aM ?_
 refine ai.block ?_
 obtain⟨aF,ao,h⟩:=az h
 refine h5 (γ:=Unit) (δ:=Unit) ao [0,5,6] (fun s1 av=> [(2,I.of (0:Int)),(7,I.of (s1))]) (fun s1 av=> []) (fun ax=>Sum.elim (fun ax=>Exit.exit 0) (fun ax=>Exit.ret) ax) (fun ax av=>Sum.elim (fun ax=> [(2,I.of (0:Int)),(7,I.of (ax.1)),(8,I.of (ax.2))]) (fun ax=> [(2,I.of (ax.1)),(4,I.of (ax.2.1)),(7,I.of (ax.2.2.1)),(8,I.of (ax.2.2.2.1)),(12,I.of (ax.2.2.2.2))]) ax) (fun ax av=>Sum.elim (fun ax=> []) (fun ax=> []) ax) () (fun s1 r h av=> ?_) fun av=> ?_
 ·clear ao
  refine aE ?_
  refine bs e1 ?_
  refine bY ?_
  refine cA h (fun h=>?_) fun h=>?_
  ·refine c4 ?_
   refine ai.seq ?_
   refine ai.block ?_
   refine aE ?_
   obtain⟨bj,cQ,h⟩:=az h
   refine ik cQ Tryz.underlying63 bK ?_
   refine a4 (eh bK) ?_
   refine aO ?_
   refine b5 ?_
   refine aC ?_
   refine bs pd ?_
   refine aM ?_
   refine cA h (fun h=>?_) fun h=>?_
   ·refine aE ?_
    refine aC ?_
    refine aO ?_
    refine aM ?_
    refine ai.ret ?_
    refine ae.dR ?_
    refine ae.ret ?_
    obtain rfl:=aK h
    exact eX () 0
   ·refine ai.skip ?_
    refine ae.eC ?_
    refine ae.next ?_
    refine ai.cE ?_
    refine bs dX ?_
    refine aC ?_
    refine ah.nil ?_
    obtain rfl:=aK h
    exact hD () 0
  ·refine ai.exit ?_
   refine ae.exit ?_
   obtain rfl:=aK h
   exact eX () 0
 ·clear ao
  rcases aF with aF | aF
  ·simp only [Sum.elim_inl] at h
   refine ae.gE ?_
   refine ae.next ?_
   refine aE ?_
   refine aO ?_
   refine aM ?_
   refine ai.ret ?_
   obtain rfl:=aK h
   exact c7
  ·simp only [Sum.elim_inr] at h
   refine ae.dR ?_
   refine ae.ret ?_
   obtain rfl:=aK h
   exact c7
theorem Kn {aa:bR} {r:Int} (h:wx aa=some r):bW Tryz.prog 186 [I.of (aa)] (I.of (r)):=by
 unfold wx at h
 refine bW.of Tryz.func186 rfl Tryz.ntmps186 rfl fun W A=> ?_
 refine aE ?_
 refine cz fun aW=> ?_
 refine aO ?_
 refine bY ?_
 refine aE ?_
 refine a4 (aX w8) ?_
 refine ct 0 nC hE ?_
 refine aM ?_
 refine cA h (fun h=>?_) fun h=>?_
 ·refine aE ?_
  refine aO ?_
  refine aM ?_
  refine ai.ret ?_
  refine ae.ret ?_
  obtain rfl:=aK h
  exact c7
 ·refine c4 ?_
  refine aE ?_
  refine aO ?_
  refine aM ?_
  refine ai.ret ?_
  obtain rfl:=aK h
  exact c7
theorem R3 {aa:aA} {aj:aA} {r:aA} (h:zi aa aj=some r):bW Tryz.prog 193 [I.of (aa),I.of (aj)] (I.of (r)):=by
 unfold zi at h
 refine bW.of Tryz.func193 rfl Tryz.ntmps193 rfl fun W A=> ?_
 refine aE ?_
 refine cz fun aW=> ?_
 refine cz fun a2=> ?_
 refine dJ eA fun bF=> ?_
 refine b5 ?_
 refine a4 (aX lW) ?_
 refine ct 2 ia fo ?_
 refine a4 (aX lW) ?_
 refine ct 1 ia fo ?_
 refine bs Ma ?_
 refine a4 (aX jY) ?_
 refine ct 2 eM fo ?_
 refine a4 (aX jY) ?_
 refine ct 1 eM fo ?_
 refine bs Ma ?_
 obtain⟨bL,dS,h⟩:=az h
 refine dD dS (cW (b:= { de:=aa.de ^^^ aj.de,b2:=aa.b2 ^^^ aj.b2:aA }) rfl hh eA (.cons ia rfl (ab rfl) rfl (.cons eM rfl (ab rfl) rfl (.nil)))) ?_
 refine cY 0 b8 ?_
 refine aM ?_
 refine ai.ret ?_
 obtain rfl:=aK h
 exact ae.iU rfl (hn 0 b8)
theorem R4 {aa:aA} {aj:aA} {r:aA} (h:C3 aa aj=some r):bW Tryz.prog 148 [I.of (aa),I.of (aj)] (I.of (r)):=by
 unfold C3 at h
 refine bW.of Tryz.func148 rfl Tryz.ntmps148 rfl fun W A=> ?_
 refine aE ?_
 refine cz fun aW=> ?_
 refine cz fun a2=> ?_
 refine dJ eA fun bF=> ?_
 refine b5 ?_
 refine a4 (aX lW) ?_
 refine ct 2 ia fo ?_
 refine a4 (aX lW) ?_
 refine ct 1 ia fo ?_
 refine bs qX ?_
 refine a4 (aX jY) ?_
 refine ct 2 eM fo ?_
 refine a4 (aX jY) ?_
 refine ct 1 eM fo ?_
 refine bs qX ?_
 obtain⟨bL,dS,h⟩:=az h
 refine dD dS (cW (b:= { de:=aa.de &&& aj.de,b2:=aa.b2 &&& aj.b2:aA }) rfl hh eA (.cons ia rfl (ab rfl) rfl (.cons eM rfl (ab rfl) rfl (.nil)))) ?_
 refine cY 0 b8 ?_
 refine aM ?_
 refine ai.ret ?_
 obtain rfl:=aK h
 exact ae.iU rfl (hn 0 b8)
theorem F4 {aa:Ref} {aj:aA} {aT:Int} {r:Int × aA × Ref} (h:yX aa aj aT=some r):bW Tryz.prog 250 [I.of (aa),I.of (aj),I.of (aT)] (I.gy 255 [I.ptr r.1,I.ptr r.2.1,I.ptr r.2.2]):=by
 unfold yX at h
 refine bW.of Tryz.func250 rfl Tryz.ntmps250 rfl fun W A=> ?_
 refine aE ?_
 refine cz fun aW=> ?_
 refine cz fun a2=> ?_
 refine cz fun bF=> ?_
 refine bp (eH (MA .nilFunc)) ?_
 refine b5 ?_
 refine ah.share (α:=Int) 0 5 rfl rfl ?_
 refine ah.share (α:=aA) 1 4 rfl rfl ?_
 refine ah.share (α:=Ref) 2 3 rfl rfl ?_
 refine bp (Wd (f:=255) (τs:= [I.ptr aT,I.ptr aj,I.ptr aa]) ⟨ab rfl,ab rfl,ab rfl,trivial⟩) ?_
 refine aO ?_
 refine aM ?_
 refine ai.ret ?_
 obtain rfl:=aK h
 exact c7
theorem Qj {aa:List bR} {aj:List bR} {r:Bool} (h:yl aa aj=some r):bW Tryz.prog 270 [I.of (aa),I.of (aj)] (I.of (r)):=by
 unfold yl at h
 refine bW.of Tryz.func270 rfl Tryz.ntmps270 rfl fun W A=> ?_
 refine aE ?_
 refine aO ?_
 refine bY ?_
 refine aE ?_
 refine aC ?_
 refine a4 (eT Tryz.underlying47) ?_
 refine aC ?_
 refine a4 (eT Tryz.underlying47) ?_
 refine bs pd ?_
 refine aM ?_
 refine cA h (fun h=>?_) fun h=>?_
 ·refine aE ?_
  refine aO ?_
  refine aM ?_
  refine ai.ret ?_
  refine ae.ret ?_
  obtain rfl:=aK h
  exact c7
 ·refine c4 ?_
  refine ai.seq ?_
  refine aE ?_
  refine aC ?_
  refine a4 (eT Tryz.underlying47) ?_
  refine aC ?_
  refine aM ?_
  refine ai.block ?_
  obtain⟨aF,ao,h⟩:=az h
  refine h5 (γ:=Unit) (δ:=Unit) ao [0,1,4,10,12] (fun s1 av=> [(13,I.of (s1))]) (fun s1 av=> []) (fun ax=>Sum.elim (fun ax=>Exit.exit 0) (fun ax=>Exit.ret) ax) (fun ax av=>Sum.elim (fun ax=> [(13,I.of (ax.1)),(14,I.of (ax.2))]) (fun ax=> [(5,I.of (ax.1)),(13,I.of (ax.2.1)),(14,I.of (ax.2.2.1)),(24,I.of (ax.2.2.2))]) ax) (fun ax av=>Sum.elim (fun ax=> []) (fun ax=> []) ax) () (fun s1 r h av=> ?_) fun av=> ?_
  ·clear ao
   refine aE ?_
   refine bs e1 ?_
   refine bY ?_
   refine cA h (fun h=>?_) fun h=>?_
   ·refine c4 ?_
    refine ai.seq ?_
    refine ai.block ?_
    refine aE ?_
    refine aC ?_
    refine aO ?_
    refine bY ?_
    obtain⟨bj,cQ,h⟩:=az h
    obtain⟨bI,cS,h⟩:=az h
    refine ai.draw mixed 9 [some 16,some 17,some 18,some 19,some 20,some 21,some 22,some 23,some 24] [[],[],[0,1],[2],[],[],[4,5],[6],[3,7]] [.val _,.val _,.val _,.val _,.val _,.val _,.val _,.val _,.val _] [false,false,false,false,false,false,false,false,false] (by kernel_rfl) rfl rfl rfl (fun dk=>⟨dc,dc,nk cQ Tryz.underlying47 fp,H1 (eh fp),dc,dc,nk cS Tryz.underlying47 fp,H1 (eh fp),kc (HL Nl rfl Nm rfl),trivial⟩) fun dk=> ?_
    refine aM ?_
    refine cA h (fun h=>?_) fun h=>?_
    ·refine aE ?_
     refine aO ?_
     refine aM ?_
     refine ai.ret ?_
     refine ae.dR ?_
     refine ae.ret ?_
     obtain rfl:=aK h
     exact eX () 0
    ·refine ai.skip ?_
     refine ae.eC ?_
     refine ae.next ?_
     refine ai.cE ?_
     refine bs dX ?_
     refine aC ?_
     refine ah.nil ?_
     obtain rfl:=aK h
     exact hD () 0
   ·refine ai.exit ?_
    refine ae.exit ?_
    obtain rfl:=aK h
    exact eX () 0
  ·clear ao
   rcases aF with aF | aF
   ·simp only [Sum.elim_inl] at h
    refine ae.gE ?_
    refine ae.next ?_
    refine aE ?_
    refine aO ?_
    refine aM ?_
    refine ai.ret ?_
    obtain rfl:=aK h
    exact c7
   ·simp only [Sum.elim_inr] at h
    refine ae.dR ?_
    refine ae.ret ?_
    obtain rfl:=aK h
    exact c7
theorem Ki {hp:aN Cell} {aa:Ref} {r:Bool} (h:wq hp aa=some r):bO Tryz.prog 252 [I.of (aa)] ([] ++ aV hp) (δ:=Unit) (fun _=>I.of (r)) (fun _=> [] ++ aV hp):=by
 unfold wq at h
 refine bO.of Tryz.func252 rfl Tryz.ntmps252 rfl fun W A=> ?_
 refine aE ?_
 refine aO ?_
 refine b5 ?_
 refine aC ?_
 obtain⟨b6,c8,h⟩:=az h
 refine bp (dx (dZ (ab rfl) c8)) ?_
 refine a4 (aX q0) ?_
 obtain⟨bq,dM,h⟩:=az h
 refine bp (fi ((aQ.id dz).comp qO) (r:=bq.dG) hE (ab rfl) (ep (n:=0) rfl (jn dM) rfl) rfl rfl) ?_
 refine a4 k6 ?_
 refine aC ?_
 refine dB ch ?_
 obtain⟨bZ,eY,h⟩:=az h
 refine eQ (fun hb=>dx (dZ (cq rfl hb) (ga eY hb))) ?_
 refine dB (aX q1) ?_
 obtain⟨cg,e4,h⟩:=az h
 refine eQ (fun hb=>fi ((aQ.id dz).comp qJ) (r:=cg.c1) Nn (cq rfl hb) (ep (n:=0) rfl (jn (ga e4 hb)) rfl) rfl rfl) ?_
 refine eQ (fun hb=>Tu (b:=(default:Vector Ref 2)) (sz:=1) rfl Tryz.underlying333 (by kernel_rfl) We (.nil)) ?_
 refine eQ (fun hb=>Tv Tryz.underlying333 ek Tryz.underlying331 U0 (cq rfl hb) (cq rfl hb) Wf) ?_
 refine k9 ?_
 refine aO ?_
 refine aM ?_
 refine ai.ret ?_
 obtain rfl:=aK h
 exact ae.eW () (.refl _) rfl rfl (dH rfl)
theorem Qt {hp:aN Cell} {aa:Ref} {aj:aA} {aT:Int} {cG:List db} {Bh:Nat} {G3:Option Nat} {G4:Nat} {r:(List db)} (h:Cw hp aa aj aT cG=some r):bO Tryz.prog 257 [I.of (aa),I.of (aj),I.of (aT),I.eq (.pointer (some ⟨Bh,0,none⟩))] ([⟨some Bh,.ca ([]:List db) [(0,ba G3 cG.length G4)]⟩,⟨G3,.row 347 (cG:List db) G4⟩] ++ aV hp) (δ:=(Option Nat × Nat)) (fun d=>I.eD []) (fun d=> [⟨some Bh,.ca ([]:List db) [(0,ba d.1 (r).length d.2)]⟩,⟨d.1,.row 347 (r:List db) d.2⟩] ++ aV hp):=by
 unfold Cw at h
 refine bO.of Tryz.func257 rfl Tryz.ntmps257 rfl fun W A=> ?_
 refine aE ?_
 refine cz fun aW=> ?_
 refine b5 ?_
 refine aC ?_
 obtain⟨b6,c8,h⟩:=az h
 refine bp (dx (dZ (ab rfl) c8)) ?_
 refine a4 (aX q0) ?_
 obtain⟨bq,dM,h⟩:=az h
 refine bp (fi ((aQ.id dz).comp qO) (r:=bq.dG) hE (ab rfl) (ep (n:=3) rfl (jn dM) rfl) rfl rfl) ?_
 refine aM ?_
 obtain⟨bB,cV,h⟩:=az h
 refine ai.dd (γ:=(Option Nat × Nat)) (fun av=> [(0,I.of (aa)),(1,I.of (aj)),(2,I.of (aT)),(3,I.eq (.pointer (some ⟨Bh,0,none⟩))),(5,I.eq (.pointer (some ⟨aW,0,none⟩))),(10,I.of (bq.dG))]) (fun av=>(⟨some aW,.var (aj:aA)⟩ :: ⟨some Bh,.ca ([]:List db) [(0,ba av.1 bB.length av.2)]⟩ :: ⟨av.1,.row 347 (bB:List db) av.2⟩ :: aV hp)) (ab rfl) (fun av=> ?_) (fun hm ak=> ?_) (fun hm ak=> ?_)
 ·clear cV
  refine ae.nU ?_
  refine ae.bU 2 rfl ?_
  refine ae.bU 2 rfl ?_
  obtain rfl:=aK h
  exact ae.lA (av.1,av.2) (.cons_cons _ (.cons_cons _ (.cons _ (.refl _)))) rfl rfl
 ·have h:=hY ak cV
  refine ai.draw mixed 9 [some 11,some 12,some 13,some 14,some 15,some 16,some 17,some 18,some 19] [[],[],[],[],[3],[4],[5],[1,2,6],[7]] [.val _,.val _,.val _,.val _,.val _,.val _,.val _,.val _,.val _] [false,false,false,false,false,false,false,false,false] (by kernel_rfl) rfl rfl rfl (fun dk=>⟨ed fun L' an=>hW (i:=1) (q:=0) (β:=List db) (γ:=db) HM (ab rfl) (an _ _ rfl rfl) rfl,gW 0 b8,dc,dc,ed fun L' an=>dx (dZ (ab rfl) c8),H1 (aX Ds),ed fun L' an=>fi ((aQ.id dz).comp CT) (r:=bq.ih) bK (ab rfl) (jJ (fun i e q=>an i e q rfl) (ep (n:=3) rfl (jn dM) rfl)) rfl rfl,ed fun L' an=>cW (b:= { c6:=aj,ud:=aT,bP:=bq.ih:db }) rfl Wg HN (.cons Qu rfl (ab rfl) rfl (.cons Qm rfl (ab rfl) rfl (.cons QY rfl (ab rfl) rfl (.nil)))),ed fun L' an=>ig (r:= [{ c6:=aj,ud:=aT,bP:=bq.ih:db }]) Tryz.underlying342 No HN rfl rfl (.cons (by simp) (ab rfl) (.nil)),trivial⟩) fun dk=> ?_
  obtain⟨aB,bu,h⟩:=az h
  refine nX 2 Tryz.underlying342 No HN bu fun hN fI=> ?_
  refine ah.jE (i:=1) (γ:=db) (b':=([]:List db)) (os':= [(0,ba hN aB.length fI)]) (aQ.id (List db)) HM (ab rfl) (ab rfl) iD rfl rfl rfl rfl ?_
  refine ah.nil ?_
  obtain rfl:=aK h
  exact dT 0 (hm (hN,fI))
 ·have h:=hZ ak cV
  refine ai.skip ?_
  obtain rfl:=aK h
  exact dT 0 (hm (G3,G4))
theorem Sp {aa:BitVec 64} {r:aA} (h:Gj aa=some r):bW Tryz.prog 166 [I.of (aa)] (I.of (r)):=by
 unfold Gj at h
 refine bW.of Tryz.func166 rfl Tryz.ntmps166 rfl fun W A=> ?_
 refine aE ?_
 refine dJ eA fun aW=> ?_
 refine b5 ?_
 refine aC ?_
 refine hl hh eA ({ (default:aA) with b2:=aa } :aA) (iH eM .nil) ?_
 refine cY 0 b8 ?_
 refine aM ?_
 refine ai.ret ?_
 obtain rfl:=aK h
 exact ae.iU rfl (hn 0 b8)
theorem Rp {aa:bh} {aj:bh} {r:Bool} (h:y1 aa aj=some r):bW Tryz.prog 265 [I.of (aa),I.of (aj)] (I.of (r)):=by
 unfold y1 at h
 refine bW.of Tryz.func265 rfl Tryz.ntmps265 rfl fun W A=> ?_
 refine aE ?_
 refine cz fun aW=> ?_
 refine cz fun a2=> ?_
 refine aO ?_
 refine b5 ?_
 refine a4 (aX oz) ?_
 refine ct 1 mV bK ?_
 refine a4 (aX oz) ?_
 refine ct 0 mV bK ?_
 refine bs gI ?_
 refine aC ?_
 refine dB (aX lX) ?_
 refine eQ (fun hb=>e9 (i:=1) ((aQ.id bh).comp lu) (r:=aa.cZ) lF (cq rfl hb) rfl rfl rfl) ?_
 refine dB (aX lX) ?_
 refine eQ (fun hb=>e9 (i:=0) ((aQ.id bh).comp lu) (r:=aj.cZ) lF (cq rfl hb) rfl rfl rfl) ?_
 obtain⟨aB,bu,h⟩:=az h
 refine eQ (fun hb=>ly Wh (Qj (ga bu hb)) ⟨cq rfl hb,cq rfl hb,trivial⟩) ?_
 refine k9 ?_
 refine aC ?_
 refine dB (aX q9) ?_
 refine eQ (fun hb=>e9 (i:=1) ((aQ.id bh).comp qI) (r:=aa.g8) bK (cq rfl hb) rfl rfl rfl) ?_
 refine dB (aX q9) ?_
 refine eQ (fun hb=>e9 (i:=0) ((aQ.id bh).comp qI) (r:=aj.g8) bK (cq rfl hb) rfl rfl rfl) ?_
 refine kO gI ?_
 refine k9 ?_
 refine aO ?_
 refine aM ?_
 refine ai.ret ?_
 obtain rfl:=aK h
 exact c7
theorem QM {hp:aN Cell} {aa:Ref} {aj:Vector aA 4} {r:Bool × (aN Cell)} (h:CD hp aa aj=some r):bO Tryz.prog 234 [I.of (aa),I.of (aj)] ([] ++ aV hp) (δ:=Unit) (fun d=>I.of (r.1)) (fun d=> [] ++ aV r.2):=by
 unfold CD at h
 refine bO.of Tryz.func234 rfl Tryz.ntmps234 rfl fun W A=> ?_
 refine aE ?_
 refine cz fun aW=> ?_
 refine aO ?_
 refine bY ?_
 refine aE ?_
 refine aC ?_
 refine cR 0 rA ?_
 obtain⟨aB,bu,h⟩:=az h
 refine ah.iN (fS.jF 1 rfl Ni (Kh bu) ⟨ab rfl,ab rfl,trivial⟩) rfl rfl rfl ?_
 refine aC ?_
 refine hc ?_
 refine hc ?_
 refine aO ?_
 refine aO ?_
 refine b5 ?_
 refine aC ?_
 refine a4 k6 ?_
 refine aM ?_
 refine cA h (fun h=>?_) fun h=>?_
 ·refine aE ?_
  refine aO ?_
  refine aM ?_
  refine ai.ret ?_
  refine ae.ret ?_
  obtain rfl:=aK h
  exact ae.eW () (.cons _ (.refl _)) rfl rfl (dH rfl)
 ·refine c4 ?_
  refine ai.seq ?_
  obtain⟨b6,c8,h⟩:=az h
  obtain⟨bq,dM,h⟩:=az h
  refine ai.draw mixed 5 [some 15,some 16,some 17,some 18,some 19] [[],[0],[1],[2],[]] [.val _,.val _,.val _,.val _,.val _] [false,false,false,false,false] (by kernel_rfl) rfl rfl rfl (fun dk=>⟨dc,ed fun L' an=>dx (dZ (ab rfl) c8),H1 (aX Dp),ed fun L' an=>fi ((aQ.id mn).comp yx) (r:=bq.nQ) Af (ab rfl) (jJ (fun i e q=>an i e q rfl) (ep (n:=1) rfl (sH dM) rfl)) rfl rfl,gW 0 rA,trivial⟩) fun dk=> ?_
  obtain⟨bZ,eY,h⟩:=az h
  obtain⟨cg,e4,h⟩:=az h
  obtain⟨cw,iG,h⟩:=az h
  refine ah.HO (k':=Cell.nf (hj cg aj)) 1 rfl Tryz.underlying222 DV (kD (ab rfl) eY) (ab rfl) (p9 e4) rfl rfl rfl (aK iG) ?_
  refine b5 ?_
  refine aO ?_
  refine aM ?_
  refine ai.ret ?_
  obtain rfl:=aK h
  exact ae.eW () (.cons _ (.refl _)) rfl rfl (dH rfl)
theorem Qb (n:Nat):∀ (hp:aN Cell) (aa:Ref) (aj:Ref) (aT:aA) (cG:Int) (hJ:List db) (n2:Nat) (q2:Option Nat) (q3:Nat) (r:(List db)),tC n hp aa aj aT cG hJ=some r→bO Tryz.prog 258 [I.of (aa),I.of (aj),I.of (aT),I.of (cG),I.of (⟨257,some [.pointer (some ⟨n2,0,none⟩)]⟩:Raw)] ([⟨some n2,.ca ([]:List db) [(0,ba q2 hJ.length q3)]⟩,⟨q2,.row 347 (hJ:List db) q3⟩] ++ aV hp) (δ:=(Option Nat × Nat)) (fun d=>I.eD []) (fun d=> [⟨some n2,.ca ([]:List db) [(0,ba d.1 (r).length d.2)]⟩,⟨d.1,.row 347 (r:List db) d.2⟩] ++ aV hp):=by
 induction n with
 | zero=>intro hp aa aj aT cG hJ n2 q2 q3 r h; simp [tC] at h
 | succ n bH=>
   intro hp aa aj aT cG hJ n2 q2 q3 r h
   simp only [tC] at h
   refine bO.of Tryz.func258 rfl Tryz.ntmps258 rfl fun W A=> ?_
   refine aE ?_
   refine cz fun aW=> ?_
   refine bY ?_
   refine aE ?_
   refine aC ?_
   refine bp (mo Tryz.underlying331 (ab rfl)) ?_
   refine aM ?_
   refine cA h (fun h=>?_) fun h=>?_
   ·refine ai.ret ?_
    refine ae.ret ?_
    refine ae.bU 2 rfl ?_
    refine ae.bU 2 rfl ?_
    obtain rfl:=aK h
    exact ae.lA (q2,q3) (.cons_cons _ (.cons_cons _ (.cons _ (.refl _)))) rfl rfl
   ·refine c4 ?_
    refine aE ?_
    refine aC ?_
    refine aC ?_
    refine cR 0 b8 ?_
    refine aC ?_
    refine ah.bU 2 rfl ?_
    refine ah.bU 2 rfl ?_
    obtain⟨aB,bu,h⟩:=az h
    refine ah.vU (eN.Yj (τs:= [I.of (aj:Ref),I.of (aT:aA),I.of (cG:Int)]) 3 2 rfl Wi (Tw (ab rfl)) (Qt bu) rfl rfl ⟨ab rfl,ab rfl,ab rfl,trivial⟩) rfl rfl rfl fun ax=> ?_
    refine ah.eo (L2:=(⟨some n2,.ca ([]:List db) [(0,ba ax.1 aB.length ax.2)]⟩ :: ⟨ax.1,.row 347 (aB:List db) ax.2⟩ :: ⟨some aW,.var (aT:aA)⟩ :: aV hp)) rfl ?_
    refine bY ?_
    obtain⟨b6,c8,h⟩:=az h
    obtain⟨bq,dM,h⟩:=az h
    refine ai.draw mixed 10 [some 17,some 18,some 19,some 20,some 21,some 22,some 23,some 24,some 25,some 26] [[],[],[1],[2],[3],[4],[],[],[7],[]] [.val _,.val _,.val _,.val _,.val _,.val _,.val _,.val _,.val _,.val _] [false,false,false,false,false,false,false,false,false,false] (by kernel_rfl) rfl rfl rfl (fun dk=>⟨dc,dc,ed fun L' an=>dx (dZ (ab rfl) c8),H1 (aX q1),ed fun L' an=>jH (k:=0) sT (ab rfl) (bN 0) ⟨by decide,rfl⟩,ed fun L' an=>fi (((aQ.id dz).comp qJ).comp (aQ.idx (α:=Ref) 2 0 (⟨by decide,rfl⟩:0 < 2∧ (0:Int)=0).1)) (r:=b7 bq.c1 0) ek (ab rfl) (jJ (fun i e q=>an i e q rfl) (ep (n:=3) rfl (jn dM) rfl)) rfl rfl,gW 2 b8,dc,kc dX,dc,trivial⟩) fun dk=> ?_
    obtain⟨aH,cB,h⟩:=az h
    refine ah.vU (eN.h1 3 2 rfl HP (bH _ _ _ _ _ _ _ _ _ _ cB) rfl rfl ⟨ab rfl,ab rfl,ab rfl,ab rfl,ab rfl,trivial⟩) rfl rfl rfl fun et=> ?_
    refine ah.eo (L2:=(⟨some n2,.ca ([]:List db) [(0,ba et.1 aH.length et.2)]⟩ :: ⟨et.1,.row 347 (aH:List db) et.2⟩ :: ⟨some aW,.var (aT:aA)⟩ :: aV hp)) rfl ?_
    refine aM ?_
    obtain⟨bn,fF,h⟩:=az h
    obtain⟨bZ,eY,h⟩:=az h
    obtain⟨cg,e4,h⟩:=az h
    obtain⟨bD,gL,h⟩:=az h
    obtain⟨b0,hS,h⟩:=az h
    refine ai.draw mixed 20 ((some 28) :: (some 29) :: (some 30) :: (some 31) :: (some 32) :: (some 33) :: (some 34) :: (some 35) :: (some 36) :: (some 37) :: (some 38) :: (some 39) :: (some 40) :: (some 41) :: (some 42) :: (some 43) :: (some 44) :: (some 45) :: (some 46) :: (some 47) :: []) ([] :: [] :: [1] :: [2] :: [3] :: [4] :: [] :: [] :: [] :: [8] :: [9] :: [10] :: [11] :: [] :: [12,13] :: [7,14] :: [6,15] :: [] :: [17] :: [] :: []) (.val _ :: .val _ :: .val _ :: .val _ :: .val _ :: .val _ :: .val _ :: .val _ :: .val _ :: .val _ :: .val _ :: .val _ :: .val _ :: .val _ :: .val _ :: .val _ :: .val _ :: .val _ :: .val _ :: .val _ :: []) (false :: false :: false :: false :: false :: false :: false :: false :: false :: false :: false :: false :: false :: false :: false :: false :: false :: false :: false :: false :: []) (by kernel_rfl) rfl rfl rfl (fun mH=>⟨dc,dc,ed fun L' an=>dx (dZ (ab rfl) c8),H1 (aX q1),ed fun L' an=>jH (k:=1) sT (ab rfl) (bN 1) ⟨by decide,rfl⟩,ed fun L' an=>fi (((aQ.id dz).comp qJ).comp (aQ.idx (α:=Ref) 2 1 (⟨by decide,rfl⟩:1 < 2∧ (1:Int)=1).1)) (r:=b7 bq.c1 1) ek (ab rfl) (jJ (fun i e q=>an i e q rfl) (ep (n:=3) rfl (jn dM) rfl)) rfl rfl,gW 2 b8,ed fun L' an=>ly Wj (Sp fF) ⟨fT 1 rfl,trivial⟩,dc,ed fun L' an=>dx (dZ (ab rfl) eY),H1 (aX zH),ed fun L' an=>fi ((aQ.id fm).comp wg) (r:=cg.fA) bK (ab rfl) (jJ (fun i e q=>an i e q rfl) (ep (n:=3) rfl (m6 e4) rfl)) rfl rfl,kc iE,dc,kc iE,fv Wk (RS gL),fv Wl (So hS),dc,kc dX,dc,trivial⟩) fun mH=> ?_
    obtain⟨cl,il,h⟩:=az h
    refine ah.vU (eN.h1 3 2 rfl HP (bH _ _ _ _ _ _ _ _ _ _ il) rfl rfl ⟨ab rfl,ab rfl,ab rfl,ab rfl,ab rfl,trivial⟩) rfl rfl rfl fun cr=> ?_
    refine ah.eo (L2:=(⟨some n2,.ca ([]:List db) [(0,ba cr.1 cl.length cr.2)]⟩ :: ⟨cr.1,.row 347 (cl:List db) cr.2⟩ :: ⟨some aW,.var (aT:aA)⟩ :: aV hp)) rfl ?_
    refine ah.nil ?_
    refine ae.nU ?_
    refine ae.bU 1 rfl ?_
    refine ae.bU 1 rfl ?_
    obtain rfl:=aK h
    exact ae.lA (cr.1,cr.2) (.cons_cons _ (.cons_cons _ (.cons _ (.refl _)))) rfl rfl
theorem Qe {hp:aN Cell} {aa:Ref} {aj:Ref} {aT:aA} {cG:Int} {hJ:List db} {n2:Nat} {q2:Option Nat} {q3:Nat} {r:(List db)} (h:FB hp aa aj aT cG hJ=some r):bO Tryz.prog 258 [I.of (aa),I.of (aj),I.of (aT),I.of (cG),I.of (⟨257,some [.pointer (some ⟨n2,0,none⟩)]⟩:Raw)] ([⟨some n2,.ca ([]:List db) [(0,ba q2 hJ.length q3)]⟩,⟨q2,.row 347 (hJ:List db) q3⟩] ++ aV hp) (δ:=(Option Nat × Nat)) (fun d=>I.eD []) (fun d=> [⟨some n2,.ca ([]:List db) [(0,ba d.1 (r).length d.2)]⟩,⟨d.1,.row 347 (r:List db) d.2⟩] ++ aV hp):=Qb fa hp aa aj aT cG hJ n2 q2 q3 r h
end Go.Proofs.YtmnggbjcnoffeaaGreat
