/-
  Each function meets its functional program. Conditions: none.
-/
import Derived.Test.YtmnggbjcnoffeaaGreatMd
set_option linter.unusedVariables false
set_option linter.unusedSimpArgs false
set_option maxRecDepth 100000
set_option maxHeartbeats 2000000
namespace Go.Proofs.YtmnggbjcnoffeaaGreat
open Go Gv
theorem DB {aa:List (BitVec 8)} {aj:Int} {r:bf} (h:s8 aa aj=some r):bM Tryz.prog 15 [I.of (aa),I.of (aj)] [] (δ:=Nat) (fun d=>I.eq (.pointer (some ⟨d,0,none⟩))) (fun d=> [⟨some d,.var (r:bf)⟩]):=by
 unfold s8 at h
 refine bM.of Tryz.func15 rfl Tryz.ntmps15 rfl fun W A=> ?_
 refine aF ?_
 refine bl (eB (HR (.pointer none))) ?_
 refine b0 ?_
 refine aD ?_
 refine aD ?_
 refine aY (eK Tryz.underlying22) ?_
 refine aD ?_
 refine bm A4 ?_
 obtain⟨aG,bo,h⟩:=aw h
 refine bl (MW Tryz.underlying22 Jn (ab rfl) .none (.some (ab rfl)) bo) ?_
 refine hC WK WL ({ (default:bf) with b1:=aG } :bf) (iK Dm .nil) ?_
 refine cj fun aZ=> ?_
 refine aL ?_
 refine aK ?_
 refine ag.ret ?_
 refine ae.bz 0 rfl ?_
 obtain rfl:=aI h
 exact mn aZ
theorem Sa {aa:bf} {b9:Nat} {r:Bool} (h:Dn aa=some r):bM Tryz.prog 26 [I.eq (.pointer (some ⟨b9,0,none⟩))] [⟨some b9,.var (aa:bf)⟩] (δ:=Unit) (fun d=>I.of (r)) (fun d=> [⟨some b9,.var (aa:bf)⟩]):=by
 unfold Dn at h
 refine bM.of Tryz.func26 rfl Tryz.ntmps26 rfl fun W A=> ?_
 refine aF ?_
 refine aL ?_
 refine bO ?_
 refine ag.draw mixed 10 [some 3,some 4,some 5,some 6,some 7,some 8,some 9,some 10,some 11,some 12] [[],[0],[1],[2],[],[4],[5],[6],[7],[3,8]] [.val _,.val _,.val _,.val _,.val _,.val _,.val _,.val _,.val _,.val _] [false,false,false,false,false,false,false,false,false,false] (by kernel_rfl) rfl rfl rfl (fun da=>⟨cZ,H1 dD,H1 (aT AH),dz 0 zF bF,cZ,H1 dD,H1 (aT Hr),dz 0 Dm EU,H1 (eK Tryz.underlying22),iC eT,trivial⟩) fun da=> ?_
 refine aL ?_
 refine aK ?_
 refine ag.ret ?_
 refine ae.bz 0 rfl ?_
 obtain rfl:=aI h
 exact mn ()
theorem GP {aa:Int} {aj:Int} {r:Int} (h:rD aa aj=some r):bK Tryz.prog 25 [I.of (aa),I.of (aj)] (I.of (r)):=by
 unfold rD at h
 refine bK.of Tryz.func25 rfl Tryz.ntmps25 rfl fun W A=> ?_
 refine aF ?_
 refine aL ?_
 refine bO ?_
 refine aF ?_
 refine aD ?_
 refine bm eT ?_
 refine aK ?_
 refine cm h (fun h=>?_) fun h=>?_
 ·refine aF ?_
  refine aL ?_
  refine aK ?_
  refine ag.ret ?_
  refine ae.ret ?_
  obtain rfl:=aI h
  exact cR
 ·refine cW ?_
  refine aF ?_
  refine aD ?_
  refine aD ?_
  obtain⟨aG,bo,h⟩:=aw h
  refine bl (Ig (ab rfl) (ab rfl) (G1 bo)) ?_
  refine aD ?_
  refine bm dI ?_
  refine aD ?_
  obtain⟨aJ,cr,h⟩:=aw h
  refine bl (Ig (ab rfl) (ab rfl) (G1 cr)) ?_
  refine aL ?_
  refine aK ?_
  refine ag.ret ?_
  obtain rfl:=aI h
  exact cR
theorem RY {aa:bW} {aj:Int} {r:Bool} (h:Dg aa aj=some r):bK Tryz.prog 119 [I.of (aa),I.ptr aj] (I.of (r)):=by
 unfold Dg at h
 refine bK.of Tryz.func119 rfl Tryz.ntmps119 rfl fun W A=> ?_
 refine aF ?_
 refine cj fun aZ=> ?_
 refine aL ?_
 refine b0 ?_
 refine aY (aT vh) ?_
 refine cq 0 pG bF ?_
 refine aY (dV bF) ?_
 refine bm gN ?_
 refine aL ?_
 refine aK ?_
 refine ag.ret ?_
 obtain rfl:=aI h
 exact cR
theorem Rb {aa:List bW} {aj:bW→Option Bool} {r:Int} (h:zf aa aj=some r):bK Tryz.prog 118 [I.of (aa),I.we Tryz.prog aj] (I.of (r)):=by
 unfold zf at h
 refine bK.of Tryz.func118 rfl Tryz.ntmps118 rfl fun W A=> ?_
 refine aF ?_
 refine aL ?_
 refine bO ?_
 refine aF ?_
 refine aD ?_
 refine aY (eK Tryz.underlying28) ?_
 refine aD ?_
 refine aK ?_
 refine ag.block ?_
 obtain⟨av,ao,h⟩:=aw h
 refine hT (γ:=Unit) (δ:=Unit) ao [0,1,7] (fun s1 aq=> [(4,I.of (0:Int)),(8,I.of (s1))]) (fun s1 aq=> []) (fun az=>Sum.elim (fun az=>Exit.exit 0) (fun az=>Exit.ret) az) (fun az aq=>Sum.elim (fun az=> [(4,I.of (0:Int)),(8,I.of (az.1)),(9,I.of (az.2))]) (fun az=> [(4,I.of (az.1)),(5,I.of (az.2.1)),(8,I.of (az.2.2.1)),(9,I.of (az.2.2.2.1)),(16,I.of (az.2.2.2.2))]) az) (fun az aq=>Sum.elim (fun az=> []) (fun az=> []) az) () (fun s1 r h aq=> ?_) fun aq=> ?_
 ·clear ao
  refine aF ?_
  refine bm eT ?_
  refine bO ?_
  refine cm h (fun h=>?_) fun h=>?_
  ·refine cW ?_
   refine ag.seq ?_
   refine ag.block ?_
   refine aF ?_
   refine aD ?_
   refine aL ?_
   refine b0 ?_
   refine aD ?_
   refine aD ?_
   refine aD ?_
   obtain⟨a8,cE,h⟩:=aw h
   refine hU cE Tryz.underlying28 hn ?_
   refine aY (dV hn) ?_
   obtain⟨aG,bo,h⟩:=aw h
   refine bl (DV (ab rfl) (ab rfl) bo) ?_
   refine aK ?_
   refine cm h (fun h=>?_) fun h=>?_
   ·refine aF ?_
    refine aD ?_
    refine aL ?_
    refine aK ?_
    refine ag.ret ?_
    refine ae.dn ?_
    refine ae.ret ?_
    obtain rfl:=aI h
    exact eD () 0
   ·refine ag.skip ?_
    refine ae.ea ?_
    refine ae.next ?_
    refine ag.cz ?_
    refine bm dI ?_
    refine aD ?_
    refine ah.nil ?_
    obtain rfl:=aI h
    exact gP () 0
  ·refine ag.exit ?_
   refine ae.exit ?_
   obtain rfl:=aI h
   exact eD () 0
 ·clear ao
  rcases av with av | av
  ·simp only [Sum.elim_inl] at h
   refine ae.fM ?_
   refine ae.next ?_
   refine aF ?_
   refine aL ?_
   refine aK ?_
   refine ag.ret ?_
   obtain rfl:=aI h
   exact cR
  ·simp only [Sum.elim_inr] at h
   refine ae.dn ?_
   refine ae.ret ?_
   obtain rfl:=aI h
   exact cR
theorem SA {aa:bW} {r:Int × Int} (h:xB aa=some r):bK Tryz.prog 83 [I.of (aa)] (I.ed [I.of (r.1),I.of (r.2)]):=by
 unfold xB at h
 refine bK.of Tryz.func83 rfl Tryz.ntmps83 rfl fun W A=> ?_
 refine aF ?_
 refine cj fun aZ=> ?_
 refine aL ?_
 refine aL ?_
 refine b0 ?_
 refine aL ?_
 refine aL ?_
 refine bO ?_
 refine aF ?_
 refine aY (aT mH) ?_
 refine cq 0 kQ mg ?_
 refine aY (eK Tryz.underlying62) ?_
 refine aD ?_
 refine aK ?_
 refine ag.block ?_
 obtain⟨av,ao,h⟩:=aw h
 refine hT (γ:=Unit) (δ:=Unit) ao [0,1,2,3,9,10] (fun s1 aq=> [(4,I.of (s1.1)),(5,I.of (s1.2.1)),(11,I.of (s1.2.2))]) (fun s1 aq=> []) (fun az=>Exit.exit 0) (fun az aq=> [(4,I.of (az.1)),(5,I.of (az.2.1)),(11,I.of (az.2.2.1)),(12,I.of (az.2.2.2))]) (fun az aq=> []) () (fun s1 r h aq=> ?_) fun aq=> ?_
 ·clear ao
  refine aF ?_
  refine bm eT ?_
  refine bO ?_
  refine cm h (fun h=>?_) fun h=>?_
  ·refine cW ?_
   refine ag.seq ?_
   refine ag.block ?_
   refine aF ?_
   refine aD ?_
   obtain⟨a8,cE,h⟩:=aw h
   refine hU cE Tryz.underlying62 jw ?_
   refine aY (dV jw) ?_
   refine c1 ka fun bc=> ?_
   refine aL ?_
   refine cA 0 jw ?_
   refine b0 ?_
   refine aY (aT xW) ?_
   refine cq 0 m4 bF ?_
   refine aK ?_
   refine ag.block ?_
   refine aF ?_
   refine bm gN ?_
   refine aL ?_
   refine aK ?_
   obtain⟨bp,ck,h⟩:=aw h
   refine jS (γ:=Unit) [0,1,2,3,6,7,9,10,11,12,17,18] (fun bd=> [(4,I.of (bp.1)),(5,I.of (bp.2))]) (fun bd=> []) (fun bd=> ?_) (fun hm ak=> ?_) fun hm ak=> ?_
   ·clear ck
    refine ae.ea ?_
    refine ae.ea ?_
    refine ae.next ?_
    refine ag.cz ?_
    refine bm dI ?_
    refine aD ?_
    refine ah.nil ?_
    obtain rfl:=aI h
    exact gP () 1
   ·have h:=gZ ak ck
    refine ag.skip ?_
    obtain rfl:=aI h
    exact dp 0 (hm ())
   ·have h:=g1 ak ck
    refine aF ?_
    refine bm gN ?_
    refine aL ?_
    refine aK ?_
    obtain⟨cP,eb,h⟩:=aw h
    refine jS (γ:=Unit) [0,1,2,3,6,7,9,10,11,12,17,18,20] (fun bN=> [(4,I.of (cP.1)),(5,I.of (cP.2))]) (fun bN=> []) (fun bN=> ?_) (fun hm ak=> ?_) fun hm ak=> ?_
    ·clear eb
     obtain rfl:=aI h
     exact dp 0 (hm ())
    ·have h:=gZ ak eb
     refine ag.cz ?_
     refine aD ?_
     refine bm Ew ?_
     refine aD ?_
     refine aL ?_
     refine aL ?_
     refine ah.nil ?_
     obtain rfl:=aI h
     exact dp 0 (hm ())
    ·have h:=g1 ak eb
     refine ag.cz ?_
     refine aL ?_
     refine ah.nil ?_
     obtain rfl:=aI h
     exact dp 0 (hm ())
  ·refine ag.exit ?_
   refine ae.exit ?_
   obtain rfl:=aI h
   exact eD () 0
 ·clear ao
  refine ae.fM ?_
  refine ae.next ?_
  refine aF ?_
  refine aD ?_
  refine aD ?_
  refine aL ?_
  refine aL ?_
  refine aK ?_
  refine ag.ret ?_
  obtain rfl:=aI h
  exact P3
theorem S4 {hp:aS Cell} {Q:Ref × (aS Cell)→Prop} (h:DC hp Q):bM Tryz.prog 84 [] ([] ++ aV hp) (δ:= {r:Ref × (aS Cell) // Q r} × Unit) (fun d=>I.of (d.1.1.1)) (fun d=> [] ++ aV d.1.1.2):=by
 unfold DC at h
 refine bM.of Tryz.func84 rfl Tryz.ntmps84 rfl fun W A=> ?_
 refine aF ?_
 refine bl (eB (qE)) ?_
 refine b0 ?_
 refine ah.HS (α:=Vector ar 4) (β:=Int) 0 rfl (Cell.n0 ([]:List ((Vector ar 4) × Int))) (fun _=>rfl) rfl fun c2 wg=> ?_
 replace h:=ax.tg h c2 wg
 refine hC WM WN { oD:=(⟨some c2.1⟩:gf):m5 } (iK zx .nil) ?_
 refine ah.Bo 0 rfl (Cell.yk ({ oD:=(⟨some c2.1⟩:gf):m5 })) (fun _=>rfl) (ab rfl) rfl fun dc BP=> ?_
 replace h:=ax.tg h dc BP
 refine aL ?_
 refine aK ?_
 refine ag.ret ?_
 exact ae.fi (⟨⟨((some dc.1:Ref),dc.2),h⟩,()⟩: {r // _} × _) (.refl _) rfl rfl (dv rfl)
theorem RZ {aa:fx} {aj:Int} {r:Bool} (h:Dh aa aj=some r):bK Tryz.prog 121 [I.of (aa),I.ptr aj] (I.of (r)):=by
 unfold Dh at h
 refine bK.of Tryz.func121 rfl Tryz.ntmps121 rfl fun W A=> ?_
 refine aF ?_
 refine cj fun aZ=> ?_
 refine aL ?_
 refine b0 ?_
 refine aY (aT MX) ?_
 refine cq 0 pH bF ?_
 refine aY (dV bF) ?_
 refine bm gN ?_
 refine aL ?_
 refine aK ?_
 refine ag.ret ?_
 obtain rfl:=aI h
 exact cR
theorem Rc {aa:List fx} {aj:fx→Option Bool} {r:Int} (h:zg aa aj=some r):bK Tryz.prog 120 [I.of (aa),I.we Tryz.prog aj] (I.of (r)):=by
 unfold zg at h
 refine bK.of Tryz.func120 rfl Tryz.ntmps120 rfl fun W A=> ?_
 refine aF ?_
 refine aL ?_
 refine bO ?_
 refine aF ?_
 refine aD ?_
 refine aY (eK Tryz.underlying24) ?_
 refine aD ?_
 refine aK ?_
 refine ag.block ?_
 obtain⟨av,ao,h⟩:=aw h
 refine hT (γ:=Unit) (δ:=Unit) ao [0,1,7] (fun s1 aq=> [(4,I.of (0:Int)),(8,I.of (s1))]) (fun s1 aq=> []) (fun az=>Sum.elim (fun az=>Exit.exit 0) (fun az=>Exit.ret) az) (fun az aq=>Sum.elim (fun az=> [(4,I.of (0:Int)),(8,I.of (az.1)),(9,I.of (az.2))]) (fun az=> [(4,I.of (az.1)),(5,I.of (az.2.1)),(8,I.of (az.2.2.1)),(9,I.of (az.2.2.2.1)),(16,I.of (az.2.2.2.2))]) az) (fun az aq=>Sum.elim (fun az=> []) (fun az=> []) az) () (fun s1 r h aq=> ?_) fun aq=> ?_
 ·clear ao
  refine aF ?_
  refine bm eT ?_
  refine bO ?_
  refine cm h (fun h=>?_) fun h=>?_
  ·refine cW ?_
   refine ag.seq ?_
   refine ag.block ?_
   refine aF ?_
   refine aD ?_
   refine aL ?_
   refine b0 ?_
   refine aD ?_
   refine aD ?_
   refine aD ?_
   obtain⟨a8,cE,h⟩:=aw h
   refine hU cE Tryz.underlying24 tw ?_
   refine aY (dV tw) ?_
   obtain⟨aG,bo,h⟩:=aw h
   refine bl (DV (ab rfl) (ab rfl) bo) ?_
   refine aK ?_
   refine cm h (fun h=>?_) fun h=>?_
   ·refine aF ?_
    refine aD ?_
    refine aL ?_
    refine aK ?_
    refine ag.ret ?_
    refine ae.dn ?_
    refine ae.ret ?_
    obtain rfl:=aI h
    exact eD () 0
   ·refine ag.skip ?_
    refine ae.ea ?_
    refine ae.next ?_
    refine ag.cz ?_
    refine bm dI ?_
    refine aD ?_
    refine ah.nil ?_
    obtain rfl:=aI h
    exact gP () 0
  ·refine ag.exit ?_
   refine ae.exit ?_
   obtain rfl:=aI h
   exact eD () 0
 ·clear ao
  rcases av with av | av
  ·simp only [Sum.elim_inl] at h
   refine ae.fM ?_
   refine ae.next ?_
   refine aF ?_
   refine aL ?_
   refine aK ?_
   refine ag.ret ?_
   obtain rfl:=aI h
   exact cR
  ·simp only [Sum.elim_inr] at h
   refine ae.dn ?_
   refine ae.ret ?_
   obtain rfl:=aI h
   exact cR
theorem Sh {aa:a3} {r:cu} (h:GC aa=some r):bM Tryz.prog 86 [I.of (aa)] [] (δ:=Nat × (Option Nat × Nat)) (fun d=>I.eq (.pointer (some ⟨d.1,0,none⟩))) (fun d=> [⟨some d.1,.b4 (({ r with b1:= [] } :cu):cu) [(10,a2 d.2.1 (r.b1).length d.2.2)]⟩,⟨d.2.1,.row 52 (r.b1:List aA) d.2.2⟩]):=by
 unfold GC at h
 refine bM.of Tryz.func86 rfl Tryz.ntmps86 rfl fun W A=> ?_
 refine aF ?_
 refine cj fun aZ=> ?_
 refine bl (eB (qE)) ?_
 refine b0 ?_
 refine cG 0 ho ?_
 refine bl (qH (b:=({ (default:cu) with ou:=aa } :cu)) [10] Uz rfl WO WQ (.cons C1 rfl (ab rfl) rfl (by rfl) (.nil))) ?_
 refine ah.own (α:=aA) 52 ?_
 refine ah.Y7 (ab rfl) rfl fun bc=> ?_
 refine aL ?_
 refine aK ?_
 refine ag.ret ?_
 refine ae.Fh (γ:=aA) (b':=(({ ({ (default:cu) with ou:=aa } :cu) with b1:= [] } :cu):cu)) ((aN.id cu).comp xh) 0 0 rfl rfl rfl ?_
 refine ae.bz 1 rfl ?_
 refine ae.bz 1 rfl ?_
 obtain rfl:=aI h
 exact mn (bc,(none,0))
theorem KV {aa:bf} {r:Bool} (h:xc aa=some r):bK Tryz.prog 26 [I.ptr aa] (I.of (r)):=by
 unfold xc at h
 refine bK.of Tryz.func26 rfl Tryz.ntmps26 rfl fun W A=> ?_
 refine aF ?_
 refine aL ?_
 refine bO ?_
 refine ag.draw mixed 10 [some 3,some 4,some 5,some 6,some 7,some 8,some 9,some 10,some 11,some 12] [[],[0],[1],[2],[],[4],[5],[6],[7],[3,8]] [.val _,.val _,.val _,.val _,.val _,.val _,.val _,.val _,.val _,.val _] [false,false,false,false,false,false,false,false,false,false] (by kernel_rfl) rfl rfl rfl (fun da=>⟨cZ,H1 AR,tY zF AH,H1 (dV bF),cZ,H1 AR,tY Dm Hr,H1 (dV EU),H1 (eK Tryz.underlying22),iC eT,trivial⟩) fun da=> ?_
 refine aL ?_
 refine aK ?_
 refine ag.ret ?_
 obtain rfl:=aI h
 exact cR
theorem SB {aa:a3} {aj:Int} {r:Int} (h:z3 aa aj=some r):bK Tryz.prog 108 [I.of (aa),I.of (aj)] (I.of (r)):=by
 unfold z3 at h
 refine bK.of Tryz.func108 rfl Tryz.ntmps108 rfl fun W A=> ?_
 refine aF ?_
 refine cj fun aZ=> ?_
 refine aL ?_
 refine bO ?_
 refine aF ?_
 refine aY (aT AS) ?_
 refine cq 0 zn yl ?_
 refine aY (eK Tryz.underlying24) ?_
 refine aD ?_
 refine aK ?_
 refine ag.block ?_
 obtain⟨av,ao,h⟩:=aw h
 refine hT (γ:=Unit) (δ:=Unit) ao [0,1,2,8,9] (fun s1 aq=> [(4,I.of (0:Int)),(10,I.of (s1))]) (fun s1 aq=> []) (fun az=>Sum.elim (fun az=>Exit.exit 0) (fun az=>Exit.ret) az) (fun az aq=>Sum.elim (fun az=> [(4,I.of (0:Int)),(10,I.of (az.1)),(11,I.of (az.2))]) (fun az=> [(4,I.of (az.1)),(10,I.of (az.2.1)),(11,I.of (az.2.2.1)),(17,I.of (az.2.2.2))]) az) (fun az aq=>Sum.elim (fun az=> []) (fun az=> []) az) () (fun s1 r h aq=> ?_) fun aq=> ?_
 ·clear ao
  refine aF ?_
  refine bm eT ?_
  refine bO ?_
  refine cm h (fun h=>?_) fun h=>?_
  ·refine cW ?_
   refine ag.seq ?_
   refine ag.block ?_
   refine aF ?_
   obtain⟨a8,cE,h⟩:=aw h
   refine hU cE Tryz.underlying24 tw ?_
   refine aY (dV tw) ?_
   refine c1 pN fun bc=> ?_
   refine cA 0 tw ?_
   refine b0 ?_
   refine aY (aT MX) ?_
   refine cq 0 pH bF ?_
   refine aD ?_
   refine bm gN ?_
   refine aK ?_
   refine cm h (fun h=>?_) fun h=>?_
   ·refine aF ?_
    refine aY (aT Hs) ?_
    refine cq 0 oZ bF ?_
    refine aL ?_
    refine aK ?_
    refine ag.ret ?_
    refine ae.dn ?_
    refine ae.ret ?_
    obtain rfl:=aI h
    exact eD () 1
   ·refine ag.skip ?_
    refine ae.ea ?_
    refine ae.next ?_
    refine ag.cz ?_
    refine bm dI ?_
    refine aD ?_
    refine ah.nil ?_
    obtain rfl:=aI h
    exact gP () 1
  ·refine ag.exit ?_
   refine ae.exit ?_
   obtain rfl:=aI h
   exact eD () 0
 ·clear ao
  rcases av with av | av
  ·simp only [Sum.elim_inl] at h
   refine ae.fM ?_
   refine ae.next ?_
   refine aF ?_
   refine aL ?_
   refine aK ?_
   refine ag.ret ?_
   obtain rfl:=aI h
   exact cR
  ·simp only [Sum.elim_inr] at h
   refine ae.dn ?_
   refine ae.ret ?_
   obtain rfl:=aI h
   exact cR
theorem GQ {aa:ar} {aj:Int} {r:ar} (h:uP aa aj=some r):bK Tryz.prog 46 [I.of (aa),I.of (aj)] (I.of (r)):=by
 unfold uP at h
 refine bK.of Tryz.func46 rfl Tryz.ntmps46 rfl fun W A=> ?_
 refine aF ?_
 refine cj fun aZ=> ?_
 refine c1 ek fun bc=> ?_
 refine bO ?_
 refine ag.block ?_
 refine aF ?_
 refine aD ?_
 refine bm kT ?_
 refine aL ?_
 refine aK ?_
 refine cm h (fun h=>?_) fun h=>?_
 ·refine aF ?_
  refine cG 1 bQ ?_
  refine cA 0 bQ ?_
  refine aK ?_
  refine ag.ret ?_
  refine ae.dn ?_
  refine ae.ret ?_
  obtain rfl:=aI h
  exact ae.jg rfl (hK 0 bQ)
 ·refine aF ?_
  refine aD ?_
  refine bm kT ?_
  refine aL ?_
  refine aK ?_
  refine cm h (fun h=>?_) fun h=>?_
  ·refine aF ?_
   refine aY (aT j5) ?_
   refine cq 1 hx eC ?_
   refine aD ?_
   refine bm ix ?_
   refine aY (ij Tryz.underlying3 Tryz.underlying130) ?_
   refine bl (nM (fK 1 rfl) (ab rfl)) ?_
   refine bl (th (ab rfl) (fK 1 rfl)) ?_
   obtain⟨bE,dE,h⟩:=aw h
   refine dF dE (qI (ab rfl) (ab rfl)) ?_
   refine aY (aT h4) ?_
   refine cq 1 ef eC ?_
   refine hC ha ek { cV:=bE,bG:=aa.bG:ar } (iK hx (iK ef .nil)) ?_
   refine cA 0 bQ ?_
   refine aK ?_
   refine ag.ret ?_
   refine ae.dn ?_
   refine ae.ret ?_
   obtain rfl:=aI h
   exact ae.jg rfl (hK 0 bQ)
  ·refine aF ?_
   refine aD ?_
   refine bm qS ?_
   refine aL ?_
   refine aK ?_
   refine cm h (fun h=>?_) fun h=>?_
   ·refine aF ?_
    refine hC ha ek (default:ar) .nil ?_
    refine cA 0 bQ ?_
    refine aK ?_
    refine ag.ret ?_
    refine ae.dn ?_
    refine ae.ret ?_
    obtain rfl:=aI h
    exact ae.jg rfl (hK 0 bQ)
   ·refine ag.skip ?_
    refine ae.ea ?_
    refine ae.next ?_
    refine aF ?_
    refine aY (aT h4) ?_
    refine cq 1 ef eC ?_
    refine aD ?_
    refine aY (ij Tryz.underlying3 Tryz.underlying130) ?_
    refine bl (nM (fK 1 rfl) (ab rfl)) ?_
    refine bl (th (ab rfl) (fK 1 rfl)) ?_
    refine bm qI ?_
    obtain⟨dt,hD,h⟩:=aw h
    refine dF hD (c3 (b:=({ (default:ar) with bG:=aa.bG &&& (((1#64) <<< (BitVec.ofInt 64 aj).toNat) - (1#64)) } :ar)) rfl ha ek (.cons ef rfl (ab rfl) rfl (.nil))) ?_
    refine cA 0 bQ ?_
    refine aK ?_
    refine ag.ret ?_
    obtain rfl:=aI h
    exact ae.jg rfl (hK 0 bQ)
theorem SU {aa:Int} {aj:Int} {r:ar} (h:Dy aa aj=some r):bK Tryz.prog 109 [I.of (aa),I.of (aj)] (I.of (r)):=by
 unfold Dy at h
 refine bK.of Tryz.func109 rfl Tryz.ntmps109 rfl fun W A=> ?_
 refine aF ?_
 refine c1 ek fun aZ=> ?_
 refine b0 ?_
 refine aD ?_
 refine aY (ij Tryz.underlying3 Tryz.underlying130) ?_
 refine bl (nM (fK 1 rfl) (ab rfl)) ?_
 refine bl (th (ab rfl) (fK 1 rfl)) ?_
 refine aD ?_
 refine aD ?_
 refine bm ix ?_
 refine aY (ij Tryz.underlying3 Tryz.underlying130) ?_
 refine bl (nM (fK 1 rfl) (ab rfl)) ?_
 refine bl (th (ab rfl) (fK 1 rfl)) ?_
 obtain⟨bE,dE,h⟩:=aw h
 refine dF dE (th (ab rfl) (ab rfl)) ?_
 refine hC ha ek ({ (default:ar) with bG:=bE } :ar) (iK ef .nil) ?_
 refine cA 0 bQ ?_
 refine aK ?_
 refine ag.ret ?_
 obtain rfl:=aI h
 exact ae.jg rfl (hK 0 bQ)
theorem SC {aa:bu} {aj:Vector ar 4} {r:(Vector ar 4)} (h:z4 aa aj=some r):bK Tryz.prog 19 [I.of (aa),I.of (aj)] (I.of (r)):=by
 unfold z4 at h
 refine bK.of Tryz.func19 rfl Tryz.ntmps19 rfl fun W A=> ?_
 refine aF ?_
 refine cj fun aZ=> ?_
 refine cj fun bc=> ?_
 refine c1 ym fun cC=> ?_
 refine bO ?_
 refine aF ?_
 refine aY (aT lk) ?_
 refine cq 2 lh kY ?_
 refine aY (eK Tryz.underlying47) ?_
 refine aD ?_
 refine aK ?_
 refine ag.block ?_
 obtain⟨av,ao,h⟩:=aw h
 refine hT (γ:=Unit) (δ:=Unit) ao [0,1,2,3,4,8,9] (fun s1 aq=> [(10,I.of (s1.1))]) (fun s1 aq=> [(1,⟨some bc,.var (s1.2:Vector ar 4)⟩)]) (fun az=>Exit.exit 0) (fun az aq=> [(10,I.of (az.1)),(11,I.of (az.2.1))]) (fun az aq=> [(1,⟨some bc,.var (az.2.2:Vector ar 4)⟩)]) () (fun s1 r h aq=> ?_) fun aq=> ?_
 ·clear ao
  refine aF ?_
  refine bm eT ?_
  refine bO ?_
  refine cm h (fun h=>?_) fun h=>?_
  ·refine cW ?_
   refine ag.seq ?_
   refine ag.block ?_
   refine aF ?_
   refine aD ?_
   obtain⟨a8,cE,h⟩:=aw h
   refine hU cE Tryz.underlying47 fr ?_
   refine aY (dV fr) ?_
   refine c1 mN fun fm=> ?_
   refine aL ?_
   refine cA 0 fr ?_
   refine bO ?_
   refine aF ?_
   refine aD ?_
   refine bm kT ?_
   refine aD ?_
   refine ey (aT tm) ?_
   refine ep (fun hb=>eA (i:=0) ((aN.id bV).comp nD) (r:=(aE aa.bZ a8).fF) gi (cb rfl hb) rfl rfl rfl) ?_
   refine ey hP ?_
   refine sl ?_
   refine aK ?_
   refine cm h (fun h=>?_) fun h=>?_
   ·refine ag.exit ?_
    refine ae.exit ?_
    refine ae.fM ?_
    refine ae.next ?_
    refine ag.cz ?_
    refine bm dI ?_
    refine aD ?_
    refine ah.nil ?_
    obtain rfl:=aI h
    exact gP () 1
   ·refine cW ?_
    refine ag.block ?_
    refine aF ?_
    refine aY (aT qM) ?_
    refine cq 0 oo bQ ?_
    refine hC ha ek (default:ar) .nil ?_
    refine bm (Ex oE rfl tx rfl) ?_
    refine aL ?_
    refine aK ?_
    obtain⟨bp,ck,h⟩:=aw h
    refine jS (γ:=Unit) [0,1,2,3,4,5,6,8,9,10,11,21,26] (fun bd=> []) (fun bd=> [(2,⟨some bc,.var (bp:Vector ar 4)⟩)]) (fun bd=> ?_) (fun hm ak=> ?_) fun hm ak=> ?_
    ·clear ck
     refine ae.ea ?_
     refine ae.ea ?_
     refine ae.next ?_
     refine ag.cz ?_
     refine bm dI ?_
     refine aD ?_
     refine ah.nil ?_
     obtain rfl:=aI h
     exact gP () 1
    ·have h:=gZ ak ck
     obtain⟨bY,cX,h⟩:=aw h
     obtain⟨bE,dE,h⟩:=aw h
     obtain⟨cY,g4,h⟩:=aw h
     obtain⟨dt,hD,h⟩:=aw h
     obtain⟨fu,mR,h⟩:=aw h
     refine ag.draw mixed 29 ((some 31) :: (some 32) :: (some 33) :: (some 34) :: (some 35) :: (some 36) :: (some 37) :: (some 38) :: (some 39) :: (some 40) :: (some 41) :: (some 42) :: (some 43) :: (some 44) :: (some 45) :: (some 46) :: (some 47) :: (some 48) :: (some 49) :: (some 50) :: (some 51) :: (some 52) :: (some 53) :: (some 54) :: (some 55) :: (some 56) :: (some 57) :: (some 58) :: none :: []) ([] :: [] :: [] :: [2] :: [3] :: [4] :: [] :: [6] :: [7] :: [5,8] :: [] :: [10] :: [11] :: [9,12] :: [] :: [14] :: [15] :: [16] :: [] :: [18] :: [19] :: [17,20] :: [] :: [22] :: [23] :: [21,24] :: [0] :: [26] :: [13,27] :: []) (.val _ :: .val _ :: .val _ :: .val _ :: .val _ :: .val _ :: .val _ :: .val _ :: .val _ :: .val _ :: .val _ :: .val _ :: .val _ :: .val _ :: .val _ :: .val _ :: .val _ :: .val _ :: .val _ :: .val _ :: .val _ :: .val _ :: .val _ :: .val _ :: .val _ :: .val _ :: .val _ :: .val _ :: .k0 2 (.var (fP s1.2 fu ({ (bD s1.2 fu) with bG:=bE } :ar):Vector ar 4)) :: []) (false :: false :: false :: false :: false :: false :: false :: false :: false :: false :: false :: false :: false :: false :: false :: false :: false :: false :: false :: false :: false :: false :: false :: false :: false :: false :: false :: false :: true :: []) (by kernel_rfl) rfl rfl rfl (fun da=>⟨cZ,cZ,cZ,dO fun L' al=>il (k:=bY) nc (ab rfl) (ab rfl) (cL cX),H1 (aT h4),dz 2 (((aN.id (Vector ar 4)).comp (aN.idx (α:=ar) 4 bY (cL cX).1)).comp ef) eC,H1 (aT qM),H1 (aT h4),dz 0 (oo.comp ef) eC,iC LL,H1 (aT na),H1 (aT h4),dz 0 (kr.comp ef) eC,uo dE fun L' al=>qN (ab rfl) (ab rfl),cZ,dO fun L' al=>il (k:=cY) nc (ab rfl) (ab rfl) (cL g4),H1 (aT j5),dz 2 (((aN.id (Vector ar 4)).comp (aN.idx (α:=ar) 4 cY (cL g4).1)).comp hx) eC,H1 (aT qM),H1 (aT j5),dz 0 (oo.comp hx) eC,iC LL,H1 (aT na),H1 (aT j5),dz 0 (kr.comp hx) eC,uo hD fun L' al=>qN (ab rfl) (ab rfl),dO fun L' al=>il (k:=fu) nc (ab rfl) (ab rfl) (cL mR),H1 (aT h4),⟨_,_,rfl,fun L' al=>vi (i:=2) (((aN.id (Vector ar 4)).comp (aN.idx (α:=ar) 4 fu (cL mR).1)).comp ef) (v:=(bE:BitVec 64)) (b':=(fP s1.2 fu ({ (bD s1.2 fu) with bG:=bE } :ar):Vector ar 4)) eC (ab rfl) (ab rfl) (al _ _ rfl) rfl rfl⟩,trivial⟩) fun da=> ?_
     obtain⟨iD,BQ,h⟩:=aw h
     refine bl (il (k:=iD) nc (ab rfl) (ab rfl) (cL BQ)) ?_
     refine aY (aT j5) ?_
     obtain⟨fz,kD,h⟩:=aw h
     refine Fi 2 (((aN.id (Vector ar 4)).comp (aN.idx (α:=ar) 4 iD (cL BQ).1)).comp hx) eC (hb:=by exact kD) ?_
     refine ah.nil ?_
     obtain rfl:=aI h
     exact dp 0 (hm ())
    ·have h:=g1 ak ck
     refine aF ?_
     refine aY (aT o8) ?_
     refine cq 0 m3 bF ?_
     refine bm pO ?_
     refine aD ?_
     refine ey (aT o8) ?_
     refine ep (fun hb=>eA (i:=0) ((aN.id bV).comp m3) (r:=(aE aa.bZ a8).ez) bF (cb rfl hb) rfl rfl rfl) ?_
     refine kE qS ?_
     obtain⟨ia,nh,h⟩:=aw h
     refine dF nh (pc (ab rfl) (ab rfl) (fun h=>h)) ?_
     refine aL ?_
     refine aK ?_
     obtain⟨cP,eb,h⟩:=aw h
     refine jS (γ:=Unit) [0,1,2,3,4,5,6,8,9,10,11,21,26,61] (fun bN=> []) (fun bN=> [(2,⟨some bc,.var (cP:Vector ar 4)⟩)]) (fun bN=> ?_) (fun hm ak=> ?_) fun hm ak=> ?_
     ·clear eb
      obtain rfl:=aI h
      exact dp 0 (hm ())
     ·have h:=gZ ak eb
      obtain⟨mA,BR,h⟩:=aw h
      obtain⟨g7,ni,h⟩:=aw h
      obtain⟨jn,p3,h⟩:=aw h
      obtain⟨FU,P4,h⟩:=aw h
      refine ag.draw mixed 18 ((some 70) :: (some 71) :: (some 72) :: (some 73) :: (some 74) :: (some 75) :: (some 76) :: (some 77) :: (some 78) :: (some 79) :: (some 80) :: (some 81) :: (some 82) :: (some 83) :: (some 84) :: (some 85) :: (some 86) :: (some 87) :: []) ([] :: [] :: [1] :: [2] :: [] :: [4] :: [5] :: [6] :: [] :: [8] :: [9] :: [10] :: [11] :: [12] :: [7,13] :: [3,14] :: [15] :: [0] :: []) (.val _ :: .val _ :: .val _ :: .val _ :: .val _ :: .val _ :: .val _ :: .val _ :: .val _ :: .val _ :: .val _ :: .val _ :: .val _ :: .val _ :: .val _ :: .val _ :: .val _ :: .val _ :: []) (false :: false :: false :: false :: false :: false :: false :: false :: false :: false :: false :: false :: false :: false :: false :: false :: false :: false :: []) (by kernel_rfl) rfl rfl rfl (fun kg=>⟨cZ,H1 (aT na),H1 (aT h4),dz 0 (kr.comp ef) eC,cZ,dO fun L' al=>il (k:=mA) nc (ab rfl) (ab rfl) (cL BR),H1 (aT h4),dz 2 (((aN.id (Vector ar 4)).comp (aN.idx (α:=ar) 4 mA (cL BR).1)).comp ef) eC,H1 (aT o8),dz 0 m3 bF,iC ix,H1 (ij Tryz.underlying3 Tryz.underlying130),uo ni fun L' al=>nM (fK 1 rfl) (ab rfl),dO fun L' al=>th (ab rfl) (fK 1 rfl),iC qI,uo p3 fun L' al=>qN (ab rfl) (ab rfl),dO fun L' al=>c3 (b:=({ (default:ar) with bG:=jn } :ar)) rfl ha ek (.cons ef rfl (ab rfl) rfl (.nil)),dO fun L' al=>il (k:=FU) nc (ab rfl) (ab rfl) (cL P4),trivial⟩) fun kg=> ?_
      obtain⟨jo,p4,h⟩:=aw h
      refine Fi 2 ((aN.id (Vector ar 4)).comp (aN.idx (α:=ar) 4 FU (cL P4).1)) bQ (hb:=by exact p4) ?_
      refine ah.nil ?_
      obtain rfl:=aI h
      exact dp 0 (hm ())
     ·have h:=g1 ak eb
      refine ag.cz ?_
      refine aD ?_
      refine aY (aT na) ?_
      refine cq 0 kr bQ ?_
      obtain⟨pz,BS,h⟩:=aw h
      refine bl (il (k:=pz) nc (ab rfl) (ab rfl) (cL BS)) ?_
      refine sm 2 ((aN.id (Vector ar 4)).comp (aN.idx (α:=ar) 4 pz (cL BS).1)) bQ ?_
      refine ah.nil ?_
      obtain rfl:=aI h
      exact dp 0 (hm ())
  ·refine ag.exit ?_
   refine ae.exit ?_
   obtain rfl:=aI h
   exact eD () 0
 ·clear ao
  refine ae.fM ?_
  refine ae.next ?_
  refine aF ?_
  refine cG 1 jx ?_
  refine cA 0 jx ?_
  refine aK ?_
  refine ag.ret ?_
  obtain rfl:=aI h
  exact ae.jg rfl (hK 0 jx)
theorem KO {hp:aS Cell} {aa:Ref} {aj:Int} {aP:Int} {bR:Int} {sJ:Bool} {b9:Nat} {h6:Nat} {n5:Nat} {oH:Nat} {wh:Nat} {r:Int × Int × Bool} (h:uC hp aa aj aP bR sJ=some r):bM Tryz.prog 249 [I.eq (.pointer (some ⟨b9,0,none⟩)),I.eq (.pointer (some ⟨h6,0,none⟩)),I.eq (.pointer (some ⟨n5,0,none⟩)),I.eq (.pointer (some ⟨oH,0,none⟩)),I.eq (.pointer (some ⟨wh,0,none⟩))] ([⟨some b9,.var (aa:Ref)⟩,⟨some h6,.var (aj:Int)⟩,⟨some n5,.var (aP:Int)⟩,⟨some oH,.var (bR:Int)⟩,⟨some wh,.var (sJ:Bool)⟩] ++ aV hp) (δ:=Unit) (fun _=>I.ed []) (fun _=> [⟨some b9,.var (aa:Ref)⟩,⟨some h6,.var (aj:Int)⟩,⟨some n5,.var (r.1:Int)⟩,⟨some oH,.var (r.2.1:Int)⟩,⟨some wh,.var (r.2.2:Bool)⟩] ++ aV hp):=by
 unfold uC at h
 refine bM.of Tryz.func249 rfl Tryz.ntmps249 rfl fun W A=> ?_
 refine aF ?_
 refine cG 0 dX ?_
 refine bl (DL Tryz.underlying331 (ab rfl)) ?_
 refine aD ?_
 refine ep (fun hb=>eA (i:=0) (aN.id Ref) (r:=aa) dX (ab rfl) rfl rfl rfl) ?_
 obtain⟨ca,dh,h⟩:=aw h
 refine ep (fun hb=>dD (eg (cb rfl hb) (fE dh hb))) ?_
 refine ey (aT qJ) ?_
 obtain⟨bC,dP,h⟩:=aw h
 refine ep (fun hb=>fA ((aN.id dx).comp qB) (r:=bC.dC) gi (cb rfl hb) (eM (n:=5) rfl (iP (fE dP hb)) rfl) rfl rfl) ?_
 refine jB ?_
 refine aK ?_
 obtain⟨bp,ck,h⟩:=aw h
 refine ag.cy (γ:=Unit) (fun aq=> [(0,I.eq (.pointer (some ⟨b9,0,none⟩))),(1,I.eq (.pointer (some ⟨h6,0,none⟩))),(2,I.eq (.pointer (some ⟨n5,0,none⟩))),(3,I.eq (.pointer (some ⟨oH,0,none⟩))),(4,I.eq (.pointer (some ⟨wh,0,none⟩))),(12,I.of (aa.isSome && bC.dC))]) (fun aq=>(⟨some b9,.var (aa:Ref)⟩ :: ⟨some h6,.var (aj:Int)⟩ :: ⟨some n5,.var (bp.1:Int)⟩ :: ⟨some oH,.var (bp.2.1:Int)⟩ :: ⟨some wh,.var (bp.2.2:Bool)⟩ :: aV hp)) (ab rfl) (fun aq=> ?_) (fun hm ak=> ?_) (fun hm ak=> ?_)
 ·clear ck
  refine ae.nd ?_
  refine ae.bz 4 rfl ?_
  refine ae.bz 4 rfl ?_
  refine ae.bz 4 rfl ?_
  refine ae.bz 4 rfl ?_
  refine ae.bz 4 rfl ?_
  obtain rfl:=aI h
  exact ae.kU () (.cons_cons _ (.cons_cons _ (.cons_cons _ (.cons_cons _ (.cons_cons _ (.refl _)))))) rfl rfl
 ·have h:=gZ ak ck
  obtain⟨b2,eZ,h⟩:=aw h
  obtain⟨cf,fk,h⟩:=aw h
  refine iz [0,1,2,3,4,5,6,7,8,9,10,11,12] ?_
  refine ag.pP 5 mixed (a6 13 [] (1 :: []) _ :: a6 14 [] (0 :: []) _ :: a6 15 (1 :: []) [] _ :: a6 16 (2 :: []) [] _ :: ⟨some 17,(3 :: []),[],[],fun _=>I.of (cf.hc),fun _ _=>⟨none,.dead⟩⟩ :: ⟨none,(0 :: []),(2 :: []),(2 :: []),fun _=>I.any,fun hd _=>⟨some n5,.var (aj:Int)⟩⟩ :: ⟨none,(4 :: []),(3 :: []),(3 :: []),fun _=>I.any,fun hd _=>⟨some oH,.var (cf.hc:Int)⟩⟩ :: ⟨none,[],(4 :: []),(4 :: []),fun _=>I.any,fun hd _=>⟨some wh,.var (true:Bool)⟩⟩ :: []) _ (0 :: 1 :: 2 :: 3 :: 4 :: 5 :: 6 :: 7 :: 8 :: 9 :: 10 :: 11 :: 12 :: []) rfl rfl (by kernel_rfl) (by kernel_rfl) ⟨ct.q (lW 1 bF),ct.q (lW 0 dX),ct.q (b8 fun hd E' L' aB al=>dD (eg (ab (aB _ _ rfl)) eZ)),ct.q (fe (aT AI)),?_,?_,?_,?_,trivial⟩ fun eP=> ?_
  ·intro hd E' L' aB al de
   refine bl (fA ((aN.id dx).comp zT) (r:=cf.hc) bF (ab (aB _ _ rfl)) (eM (n:=5) (de.trans rfl) (iP fk) rfl) rfl rfl) ?_
   refine ah.nil ?_
   exact ae.fin (dY []) rfl rfl
  ·intro hd E' L' aB al de
   refine ah.store (i:=2) (aN.id Int) (v:=(aj:Int)) (b':=(aj:Int)) bF (ab (aB _ _ rfl)) (ab (aB _ _ rfl)) (al 2 _ rfl rfl) rfl rfl ?_
   refine ah.nil ?_
   exact ae.fin (dY []) rfl rfl
  ·intro hd E' L' aB al de
   refine ah.store (i:=3) (aN.id Int) (v:=(cf.hc:Int)) (b':=(cf.hc:Int)) bF (ab (aB _ _ rfl)) (ab (aB _ _ rfl)) (al 3 _ rfl rfl) rfl rfl ?_
   refine ah.nil ?_
   exact ae.fin (dY []) rfl rfl
  ·intro hd E' L' aB al de
   refine ah.store (i:=4) (aN.id Bool) (v:=(true:Bool)) (b':=(true:Bool)) gi (ab (aB _ _ rfl)) (fO true) (al 4 _ rfl rfl) rfl rfl ?_
   refine ah.nil ?_
   exact ae.fin (dY []) rfl rfl
  refine ae.dR (L2:=(⟨some b9,.var (aa:Ref)⟩ :: ⟨some h6,.var (aj:Int)⟩ :: ⟨some n5,.var (aj:Int)⟩ :: ⟨some oH,.var (cf.hc:Int)⟩ :: ⟨some wh,.var (true:Bool)⟩ :: aV hp)) rfl ?_
  refine jC [0,1,2,3,4,5,6,7,8,9,10,11,12,13,14,15,16,17] ?_
  obtain rfl:=aI h
  exact dp 0 (hm ())
 ·have h:=g1 ak ck
  refine ag.skip ?_
  obtain rfl:=aI h
  exact dp 0 (hm ())
theorem Rp {aj:Vector ar 4} {Ko:Option Addr} {r:(Vector ar 4)} (h:Gf aj=some r):bK Tryz.prog 271 [I.eq (.pointer Ko),I.of (aj)] (I.gF 277 [I.uq (I.eq (.pointer Ko)),I.ptr r]):=by
 unfold Gf at h
 refine bK.of Tryz.func271 rfl Tryz.ntmps271 rfl fun W A=> ?_
 refine aF ?_
 refine ah.Y8 (ab rfl) Vd rfl ?_
 refine cj fun bc=> ?_
 refine bl (eB (HR .nilFunc)) ?_
 refine b0 ?_
 refine ah.share (α:=Vector ar 4) 0 3 rfl rfl ?_
 refine bl (Oa (f:=277) (τs:= [I.uq (I.eq (.pointer Ko)),I.ptr aj]) ⟨ab rfl,ab rfl,trivial⟩) ?_
 refine aL ?_
 refine aK ?_
 refine ag.ret ?_
 obtain rfl:=aI h
 exact cR
theorem Dp {hp:aS Cell} {aa:Ref} {r:Int} (h:s3 hp aa=some r):bM Tryz.prog 42 [I.of (aa)] ([] ++ aV hp) (δ:=Unit) (fun _=>I.of (r)) (fun _=> [] ++ aV hp):=by
 unfold s3 at h
 refine bM.of Tryz.func42 rfl Tryz.ntmps42 rfl fun W A=> ?_
 refine aF ?_
 refine aL ?_
 refine bO ?_
 refine aF ?_
 refine aD ?_
 refine bl (mE Tryz.underlying37 (ab rfl)) ?_
 refine aK ?_
 refine cm h (fun h=>?_) fun h=>?_
 ·refine aF ?_
  refine aL ?_
  refine aK ?_
  refine ag.ret ?_
  refine ae.ret ?_
  obtain rfl:=aI h
  exact ae.fi () (.refl _) rfl rfl (dv rfl)
 ·refine cW ?_
  refine aF ?_
  refine aD ?_
  obtain⟨ca,dh,h⟩:=aw h
  refine bl (dD (eg (ab rfl) dh)) ?_
  refine aY (aT Ve) ?_
  obtain⟨bC,dP,h⟩:=aw h
  refine bl (fA ((aN.id gA).comp KS) (r:=bC.pK) bF (ab rfl) (eM (n:=0) rfl (lN dP) rfl) rfl rfl) ?_
  refine aL ?_
  refine aK ?_
  refine ag.ret ?_
  obtain rfl:=aI h
  exact ae.fi () (.refl _) rfl rfl (dv rfl)
theorem gl {aa:bf} {aj:Int} {b9:Nat} {r:Int × bf} (h:fH aa aj=some r):bM Tryz.prog 32 [I.eq (.pointer (some ⟨b9,0,none⟩)),I.of (aj)] [⟨some b9,.var (aa:bf)⟩] (δ:=Unit) (fun d=>I.of (r.1)) (fun d=> [⟨some b9,.var (r.2:bf)⟩]):=by
 unfold fH at h
 refine bM.of Tryz.func32 rfl Tryz.ntmps32 rfl fun W A=> ?_
 refine aF ?_
 refine aL ?_
 refine bO ?_
 refine aF ?_
 refine aD ?_
 obtain⟨aG,bo,h⟩:=aw h
 refine ah.iM (fG.call [0] IV (Sa bo) ⟨ab rfl,trivial⟩ rfl ⟨rfl,trivial⟩ rfl) rfl rfl rfl ?_
 refine aY hP ?_
 refine aD ?_
 refine ey cM ?_
 refine kE eT ?_
 refine sl ?_
 refine aK ?_
 refine cm h (fun h=>?_) fun h=>?_
 ·refine aF ?_
  refine aL ?_
  refine aK ?_
  refine ag.ret ?_
  refine ae.ret ?_
  refine ae.bz 0 rfl ?_
  obtain rfl:=aI h
  exact mn ()
 ·refine cW ?_
  refine aF ?_
  refine aD ?_
  refine aY dD ?_
  refine aY (aT AH) ?_
  refine cq 0 zF bF ?_
  refine bm dI ?_
  refine aY dD ?_
  refine aY (aT AH) ?_
  refine sm 0 zF bF ?_
  refine bO ?_
  obtain⟨a8,cE,h⟩:=aw h
  obtain⟨aJ,cr,h⟩:=aw h
  refine ag.draw mixed 14 [some 19,some 20,some 21,some 22,some 23,some 24,some 25,some 26,some 27,some 28,some 29,some 30,some 31,some 32] [[],[0],[1],[2],[],[4],[5],[6],[7],[3,8],[9],[10],[],[11,12]] [.val _,.val _,.val _,.val _,.val _,.val _,.val _,.val _,.val _,.val _,.val _,.val _,.val _,.val _] [false,false,false,false,false,false,false,false,false,false,false,false,false,false] (by kernel_rfl) rfl rfl rfl (fun da=>⟨cZ,H1 dD,H1 (aT Hr),dz 0 Dm EU,cZ,H1 dD,H1 (aT AH),dz 0 zF bF,iC ix,nj cE Tryz.underlying22 Jn,H1 (dV Jn),H1 (Ob Tryz.underlying5 Tryz.underlying3),cZ,dO fun L' al=>Ig (ab rfl) (ab rfl) (G1 cr),trivial⟩) fun da=> ?_
  refine aL ?_
  refine aK ?_
  refine ag.ret ?_
  refine ae.bz 0 rfl ?_
  obtain rfl:=aI h
  exact mn ()
theorem La {aa:a3} {aj:Int} {r:Int} (h:s6 aa aj=some r):bK Tryz.prog 82 [I.of (aa),I.of (aj)] (I.of (r)):=by
 unfold s6 at h
 refine bK.of Tryz.func82 rfl Tryz.ntmps82 rfl fun W A=> ?_
 refine aF ?_
 refine cj fun aZ=> ?_
 refine cj fun bc=> ?_
 refine aL ?_
 refine b0 ?_
 refine aY (aT oy) ?_
 refine cq 1 om n1 ?_
 refine ah.share (α:=Int) 0 3 rfl rfl ?_
 refine bl (Em (F:=(fun ib=>Dg ib aj)) (τs:= [I.ptr aj]) WR ⟨ab rfl,trivial⟩ (fun _ _ h=>RY h)) ?_
 obtain⟨aG,bo,h⟩:=aw h
 refine e6 WS (Rb bo) ?_
 refine aL ?_
 refine aK ?_
 refine ag.ret ?_
 obtain rfl:=aI h
 exact cR
theorem Lb {aa:a3} {aj:Int} {r:Int} (h:xr aa aj=some r):bK Tryz.prog 85 [I.of (aa),I.of (aj)] (I.of (r)):=by
 unfold xr at h
 refine bK.of Tryz.func85 rfl Tryz.ntmps85 rfl fun W A=> ?_
 refine aF ?_
 refine cj fun aZ=> ?_
 refine cj fun bc=> ?_
 refine aL ?_
 refine b0 ?_
 refine aY (aT AS) ?_
 refine cq 1 zn yl ?_
 refine ah.share (α:=Int) 0 3 rfl rfl ?_
 refine bl (Em (F:=(fun ib=>Dh ib aj)) (τs:= [I.ptr aj]) WT ⟨ab rfl,trivial⟩ (fun _ _ h=>RZ h)) ?_
 obtain⟨aG,bo,h⟩:=aw h
 refine e6 WU (Rc bo) ?_
 refine aL ?_
 refine aK ?_
 refine ag.ret ?_
 obtain rfl:=aI h
 exact cR
theorem uQ {hp:aS Cell} {aa:a3} {aj:Int} {Q:Ref × (aS Cell)→Prop} (h:nG hp aa aj Q):bM Tryz.prog 39 [I.of (aa),I.of (aj)] ([] ++ aV hp) (δ:= {r:Ref × (aS Cell) // Q r} × Unit) (fun d=>I.of (d.1.1.1)) (fun d=> [] ++ aV d.1.1.2):=by
 unfold nG at h
 refine bM.of Tryz.func39 rfl Tryz.ntmps39 rfl fun W A=> ?_
 refine aF ?_
 refine cj fun aZ=> ?_
 refine bl (eB (qE)) ?_
 refine b0 ?_
 refine cG 0 ho ?_
 refine aD ?_
 obtain⟨aG,bo,h⟩:=ax.cv h
 refine e6 Pq (La bo) ?_
 refine aL ?_
 refine bO ?_
 refine aF ?_
 refine aD ?_
 refine bm eT ?_
 refine aK ?_
 refine ag.cond (ab rfl) (fun ak=> ?_) (fun ak=> ?_)
 ·replace h:=mF ak h
  refine aF ?_
  refine bl (eB (qE)) ?_
  refine aK ?_
  refine ag.ret ?_
  refine ae.ret ?_
  exact ae.fi (⟨⟨((none:Ref),hp),h⟩,()⟩: {r // _} × _) (.cons _ (.refl _)) rfl rfl (dv rfl)
 ·replace h:=mG ak h
  refine cW ?_
  refine aF ?_
  refine aY (aT oy) ?_
  refine cq 0 om n1 ?_
  refine aD ?_
  obtain⟨a8,cE,h⟩:=ax.cv h
  refine hU cE Tryz.underlying28 hn ?_
  refine aY (dV hn) ?_
  refine c1 mO fun bc=> ?_
  refine cA 0 hn ?_
  refine b0 ?_
  refine cG 0 hn ?_
  obtain⟨aJ,cr,h⟩:=ax.cv h
  refine e6 Y9 (SA cr) ?_
  refine aD ?_
  refine gr ?_
  refine gr ?_
  refine aL ?_
  refine aL ?_
  refine b0 ?_
  refine aD ?_
  refine aY (aT mH) ?_
  refine cq 0 kQ mg ?_
  refine aY (eK Tryz.underlying62) ?_
  refine ah.HS (α:=Int) (β:=aA) 2 rfl (Cell.kb ([]:List (Int × aA))) (fun _=>rfl) rfl fun c2 wg=> ?_
  replace h:=ax.tg h c2 wg
  obtain⟨bE,dE,h⟩:=ax.cv h
  refine dF dE (c3 (b:=({ (default:gA) with pK:=aJ.1,o9:=(((aE aa.b7 a8).cl).length:Int),ks:=(⟨some c2.1⟩:gf) } :gA)) rfl WV WW (.cons KS rfl (ab rfl) rfl (.cons KT rfl (ab rfl) rfl (.cons w6 rfl (ab rfl) rfl (.nil))))) ?_
  refine ah.Bo 2 rfl (Cell.nf bE) (fun _=>rfl) (ab rfl) rfl fun dc BP=> ?_
  replace h:=ax.tg h dc BP
  refine aL ?_
  refine bO ?_
  refine aF ?_
  refine aD ?_
  refine aK ?_
  refine ag.block ?_
  refine aF ?_
  refine bm gN ?_
  refine aL ?_
  refine aK ?_
  refine ag.xX (γ:=Unit) h (fun bp aq=> [(0,I.of (aa)),(1,I.of (aj)),(2,I.eq (.pointer (some ⟨aZ,0,none⟩))),(4,I.of (none:Ref)),(5,I.of (aG)),(6,I.eq (.pointer (some ⟨bc,0,none⟩))),(7,I.of (aJ.1)),(8,I.of (aJ.2)),(9,I.of (some dc.1:Ref)),(16,I.of (decide (aG < 0))),(34,I.of (aJ.1)),(42,I.of (aJ.1 ==1))]) (fun bp aq=>(⟨some bc,.var (aE aa.b7 a8:bW)⟩ :: ⟨some aZ,.var (aa:a3)⟩ :: aV bp)) (ab rfl) (fun bp aq h=> ?_) (fun hm ak h=> ?_) (fun hm ak h=> ?_)
  ·refine ae.ea ?_
   refine ae.next ?_
   refine aF ?_
   refine aD ?_
   refine aL ?_
   refine aK ?_
   refine ag.ret ?_
   exact ae.fi (⟨⟨((some dc.1:Ref),bp),h⟩,()⟩: {r // _} × _) (.cons _ (.cons _ (.refl _))) rfl rfl (dv rfl)
  ·refine ag.cz ?_
   refine aD ?_
   refine ah.iR 2 0 rfl Za (S4 h) rfl rfl trivial rfl fun⟨⟨bh,h⟩,az⟩=> ?_
   refine ah.dR (L2:=(⟨some bc,.var (aE aa.b7 a8:bW)⟩ :: ⟨some aZ,.var (aa:a3)⟩ :: aV bh.2)) rfl ?_
   refine hC WX WY { p5:=bh.1:jM } (iK zG .nil) ?_
   refine bl (HT Tryz.underlying166 rfl (ab rfl) (fun _ _ _ h=>TN h)) ?_
   refine bl (dD (eg (ab rfl) rfl)) ?_
   refine aY (aT ti) ?_
   obtain⟨bC,dP,h⟩:=ax.cv h
   obtain⟨cS,kz,h⟩:=ax.cv h
   refine ah.nQ (k':=Cell.nf ({ bC with iu:=(gm.mh ({ p5:=bh.1:jM })) } :gA)) 2 rfl ((aN.id gA).comp sW) (v:=((gm.mh ({ p5:=bh.1:jM })):gm)) rW (ab rfl) (ab rfl) (lN dP) rfl rfl rfl rfl (aI kz) ?_
   refine ah.nil ?_
   exact dp 0 (hm cS () h)
  ·refine aF ?_
   refine bm gN ?_
   refine aL ?_
   refine aK ?_
   refine ag.xX (γ:=Unit) h (fun cP bd=> [(0,I.of (aa)),(1,I.of (aj)),(2,I.eq (.pointer (some ⟨aZ,0,none⟩))),(4,I.of (none:Ref)),(5,I.of (aG)),(6,I.eq (.pointer (some ⟨bc,0,none⟩))),(7,I.of (aJ.1)),(8,I.of (aJ.2)),(9,I.of (some dc.1:Ref)),(16,I.of (decide (aG < 0))),(34,I.of (aJ.1)),(42,I.of (aJ.1 ==1)),(50,I.of (aJ.1 ==2))]) (fun cP bd=>(⟨some bc,.var (aE aa.b7 a8:bW)⟩ :: ⟨some aZ,.var (aa:a3)⟩ :: aV cP)) (ab rfl) (fun cP bd h=> ?_) (fun hm ak h=> ?_) (fun hm ak h=> ?_)
   ·exact dp 0 (hm cP () h)
   ·refine aF ?_
    refine aL ?_
    refine bO ?_
    refine ag.seq ?_
    obtain⟨bY,cX,h⟩:=ax.cv h
    obtain⟨bn,fT,h⟩:=ax.cv h
    refine ag.draw mixed 8 [some 52,some 53,some 54,some 55,some 56,some 57,some 58,some 59] [[],[],[1],[],[2,3],[4],[5],[0,6]] [.val _,.val _,.val _,.val _,.val _,.val _,.val _,.val _] [false,false,false,false,false,false,false,false] (by kernel_rfl) rfl rfl rfl (fun da=>⟨fy 1 ho,H1 (aT mH),dz 0 kQ mg,cZ,nj cX Tryz.underlying62 jw,tY o0 HU,H1 (dV bF),fl Pr (Lb fT),trivial⟩) fun da=> ?_
    refine aL ?_
    refine b0 ?_
    refine aD ?_
    refine bm kT ?_
    refine aK ?_
    obtain⟨ff,gG,h⟩:=ax.cv h
    refine ag.cy (γ:=Unit) (fun bN=> [(0,I.of (aa)),(1,I.of (aj)),(2,I.eq (.pointer (some ⟨aZ,0,none⟩))),(4,I.of (none:Ref)),(5,I.of (aG)),(6,I.eq (.pointer (some ⟨bc,0,none⟩))),(7,I.of (aJ.1)),(8,I.of (aJ.2)),(9,I.of (some dc.1:Ref)),(10,I.of (ff)),(11,I.of (bn)),(16,I.of (decide (aG < 0))),(34,I.of (aJ.1)),(42,I.of (aJ.1 ==1)),(50,I.of (aJ.1 ==2)),(61,I.of (decide (bn≥0)))]) (fun bN=>(⟨some bc,.var (aE aa.b7 a8:bW)⟩ :: ⟨some aZ,.var (aa:a3)⟩ :: aV dc.2)) (ab rfl) (fun bN=> ?_) (fun hm ak=> ?_) (fun hm ak=> ?_)
    ·clear gG
     refine ae.next ?_
     refine ag.cz ?_
     refine aD ?_
     refine aD ?_
     refine aD ?_
     refine ah.HS (α:=Vector ar 4) (β:=Ref) 2 rfl (Cell.lS ([]:List ((Vector ar 4) × Ref))) (fun _=>rfl) rfl fun gJ aar=> ?_
     replace h:=ax.tg h gJ aar
     obtain⟨dt,hD,h⟩:=ax.cv h
     refine dF hD (c3 (b:= { rX:=aJ.2,fw:=ff,nN:=(⟨some gJ.1⟩:gf):gz }) rfl WZ W0 (.cons zk rfl (ab rfl) rfl (.cons C2 rfl (ab rfl) rfl (.cons qz rfl (ab rfl) rfl (.nil))))) ?_
     refine bl (HT Tryz.underlying169 rfl (ab rfl) (fun _ _ _ h=>TO h)) ?_
     refine bl (dD (eg (ab rfl) rfl)) ?_
     refine aY (aT ti) ?_
     obtain⟨cf,fk,h⟩:=ax.cv h
     obtain⟨cO,tI,h⟩:=ax.cv h
     refine ah.nQ (k':=Cell.nf ({ cf with iu:=(gm.mi dt) } :gA)) 2 rfl ((aN.id gA).comp sW) (v:=((gm.mi dt):gm)) rW (ab rfl) (ab rfl) (lN fk) rfl rfl rfl rfl (aI tI) ?_
     refine ah.nil ?_
     exact dp 0 (hm cO () h)
    ·have h:=gZ ak gG
     refine ag.cz ?_
     refine aY (aT AS) ?_
     refine cq 1 zn yl ?_
     refine aD ?_
     obtain⟨cY,g4,h⟩:=aw h
     refine hU g4 Tryz.underlying24 tw ?_
     refine Fj oZ Hs ?_
     refine aY (dV bF) ?_
     refine aL ?_
     refine ah.nil ?_
     obtain rfl:=aI h
     exact dp 0 (hm ())
    ·have h:=g1 ak gG
     refine ag.skip ?_
     obtain rfl:=aI h
     exact dp 0 (hm ())
   ·refine ag.cz ?_
    refine aD ?_
    refine cG 1 ho ?_
    obtain⟨cw,hV,h⟩:=ax.cv h
    refine eQ 0 Zb (Sh hV) fun c7=> ?_
    refine ah.W1 4 2 (Cell.q0 cw c7.2.1 c7.2.2) rfl rfl rfl rfl List.mem_cons_self fun jH aas aat=> ?_
    replace h:=h (c7.2.1,c7.2.2) jH aas
    refine ah.W2 37 rfl aat ?_
    refine hC W3 W4 { b1:=(some jH.1:Ref):ja } (iK zH .nil) ?_
    refine bl (HT Tryz.underlying173 rfl (ab rfl) (fun _ _ _ h=>TP h)) ?_
    refine bl (dD (eg (ab rfl) rfl)) ?_
    refine aY (aT ti) ?_
    obtain⟨eH,lv,h⟩:=ax.cv h
    obtain⟨gj,Bp,h⟩:=ax.cv h
    refine ah.nQ (k':=Cell.nf ({ eH with iu:=(gm.mj ({ b1:=(some jH.1:Ref):ja })) } :gA)) 2 rfl ((aN.id gA).comp sW) (v:=((gm.mj ({ b1:=(some jH.1:Ref):ja })):gm)) rW (ab rfl) (ab rfl) (lN lv) rfl rfl rfl rfl (aI Bp) ?_
    refine ah.nil ?_
    exact dp 0 (hm gj () h)
theorem Sl {aa:a3} {aj:Int} {r:dT} (h:zU aa aj=some r):bK Tryz.prog 76 [I.of (aa),I.of (aj)] (I.of (r)):=by
 unfold zU at h
 refine bK.of Tryz.func76 rfl Tryz.ntmps76 rfl fun W A=> ?_
 refine aF ?_
 refine cj fun aZ=> ?_
 refine c1 qT fun bc=> ?_
 refine bO ?_
 refine aF ?_
 refine aY (aT Ny) ?_
 refine cq 1 KP IW ?_
 refine aY (eK Tryz.underlying27) ?_
 refine aD ?_
 refine aK ?_
 refine ag.block ?_
 obtain⟨av,ao,h⟩:=aw h
 refine hT (γ:=Unit) (δ:=Unit) ao [0,1,2,4,8,9] (fun s1 aq=> [(10,I.of (s1))]) (fun s1 aq=> []) (fun az=>Sum.elim (fun az=>Exit.exit 0) (fun az=>Exit.ret) az) (fun az aq=>Sum.elim (fun az=> [(10,I.of (az.1)),(11,I.of (az.2))]) (fun az=> [(10,I.of (az.1)),(11,I.of (az.2.1)),(17,I.of (az.2.2.1))]) az) (fun az aq=>Sum.elim (fun az=> []) (fun az=> [(0,⟨some bc,.var (az.2.2.2:dT)⟩)]) az) () (fun s1 r h aq=> ?_) fun aq=> ?_
 ·clear ao
  refine aF ?_
  refine bm eT ?_
  refine bO ?_
  refine cm h (fun h=>?_) fun h=>?_
  ·refine cW ?_
   refine ag.seq ?_
   refine ag.block ?_
   refine aF ?_
   obtain⟨a8,cE,h⟩:=aw h
   refine hU cE Tryz.underlying27 pQ ?_
   refine aY (dV pQ) ?_
   refine c1 qT fun cC=> ?_
   refine cA 0 pQ ?_
   refine b0 ?_
   refine aY (aT Vf) ?_
   refine cq 0 uF bF ?_
   refine aD ?_
   refine bm gN ?_
   refine aK ?_
   refine cm h (fun h=>?_) fun h=>?_
   ·refine aF ?_
    refine cG 0 pQ ?_
    refine cA 1 pQ ?_
    refine aK ?_
    refine ag.ret ?_
    refine ae.dn ?_
    refine ae.ret ?_
    obtain rfl:=aI h
    exact eD () 1
   ·refine ag.skip ?_
    refine ae.ea ?_
    refine ae.next ?_
    refine ag.cz ?_
    refine bm dI ?_
    refine aD ?_
    refine ah.nil ?_
    obtain rfl:=aI h
    exact gP () 1
  ·refine ag.exit ?_
   refine ae.exit ?_
   obtain rfl:=aI h
   exact eD () 0
 ·clear ao
  rcases av with av | av
  ·simp only [Sum.elim_inl] at h
   refine ae.fM ?_
   refine ae.next ?_
   refine aF ?_
   refine hC vx qT (default:dT) .nil ?_
   refine cA 0 pQ ?_
   refine aK ?_
   refine ag.ret ?_
   obtain rfl:=aI h
   exact ae.jg rfl (hK 0 pQ)
  ·simp only [Sum.elim_inr] at h
   refine ae.dn ?_
   refine ae.ret ?_
   obtain rfl:=aI h
   exact ae.jg rfl (hK 0 pQ)
theorem Dx {aa:bu} {r:(Vector ar 4)} (h:s7 aa=some r):bK Tryz.prog 232 [I.of (aa)] (I.of (r)):=by
 unfold s7 at h
 refine bK.of Tryz.func232 rfl Tryz.ntmps232 rfl fun W A=> ?_
 refine aF ?_
 refine cj fun aZ=> ?_
 refine c1 ym fun bc=> ?_
 refine b0 ?_
 refine c1 ym fun cC=> ?_
 refine bO ?_
 refine aF ?_
 refine aY (aT lk) ?_
 refine cq 2 lh kY ?_
 refine aY (aT lk) ?_
 refine cq 2 lh kY ?_
 refine aY (eK Tryz.underlying47) ?_
 refine bm A4 ?_
 obtain⟨aG,bo,h⟩:=aw h
 refine bl (MW Tryz.underlying47 fr (ab rfl) .none (.some (ab rfl)) bo) ?_
 refine aY (eK Tryz.underlying47) ?_
 refine aD ?_
 refine aK ?_
 refine ag.block ?_
 obtain⟨av,ao,h⟩:=aw h
 refine hT (γ:=Unit) (δ:=Unit) ao [0,1,2,3,12,13] (fun s1 aq=> [(14,I.of (s1.1))]) (fun s1 aq=> [(0,⟨some cC,.var (s1.2:Vector ar 4)⟩)]) (fun az=>Exit.exit 0) (fun az aq=> [(14,I.of (az.1)),(15,I.of (az.2.1))]) (fun az aq=> [(0,⟨some cC,.var (az.2.2:Vector ar 4)⟩)]) () (fun s1 r h aq=> ?_) fun aq=> ?_
 ·clear ao
  refine aF ?_
  refine bm eT ?_
  refine bO ?_
  refine cm h (fun h=>?_) fun h=>?_
  ·refine cW ?_
   refine ag.seq ?_
   refine ag.block ?_
   refine aF ?_
   refine aD ?_
   obtain⟨a8,cE,h⟩:=aw h
   refine hU cE Tryz.underlying47 fr ?_
   refine aY (dV fr) ?_
   refine c1 mN fun fm=> ?_
   refine aL ?_
   refine cA 0 fr ?_
   refine aK ?_
   refine ag.cz ?_
   refine aD ?_
   refine aY (aT na) ?_
   refine cq 0 kr bQ ?_
   obtain⟨bY,cX,h⟩:=aw h
   refine bl (il (k:=bY) nc (ab rfl) (ab rfl) (cL cX)) ?_
   refine sm 1 ((aN.id (Vector ar 4)).comp (aN.idx (α:=ar) 4 bY (cL cX).1)) bQ ?_
   refine ah.nil ?_
   refine ae.ea ?_
   refine ae.next ?_
   refine ag.cz ?_
   refine bm dI ?_
   refine aD ?_
   refine ah.nil ?_
   obtain rfl:=aI h
   exact gP () 1
  ·refine ag.exit ?_
   refine ae.exit ?_
   obtain rfl:=aI h
   exact eD () 0
 ·clear ao
  refine ae.fM ?_
  refine ae.next ?_
  refine aF ?_
  refine cG 0 jx ?_
  refine cA 1 jx ?_
  refine aK ?_
  refine ag.ret ?_
  obtain rfl:=aI h
  exact ae.jg rfl (hK 1 jx)
theorem GD {hp:aS Cell} {aa:Ref} {aj:Vector ar 4} {r:Int × Bool} (h:s4 hp aa aj=some r):bM Tryz.prog 231 [I.of (aa),I.of (aj)] ([] ++ aV hp) (δ:=Unit) (fun _=>I.ed [I.of (r.1),I.of (r.2)]) (fun _=> [] ++ aV hp):=by
 unfold s4 at h
 refine bM.of Tryz.func231 rfl Tryz.ntmps231 rfl fun W A=> ?_
 refine aF ?_
 refine cj fun aZ=> ?_
 refine aL ?_
 refine aL ?_
 refine bO ?_
 refine aF ?_
 refine aD ?_
 refine bl (mE Tryz.underlying163 (ab rfl)) ?_
 refine aK ?_
 refine cm h (fun h=>?_) fun h=>?_
 ·refine aF ?_
  refine aL ?_
  refine aL ?_
  refine aK ?_
  refine ag.ret ?_
  refine ae.ret ?_
  obtain rfl:=aI h
  exact ae.ky () (.cons _ (.refl _)) rfl rfl (dv rfl) (dv rfl)
 ·refine cW ?_
  refine ag.seq ?_
  obtain⟨ca,dh,h⟩:=aw h
  obtain⟨bC,dP,h⟩:=aw h
  obtain⟨b2,eZ,h⟩:=aw h
  obtain⟨cf,fk,h⟩:=aw h
  obtain⟨bE,dE,h⟩:=aw h
  refine ag.draw mixed 10 [some 11,some 12,some 13,some 14,some 15,some 16,some 10,some 17,some 18,some 6] [[],[0],[1],[2],[],[3,4],[5],[6],[6],[7]] [.val _,.val _,.val _,.val _,.val _,.val _,.val _,.val _,.val _,.val _] [false,false,false,false,false,false,false,false,false,false] (by kernel_rfl) rfl rfl rfl (fun da=>⟨cZ,dO fun L' al=>dD (eg (ab rfl) dh),H1 (aT D2),dO fun L' al=>fA ((aN.id m5).comp zx) (r:=bC.oD) A5 (ab rfl) (kc (fun i e q=>al i e q rfl) (eM (n:=1) rfl (tn dP) rfl)) rfl rfl,fy 0 jx,dO fun L' al=>Ha (r:=bE) Tryz.underlying222 Ey jD (l7 (ab rfl) eZ) (ab rfl) (kc (fun i e q=>al i e q rfl) (eM (n:=1) rfl (qO fk) rfl)) (aI dE),cZ,yB,yB,wU,trivial⟩) fun da=> ?_
  refine aL ?_
  refine b0 ?_
  refine aD ?_
  refine aD ?_
  refine aL ?_
  refine aL ?_
  refine aK ?_
  refine ag.ret ?_
  obtain rfl:=aI h
  exact ae.ky () (.cons _ (.refl _)) rfl rfl (dv rfl) (dv rfl)
theorem KR {aa:gz} {aj:Vector ar 4} {r:(Vector ar 4) × ar} (h:w8 aa aj=some r):bK Tryz.prog 241 [I.of (aa),I.of (aj)] (I.ed [I.of (r.1),I.of (r.2)]):=by
 unfold w8 at h
 refine bK.of Tryz.func241 rfl Tryz.ntmps241 rfl fun W A=> ?_
 refine aF ?_
 refine cj fun aZ=> ?_
 refine cj fun bc=> ?_
 refine c1 vy fun cC=> ?_
 refine c1 ek fun fm=> ?_
 refine b0 ?_
 refine aY (aT D3) ?_
 refine cq 3 zk bF ?_
 obtain⟨a8,cE,h⟩:=aw h
 refine bl (il (k:=a8) nc (ab rfl) (ab rfl) (cL cE)) ?_
 refine cq 2 ((aN.id (Vector ar 4)).comp (aN.idx (α:=ar) 4 a8 (cL cE).1)) bQ ?_
 refine c1 ek fun iY=> ?_
 refine cA 0 bQ ?_
 refine b0 ?_
 refine aY (aT D3) ?_
 refine cq 4 zk bF ?_
 refine hC ha ek (default:ar) .nil ?_
 obtain⟨bY,cX,h⟩:=aw h
 refine bl (il (k:=bY) nc (ab rfl) (ab rfl) (cL cX)) ?_
 refine sm 3 ((aN.id (Vector ar 4)).comp (aN.idx (α:=ar) 4 bY (cL cX).1)) bQ ?_
 refine bO ?_
 refine ag.draw mixed 3 [some 15,some 16,none] [[],[],[0]] [.val _,.val _,.k0 2 (.var ((fP aj bY (default:ar)):Vector ar 4))] [false,false,true] (by kernel_rfl) rfl rfl rfl (fun da=>⟨fy 3 jx,fy 0 bQ,⟨_,_,rfl,fun L' al=>vi (i:=2) (aN.id (Vector ar 4)) (v:=((fP aj bY (default:ar)):Vector ar 4)) (b':=((fP aj bY (default:ar)):Vector ar 4)) j7 (ab rfl) (ab rfl) (al _ _ rfl) rfl rfl⟩,trivial⟩) fun da=> ?_
 refine cA 1 bQ ?_
 refine aK ?_
 refine ag.ret ?_
 obtain rfl:=aI h
 exact ae.EV rfl (hK 2 j7) (hK 1 bQ)
theorem Lh {aa:Int} {r:Int} (h:xC aa=some r):bK Tryz.prog 205 [I.of (aa)] (I.of (r)):=by
 unfold xC at h
 refine bK.of Tryz.func205 rfl Tryz.ntmps205 rfl fun W A=> ?_
 refine aF ?_
 refine aL ?_
 refine b0 ?_
 refine aD ?_
 refine bm Ew ?_
 refine bm A4 ?_
 refine aL ?_
 refine aK ?_
 refine ag.ret ?_
 obtain rfl:=aI h
 exact cR
theorem Lp {aa:ar} {aj:Int} {r:ar} (h:xF aa aj=some r):bK Tryz.prog 204 [I.of (aa),I.of (aj)] (I.of (r)):=by
 unfold xF at h
 refine bK.of Tryz.func204 rfl Tryz.ntmps204 rfl fun W A=> ?_
 refine aF ?_
 refine cj fun aZ=> ?_
 refine c1 ek fun bc=> ?_
 refine bO ?_
 refine ag.block ?_
 refine aF ?_
 refine aD ?_
 refine bm qS ?_
 refine aL ?_
 refine aK ?_
 refine cm h (fun h=>?_) fun h=>?_
 ·refine aF ?_
  refine cG 1 bQ ?_
  refine cA 0 bQ ?_
  refine aK ?_
  refine ag.ret ?_
  refine ae.dn ?_
  refine ae.ret ?_
  obtain rfl:=aI h
  exact ae.jg rfl (hK 0 bQ)
 ·refine aF ?_
  refine aD ?_
  refine bm kT ?_
  refine aL ?_
  refine aK ?_
  refine cm h (fun h=>?_) fun h=>?_
  ·refine aF ?_
   refine aY (aT j5) ?_
   refine cq 1 hx eC ?_
   refine aD ?_
   refine bm ix ?_
   refine aY (ij Tryz.underlying3 Tryz.underlying130) ?_
   refine bm qK ?_
   obtain⟨bE,dE,h⟩:=aw h
   refine dF dE (c3 (b:=({ (default:ar) with bG:=aa.cV >>> (BitVec.ofInt 64 (bq (aj - 64))).toNat } :ar)) rfl ha ek (.cons ef rfl (ab rfl) rfl (.nil))) ?_
   refine cA 0 bQ ?_
   refine aK ?_
   refine ag.ret ?_
   refine ae.dn ?_
   refine ae.ret ?_
   obtain rfl:=aI h
   exact ae.jg rfl (hK 0 bQ)
  ·refine ag.skip ?_
   refine ae.ea ?_
   refine ae.next ?_
   refine aF ?_
   refine aY (aT j5) ?_
   refine cq 1 hx eC ?_
   refine aD ?_
   refine aY (ij Tryz.underlying3 Tryz.underlying130) ?_
   refine bm qK ?_
   refine aY (aT h4) ?_
   refine cq 1 ef eC ?_
   refine aD ?_
   refine aY (ij Tryz.underlying3 Tryz.underlying130) ?_
   refine bm qK ?_
   refine aY (aT j5) ?_
   refine cq 1 hx eC ?_
   refine aD ?_
   refine bm ix ?_
   refine aY (ij Tryz.underlying3 Tryz.underlying130) ?_
   refine bm nM ?_
   obtain⟨dt,hD,h⟩:=aw h
   refine dF hD (qN (ab rfl) (ab rfl)) ?_
   obtain⟨fz,kD,h⟩:=aw h
   refine dF kD (c3 (b:= { cV:=aa.cV >>> (BitVec.ofInt 64 aj).toNat,bG:=dt:ar }) rfl ha ek (.cons hx rfl (ab rfl) rfl (.cons ef rfl (ab rfl) rfl (.nil)))) ?_
   refine cA 0 bQ ?_
   refine aK ?_
   refine ag.ret ?_
   obtain rfl:=aI h
   exact ae.jg rfl (hK 0 bQ)
theorem Ts {hp:aS Cell} {aa:Int} {Q:Ref × (aS Cell)→Prop} (h:DI hp aa Q):bM Tryz.prog 243 [I.of (aa)] ([] ++ aV hp) (δ:= {r:Ref × (aS Cell) // Q r} × Unit) (fun d=>I.of (d.1.1.1)) (fun d=> [] ++ aV d.1.1.2):=by
 unfold DI at h
 refine bM.of Tryz.func243 rfl Tryz.ntmps243 rfl fun W A=> ?_
 refine aF ?_
 refine bl (eB (qE)) ?_
 refine b0 ?_
 refine aD ?_
 refine bm Ew ?_
 refine bm A4 ?_
 obtain⟨bE,dE,h⟩:=ax.cv h
 refine dF dE (c3 (b:=({ (default:fv) with fw:=min (max 1 aa) 128 } :fv)) rfl W5 W6 (.cons sY rfl (ab rfl) rfl (.nil))) ?_
 refine ah.Bo 0 rfl (Cell.jy bE) (fun _=>rfl) (ab rfl) rfl fun c2 wg=> ?_
 replace h:=ax.tg h c2 wg
 refine aL ?_
 refine aK ?_
 refine ag.ret ?_
 exact ae.fi (⟨⟨((some c2.1:Ref),c2.2),h⟩,()⟩: {r // _} × _) (.refl _) rfl rfl (dv rfl)
theorem KQ {aa:aA} {aj:Int} {r:Bool} (h:w7 aa aj=some r):bK Tryz.prog 279 [I.of (aa),I.ptr aj] (I.of (r)):=by
 unfold w7 at h
 refine bK.of Tryz.func279 rfl Tryz.ntmps279 rfl fun W A=> ?_
 refine aF ?_
 refine cj fun aZ=> ?_
 refine aL ?_
 refine b0 ?_
 refine aY (aT nR) ?_
 refine cq 0 mD bF ?_
 refine aY (dV bF) ?_
 refine bm gN ?_
 refine aL ?_
 refine aK ?_
 refine ag.ret ?_
 obtain rfl:=aI h
 exact cR
theorem KM {aa:List aA} {aj:aA→Option Bool} {r:Int} (h:w4 aa aj=some r):bK Tryz.prog 110 [I.of (aa),I.we Tryz.prog aj] (I.of (r)):=by
 unfold w4 at h
 refine bK.of Tryz.func110 rfl Tryz.ntmps110 rfl fun W A=> ?_
 refine aF ?_
 refine aL ?_
 refine bO ?_
 refine aF ?_
 refine aD ?_
 refine aY (eK Tryz.underlying38) ?_
 refine aD ?_
 refine aK ?_
 refine ag.block ?_
 obtain⟨av,ao,h⟩:=aw h
 refine hT (γ:=Unit) (δ:=Unit) ao [0,1,7] (fun s1 aq=> [(4,I.of (0:Int)),(8,I.of (s1))]) (fun s1 aq=> []) (fun az=>Sum.elim (fun az=>Exit.exit 0) (fun az=>Exit.ret) az) (fun az aq=>Sum.elim (fun az=> [(4,I.of (0:Int)),(8,I.of (az.1)),(9,I.of (az.2))]) (fun az=> [(4,I.of (az.1)),(5,I.of (az.2.1)),(8,I.of (az.2.2.1)),(9,I.of (az.2.2.2.1)),(16,I.of (az.2.2.2.2))]) az) (fun az aq=>Sum.elim (fun az=> []) (fun az=> []) az) () (fun s1 r h aq=> ?_) fun aq=> ?_
 ·clear ao
  refine aF ?_
  refine bm eT ?_
  refine bO ?_
  refine cm h (fun h=>?_) fun h=>?_
  ·refine cW ?_
   refine ag.seq ?_
   refine ag.block ?_
   refine aF ?_
   refine aD ?_
   refine aL ?_
   refine b0 ?_
   refine aD ?_
   refine aD ?_
   refine aD ?_
   obtain⟨a8,cE,h⟩:=aw h
   refine hU cE Tryz.underlying38 cg ?_
   refine aY (dV cg) ?_
   obtain⟨aG,bo,h⟩:=aw h
   refine bl (DV (ab rfl) (ab rfl) bo) ?_
   refine aK ?_
   refine cm h (fun h=>?_) fun h=>?_
   ·refine aF ?_
    refine aD ?_
    refine aL ?_
    refine aK ?_
    refine ag.ret ?_
    refine ae.dn ?_
    refine ae.ret ?_
    obtain rfl:=aI h
    exact eD () 0
   ·refine ag.skip ?_
    refine ae.ea ?_
    refine ae.next ?_
    refine ag.cz ?_
    refine bm dI ?_
    refine aD ?_
    refine ah.nil ?_
    obtain rfl:=aI h
    exact gP () 0
  ·refine ag.exit ?_
   refine ae.exit ?_
   obtain rfl:=aI h
   exact eD () 0
 ·clear ao
  rcases av with av | av
  ·simp only [Sum.elim_inl] at h
   refine ae.fM ?_
   refine ae.next ?_
   refine aF ?_
   refine aL ?_
   refine aK ?_
   refine ag.ret ?_
   obtain rfl:=aI h
   exact cR
  ·simp only [Sum.elim_inr] at h
   refine ae.dn ?_
   refine ae.ret ?_
   obtain rfl:=aI h
   exact cR
theorem Q3 {aa:List aA} {aj:aA} {aP:aA→aA→Option Int} {r:Int × Bool} (h:za aa aj aP=some r):bK Tryz.prog 274 [I.of (aa),I.of (aj),I.q5 Tryz.prog aP] (I.ed [I.of (r.1),I.of (r.2)]):=by
 unfold za at h
 refine bK.of Tryz.func274 rfl Tryz.ntmps274 rfl fun W A=> ?_
 refine aF ?_
 refine cj fun aZ=> ?_
 refine aL ?_
 refine aL ?_
 refine b0 ?_
 refine aD ?_
 refine aY (eK Tryz.underlying38) ?_
 refine aL ?_
 refine b0 ?_
 refine aD ?_
 refine aL ?_
 refine aL ?_
 refine bO ?_
 refine ag.block ?_
 obtain⟨av,ao,h⟩:=aw h
 refine hT (γ:=Unit) (δ:=Unit) ao [0,1,2,4,6,7,8] (fun s1 aq=> [(9,I.of (s1.1)),(10,I.of (s1.2))]) (fun s1 aq=> []) (fun az=>Exit.exit 0) (fun az aq=> [(9,I.of (az.1)),(10,I.of (az.2.1)),(17,I.of (az.2.2))]) (fun az aq=> []) () (fun s1 r h aq=> ?_) fun aq=> ?_
 ·clear ao
  refine ag.seq ?_
  refine aF ?_
  refine aD ?_
  refine aD ?_
  refine bm eT ?_
  refine aK ?_
  refine cm h (fun h=>?_) fun h=>?_
  ·refine cW ?_
   refine ag.block ?_
   refine aF ?_
   refine aD ?_
   refine aD ?_
   refine bm dI ?_
   refine aY (ij Tryz.underlying3 Tryz.underlying130) ?_
   refine bl (qK (ab rfl) (fK 1 rfl)) ?_
   refine aY (V0 Tryz.underlying130 Tryz.underlying3) ?_
   refine aL ?_
   refine bO ?_
   obtain⟨a8,cE,h⟩:=aw h
   obtain⟨aG,bo,h⟩:=aw h
   refine ag.draw mixed 8 [some 24,some 25,some 26,some 27,some 28,some 29,some 30,some 31] [[],[],[],[1,2],[3],[],[0,4,5],[6]] [.val _,.val _,.val _,.val _,.val _,.val _,.val _,.val _] [false,false,false,false,false,false,false,false] (by kernel_rfl) rfl rfl rfl (fun da=>⟨cZ,cZ,cZ,nj cE Tryz.underlying38 cg,H1 (dV cg),fy 0 cg,dO fun L' al=>Ay (ab rfl) (ab rfl) (ab rfl) bo,iC eT,trivial⟩) fun da=> ?_
   refine aK ?_
   obtain⟨bp,ck,h⟩:=aw h
   refine jS (γ:=Unit) [0,1,2,4,6,7,8,11,17,31] (fun bd=> [(9,I.of (bp.1)),(10,I.of (bp.2))]) (fun bd=> []) (fun bd=> ?_) (fun hm ak=> ?_) fun hm ak=> ?_
   ·clear ck
    refine ae.ea ?_
    obtain rfl:=aI h
    exact gP () 0
   ·have h:=gZ ak ck
    refine ag.cz ?_
    refine aD ?_
    obtain⟨bE,dE,h⟩:=aw h
    refine dF dE (dI (ab rfl) (bP 1)) ?_
    refine aL ?_
    refine ah.nil ?_
    obtain rfl:=aI h
    exact dp 0 (hm ())
   ·have h:=g1 ak ck
    refine ag.cz ?_
    refine aD ?_
    refine aL ?_
    refine ah.nil ?_
    obtain rfl:=aI h
    exact dp 0 (hm ())
  ·refine ag.exit ?_
   refine ae.exit ?_
   obtain rfl:=aI h
   exact eD () 0
 ·clear ao
  refine ae.fM ?_
  refine ae.next ?_
  refine ag.seq ?_
  refine iz [0,1,2,4,7,8,9,10,17] ?_
  obtain⟨bY,cX,h⟩:=aw h
  obtain⟨aJ,cr,h⟩:=aw h
  refine ag.draw mixed 15 [some 35,some 36,some 37,some 38,some 39,some 40,some 41,some 42,some 43,some 44,some 45,some 46,some 47,some 48,some 6] [[],[],[],[1,2],[3],[4],[4],[4],[4,6,7],[4,8],[4],[4,5,9,10],[4,11],[4,12],[0]] [.val _,.val _,.val _,.val _,.val _,.val _,.val _,.val _,.val _,.val _,.val _,.val _,.val _,.val _,.val _] [false,false,false,false,false,false,false,false,false,false,false,false,false,false,false] (by kernel_rfl) rfl rfl rfl (fun kg=>⟨cZ,cZ,cZ,iC eT,cZ,ei fun L' al=>fun hb=>cM (ab rfl),ei fun L' al=>fun hb=>cM (ab rfl),ei fun L' al=>fun hb=>cM (ab rfl),ei fun L' al=>fun hb=>qU (k:=bY) Tryz.underlying38 cg (cb rfl hb) (cb rfl hb) (cL (fE cX hb)),ei fun L' al=>fun hb=>dV cg (cb rfl hb),ei fun L' al=>fun hb=>eA (i:=0) (aN.id aA) (r:=aj) cg (ab rfl) (al _ _ rfl rfl) rfl rfl,ei fun L' al=>fun hb=>Ay (cb rfl hb) (cb rfl hb) (cb rfl hb) (fE cr hb),ei fun L' al=>fun hb=>gN (cb rfl hb) (bP 0),dO fun L' al=>pc (ab rfl) (ab rfl) (fun h=>h),wU,trivial⟩) fun kg=> ?_
  refine aL ?_
  refine aK ?_
  refine ag.ret ?_
  obtain rfl:=aI h
  exact P3
theorem Lc {aa:Int} {r:Bool} (h:zV aa=some r):bK Tryz.prog 126 [I.of (aa)] (I.of (r)):=by
 unfold zV at h
 refine bK.of Tryz.func126 rfl Tryz.ntmps126 rfl fun W A=> ?_
 refine aF ?_
 refine aL ?_
 refine b0 ?_
 refine aD ?_
 refine aD ?_
 refine bm qV ?_
 refine aL ?_
 refine aK ?_
 refine ag.ret ?_
 obtain rfl:=aI h
 exact cR
theorem Rd {aa:List cH} {aj:cH→Option Bool} {r:Int} (h:zh aa aj=some r):bK Tryz.prog 146 [I.of (aa),I.we Tryz.prog aj] (I.of (r)):=by
 unfold zh at h
 refine bK.of Tryz.func146 rfl Tryz.ntmps146 rfl fun W A=> ?_
 refine aF ?_
 refine aL ?_
 refine bO ?_
 refine aF ?_
 refine aD ?_
 refine aY (eK Tryz.underlying62) ?_
 refine aD ?_
 refine aK ?_
 refine ag.block ?_
 obtain⟨av,ao,h⟩:=aw h
 refine hT (γ:=Unit) (δ:=Unit) ao [0,1,7] (fun s1 aq=> [(4,I.of (0:Int)),(8,I.of (s1))]) (fun s1 aq=> []) (fun az=>Sum.elim (fun az=>Exit.exit 0) (fun az=>Exit.ret) az) (fun az aq=>Sum.elim (fun az=> [(4,I.of (0:Int)),(8,I.of (az.1)),(9,I.of (az.2))]) (fun az=> [(4,I.of (az.1)),(5,I.of (az.2.1)),(8,I.of (az.2.2.1)),(9,I.of (az.2.2.2.1)),(16,I.of (az.2.2.2.2))]) az) (fun az aq=>Sum.elim (fun az=> []) (fun az=> []) az) () (fun s1 r h aq=> ?_) fun aq=> ?_
 ·clear ao
  refine aF ?_
  refine bm eT ?_
  refine bO ?_
  refine cm h (fun h=>?_) fun h=>?_
  ·refine cW ?_
   refine ag.seq ?_
   refine ag.block ?_
   refine aF ?_
   refine aD ?_
   refine aL ?_
   refine b0 ?_
   refine aD ?_
   refine aD ?_
   refine aD ?_
   obtain⟨a8,cE,h⟩:=aw h
   refine hU cE Tryz.underlying62 jw ?_
   refine aY (dV jw) ?_
   obtain⟨aG,bo,h⟩:=aw h
   refine bl (DV (ab rfl) (ab rfl) bo) ?_
   refine aK ?_
   refine cm h (fun h=>?_) fun h=>?_
   ·refine aF ?_
    refine aD ?_
    refine aL ?_
    refine aK ?_
    refine ag.ret ?_
    refine ae.dn ?_
    refine ae.ret ?_
    obtain rfl:=aI h
    exact eD () 0
   ·refine ag.skip ?_
    refine ae.ea ?_
    refine ae.next ?_
    refine ag.cz ?_
    refine bm dI ?_
    refine aD ?_
    refine ah.nil ?_
    obtain rfl:=aI h
    exact gP () 0
  ·refine ag.exit ?_
   refine ae.exit ?_
   obtain rfl:=aI h
   exact eD () 0
 ·clear ao
  rcases av with av | av
  ·simp only [Sum.elim_inl] at h
   refine ae.fM ?_
   refine ae.next ?_
   refine aF ?_
   refine aL ?_
   refine aK ?_
   refine ag.ret ?_
   obtain rfl:=aI h
   exact cR
  ·simp only [Sum.elim_inr] at h
   refine ae.dn ?_
   refine ae.ret ?_
   obtain rfl:=aI h
   exact cR
theorem Sb {aa:cH} {r:Bool} (h:Gz aa=some r):bK Tryz.prog 207 [I.of (aa)] (I.of (r)):=by
 unfold Gz at h
 refine bK.of Tryz.func207 rfl Tryz.ntmps207 rfl fun W A=> ?_
 refine aF ?_
 refine cj fun aZ=> ?_
 refine aL ?_
 refine b0 ?_
 refine aY (aT xW) ?_
 refine cq 0 m4 bF ?_
 refine bm gN ?_
 refine aL ?_
 refine aK ?_
 refine ag.ret ?_
 obtain rfl:=aI h
 exact cR
theorem Q7 {aa:List aA} {aj aP:Int} {g2:Option Nat} {dQ:Nat} {r:List aA} (h:Gc aa aj aP=some r):bM Tryz.prog 276 [I.eq (a2 g2 aa.length dQ),I.of aj,I.of aP] [⟨g2,.row 52 aa dQ⟩] (δ:=(Option Nat × Nat)) (fun d=>I.eq (a2 d.1 r.length d.2)) (fun d=> [⟨d.1,.row 52 r d.2⟩]):=by
 unfold Gc at h
 obtain⟨m,n,rfl,rfl,q6,aO,rfl⟩:=TQ h
 refine bM.of Tryz.func276 rfl Tryz.ntmps276 rfl fun W A=> ?_
 refine ag.seq ?_
 refine ag.cz ?_
 refine ah.v (eB rG) rfl rfl rfl ?_
 refine ah.nil ?_
 refine ae.next ?_
 refine ag.seq ?_
 refine ag.cz ?_
 refine ah.v (cM (ab rfl)) rfl rfl rfl ?_
 refine ah.v (cM (ab rfl)) rfl rfl rfl ?_
 refine ah.v (cM (ab rfl)) rfl rfl rfl ?_
 refine ah.v (cM (ab rfl)) rfl rfl rfl ?_
 refine ah.v (pL (i:=0) (xs:=aa) Tryz.underlying38 (ab rfl) rfl rfl) rfl rfl rfl ?_
 refine ah.v (UA (i:=0) (xs:=aa) Tryz.underlying38 cg (ab rfl) rfl (ab rfl) (ab rfl) (ab rfl) ⟨q6,aO,Nat.le_refl _⟩) rfl rfl rfl ?_
 refine ah.nil ?_
 refine ae.next ?_
 refine ag.seq ?_
 refine ag.seq ?_
 refine ag.cz ?_
 refine ah.v (cM (ab rfl)) rfl rfl rfl ?_
 refine ah.v (cM (ab rfl)) rfl rfl rfl ?_
 refine ah.v (gN (ab rfl) (ab rfl)) rfl rfl rfl ?_
 refine ah.nil ?_
 refine ae.next ?_
 refine ag.cond (ab rfl) (fun ak=> ?_) (fun ak=> ?_)
 ·have IX:m=n:=by simp only [beq_iff_eq] at ak; omega
  subst IX
  rw [List.take_append_drop]
  refine ag.seq ?_
  refine ag.cz ?_
  refine ah.v (cM (ab rfl)) rfl rfl rfl ?_
  refine ah.v (eB (ab rfl)) rfl rfl rfl ?_
  refine ah.nil ?_
  refine ae.next ?_
  refine ag.ret ?_
  exact ae.fi (g2,dQ) (.cons_cons _ (List.nil_sublist _)) rfl rfl (dv rfl)
 have b5:m < n:=by simp only [beq_eq_false_iff_ne] at ak; omega
 refine ag.skip ?_
 refine ae.next ?_
 refine ag.some (i:=0) (xs:=aa) rfl (by omega) fun p hp tJ wi=> ?_
 subst hp
 refine ag.seq ?_
 refine ag.cz ?_
 refine ah.v (cM (ab rfl)) rfl rfl rfl ?_
 refine ah.v (pL (i:=0) (xs:=aa) Tryz.underlying38 (ab rfl) rfl rfl) rfl rfl rfl ?_
 refine ah.v (eB (ab rfl)) rfl rfl rfl ?_
 refine ah.nil ?_
 refine ae.next ?_
 have hlen:(aa.take m ++ aa.drop n ++ aa.drop (m + (aa.length - n))).length=aa.length:=by simp only [List.length_append,List.length_take,List.length_drop]; omega
 have yC:(aa.take m ++ aa.drop n).length=m + (aa.length - n):=by simp only [List.length_append,List.length_take,List.length_drop]; omega
 refine ag.seq ?_
 refine ag.le (E':= [(0,I.eq (a2 (some p) aa.length dQ)),(1,I.of (m:Int)),(2,I.of (n:Int)),(7,I.of (aa.length:Int))]) (.same rfl (.same rfl (.same rfl (.same rfl .nil)))) ?_
 refine ag.j8 mixed (⟨some 20,[],[],[],fun _=>I.eq (a2 (some p) aa.length dQ),fun _ _=>⟨none,.dead⟩⟩ :: ⟨some 21,[],[],[],fun _=>I.of (m:Int),fun _ _=>⟨none,.dead⟩⟩ :: ⟨some 22,(0 :: 1 :: []),(0 :: []),[],fun _=>I.eq (hQ (some p) 0 (m - 0) dQ (ai.size aA)),fun _ _=>⟨none,.dead⟩⟩ :: ⟨some 23,[],[],[],fun _=>I.eq (a2 (some p) aa.length dQ),fun _ _=>⟨none,.dead⟩⟩ :: ⟨some 24,[],[],[],fun _=>I.of (n:Int),fun _ _=>⟨none,.dead⟩⟩ :: ⟨some 25,(3 :: 4 :: []),(0 :: []),[],fun _=>I.eq (hQ (some p) n (aa.length - n) dQ (ai.size aA)),fun _ _=>⟨none,.dead⟩⟩ :: ⟨some 26,(0 :: 1 :: 2 :: 3 :: 4 :: 5 :: []),(0 :: []),(0 :: []),fun _=>I.eq (a2 (some p) (m + (aa.length - n)) dQ),fun _ _=>⟨some p,.row 52 (aa.take m ++ aa.drop n ++ aa.drop (m + (aa.length - n))) dQ⟩⟩ :: ⟨some 0,(0 :: 1 :: 2 :: 3 :: 4 :: 5 :: 6 :: []),[],[],fun _=>I.eq (a2 (some p) (m + (aa.length - n)) dQ),fun _ _=>⟨none,.dead⟩⟩ :: []) _ (0 :: 1 :: 2 :: 7 :: []) rfl rfl (by kernel_rfl) ⟨?_,?_,?_,?_,?_,?_,?_,?_,trivial⟩ fun hd=> ?_
 ·exact im rfl rfl rfl fun hd E' L' aB al=>cM (ab (aB _ _ rfl))
 ·exact im rfl rfl rfl fun hd E' L' aB al=>cM (ab (aB _ _ rfl))
 ·exact im rfl rfl rfl fun hd E' L' aB al=>DW (i:=0) (xs:=aa) Tryz.underlying38 cg (ab (aB _ _ rfl)) (al 0 _ rfl rfl) .none (.some (ab (aB _ _ rfl))) rfl rfl ⟨Nat.zero_le _,by omega⟩
 ·exact im rfl rfl rfl fun hd E' L' aB al=>cM (ab (aB _ _ rfl))
 ·exact im rfl rfl rfl fun hd E' L' aB al=>cM (ab (aB _ _ rfl))
 ·exact im rfl rfl rfl fun hd E' L' aB al=>DW (i:=0) (xs:=aa) Tryz.underlying38 cg (ab (aB _ _ rfl)) (al 0 _ rfl rfl) (.some (ab (aB _ _ rfl))) .none rfl rfl ⟨aO,Nat.le_refl _⟩
 ·intro hd E' L' aB al
  have bI:=al 0 _ rfl rfl
  refine ah.V1 (i:=0) (m:=m) (n:=n) (xs:=aa) Tryz.underlying38 cg (ab (aB _ _ rfl)) (ab (aB _ _ rfl)) bI b5 aO rfl ?_
  refine ah.nil ?_
  exact ae.fin (dY []) rfl rfl
 ·exact im rfl rfl rfl fun hd E' L' aB al=>eB (ab (aB _ _ rfl))
 refine ae.next ?_
 refine ag.seq ?_
 refine ag.cz ?_
 refine ah.v (cM (ab rfl)) rfl rfl rfl ?_
 refine ah.v (cM (ab rfl)) rfl rfl rfl ?_
 refine ah.v (V2 Tryz.underlying38 (ab rfl)) rfl rfl rfl ?_
 refine ah.v (cM (ab rfl)) rfl rfl rfl ?_
 refine ah.v (rH (α:=aA) (m:=m + (aa.length - n)) (h:=aa.length) Tryz.underlying38 cg (ab rfl) (.some (ab rfl)) (.some (ab rfl)) rfl rfl ⟨by omega,tJ⟩) rfl rfl rfl ?_
 refine ah.clear (i:=0) (lo:=m + (aa.length - n)) (n:=aa.length - (m + (aa.length - n))) (xs:=aa.take m ++ aa.drop n ++ aa.drop (m + (aa.length - n))) Tryz.underlying38 cg gh rfl (ab rfl) rfl (by rw [hlen]; omega) rfl ?_
 refine ah.nil ?_
 refine ae.next ?_
 refine ag.seq ?_
 refine ag.cz ?_
 refine ah.v (cM (ab rfl)) rfl rfl rfl ?_
 refine ah.v (eB (ab rfl)) rfl rfl rfl ?_
 refine ah.nil ?_
 refine ae.next ?_
 refine ag.ret ?_
 have Ps:(qP (aa.take m ++ aa.drop n ++ aa.drop (m + (aa.length - n))) (m + (aa.length - n)) (aa.length - (m + (aa.length - n)))).take (m + (aa.length - n))=aa.take m ++ aa.drop n:=by
  unfold qP
  rw [List.append_assoc,List.take_append_of_le_length (by rw [List.length_take,hlen]; omega),List.take_take,Nat.min_self,List.take_append_of_le_length (by rw [yC]; exact Nat.le_refl _),← yC,List.take_length]
 refine ae.again (.row 52 (aa.take m ++ aa.drop n) dQ) 0 rfl (fun A W o h=> ?_) (fun h=> ?_) ?_
 ·have fX:=Hb (n:=m + (aa.length - n)) (by unfold qP; simp only [List.length_append,List.length_take,List.length_replicate,List.length_drop,hlen]; omega) h
  rwa [Ps] at fX
 ·exact⟨by rw [← Ps,h.1]; simp,h.2⟩
 refine ae.fi ((some p,dQ):Option Nat × Nat) (.cons_cons _ (List.nil_sublist _)) rfl ?_ (dv rfl)
 rw [yC]
theorem xD {aa:Int} {aj:Int} {r:Int} (h:qC aa aj=some r):bK Tryz.prog 139 [I.of (aa),I.of (aj)] (I.of (r)):=by
 unfold qC at h
 refine bK.of Tryz.func139 rfl Tryz.ntmps139 rfl fun W A=> ?_
 refine aF ?_
 refine aL ?_
 refine bO ?_
 refine ag.block ?_
 refine aF ?_
 refine aD ?_
 refine aD ?_
 refine bm eT ?_
 refine aL ?_
 refine aK ?_
 refine cm h (fun h=>?_) fun h=>?_
 ·refine aF ?_
  refine aL ?_
  refine aK ?_
  refine ag.ret ?_
  refine ae.dn ?_
  refine ae.ret ?_
  obtain rfl:=aI h
  exact cR
 ·refine aF ?_
  refine aD ?_
  refine aD ?_
  refine bm pO ?_
  refine aL ?_
  refine aK ?_
  refine cm h (fun h=>?_) fun h=>?_
  ·refine aF ?_
   refine aL ?_
   refine aK ?_
   refine ag.ret ?_
   refine ae.dn ?_
   refine ae.ret ?_
   obtain rfl:=aI h
   exact cR
  ·refine ag.skip ?_
   refine ae.ea ?_
   refine ae.next ?_
   refine aF ?_
   refine aL ?_
   refine aK ?_
   refine ag.ret ?_
   obtain rfl:=aI h
   exact cR
theorem Lv {aa:ar} {r:(Vector Bool 128)} (h:xI aa=some r):bK Tryz.prog 143 [I.of (aa)] (I.of (r)):=by
 unfold xI at h
 refine bK.of Tryz.func143 rfl Tryz.ntmps143 rfl fun W A=> ?_
 refine aF ?_
 refine cj fun aZ=> ?_
 refine c1 Ez fun bc=> ?_
 refine b0 ?_
 refine c1 Ez fun cC=> ?_
 refine bO ?_
 refine aF ?_
 refine aL ?_
 refine aK ?_
 refine ag.block ?_
 obtain⟨av,ao,h⟩:=aw h
 refine hT (γ:=Unit) (δ:=Unit) ao [0,1,2,3] (fun s1 aq=> [(4,I.of (s1.1))]) (fun s1 aq=> [(0,⟨some cC,.var (s1.2:Vector Bool 128)⟩)]) (fun az=>Exit.exit 0) (fun az aq=> [(4,I.of (az.1)),(6,I.of (az.2.1))]) (fun az aq=> [(0,⟨some cC,.var (az.2.2:Vector Bool 128)⟩)]) () (fun s1 r h aq=> ?_) fun aq=> ?_
 ·clear ao
  refine ag.seq ?_
  refine aF ?_
  refine aD ?_
  refine bm eT ?_
  refine aK ?_
  refine cm h (fun h=>?_) fun h=>?_
  ·refine cW ?_
   refine ag.seq ?_
   refine ag.block ?_
   obtain⟨a8,cE,h⟩:=aw h
   obtain⟨bE,dE,h⟩:=aw h
   refine ag.draw mixed 19 ((some 9) :: (some 10) :: (some 11) :: (some 12) :: (some 13) :: (some 14) :: (some 15) :: (some 16) :: (some 17) :: (some 18) :: (some 19) :: (some 20) :: (some 21) :: (some 22) :: (some 23) :: (some 24) :: (some 25) :: (some 26) :: none :: []) ([] :: [] :: [1] :: [] :: [3] :: [] :: [5] :: [4,6] :: [7] :: [8] :: [] :: [10] :: [] :: [12] :: [11,13] :: [14] :: [15] :: [0] :: [9,17] :: []) (.val _ :: .val _ :: .val _ :: .val _ :: .val _ :: .val _ :: .val _ :: .val _ :: .val _ :: .val _ :: .val _ :: .val _ :: .val _ :: .val _ :: .val _ :: .val _ :: .val _ :: .val _ :: .k0 0 (.var (bE:Vector Bool 128)) :: []) (false :: false :: false :: false :: false :: false :: false :: false :: false :: false :: false :: false :: false :: false :: false :: false :: false :: false :: true :: []) (by kernel_rfl) rfl rfl rfl (fun da=>⟨cZ,cZ,iC dI,H1 (aT h4),dz 2 ef eC,cZ,H1 (ij Tryz.underlying3 Tryz.underlying130),iC qK,dO fun L' al=>qI (ab rfl) (fK 1 rfl),dO fun L' al=>xQ (ab rfl) (fK 1 rfl),H1 (aT j5),dz 2 hx eC,cZ,H1 (ij Tryz.underlying3 Tryz.underlying130),iC qK,dO fun L' al=>qI (ab rfl) (fK 1 rfl),dO fun L' al=>xQ (ab rfl) (fK 1 rfl),dO fun L' al=>il (k:=a8) A6 (ab rfl) (ab rfl) (cL cE),⟨_,_,rfl,fun L' al=>vi (i:=0) ((aN.id (Vector Bool 128)).comp (aN.idx (α:=Bool) 128 a8 (cL cE).1)) (v:=(((aa.bG >>> (BitVec.ofInt 64 s1.1).toNat) &&& (1#64)) ==(1#64):Bool)) (b':=(bE:Vector Bool 128)) gi (ab rfl) (ab rfl) (al _ _ rfl) rfl (aI dE)⟩,trivial⟩) fun da=> ?_
   obtain⟨bY,cX,h⟩:=aw h
   refine bl (il (k:=bY) A6 (ab rfl) (ab rfl) (cL cX)) ?_
   obtain⟨dt,hD,h⟩:=aw h
   refine Fi 0 ((aN.id (Vector Bool 128)).comp (aN.idx (α:=Bool) 128 bY (cL cX).1)) gi (hb:=by exact hD) ?_
   refine ah.nil ?_
   refine ae.ea ?_
   refine ae.next ?_
   refine ag.cz ?_
   refine aD ?_
   refine bm dI ?_
   refine aL ?_
   refine ah.nil ?_
   obtain rfl:=aI h
   exact gP () 0
  ·refine ag.exit ?_
   refine ae.exit ?_
   obtain rfl:=aI h
   exact eD () 0
 ·clear ao
  refine ae.fM ?_
  refine ae.next ?_
  refine aF ?_
  refine cG 0 A7 ?_
  refine cA 1 A7 ?_
  refine aK ?_
  refine ag.ret ?_
  obtain rfl:=aI h
  exact ae.jg rfl (hK 1 A7)
theorem GF {aa:BitVec 64} {r:Int} (h:uG aa=some r):bK Tryz.prog 185 [I.of (aa)] (I.of (r)):=by
 unfold uG at h
 refine bK.of Tryz.func185 rfl Tryz.ntmps185 rfl fun W A=> ?_
 refine aF ?_
 refine aL ?_
 refine bO ?_
 refine aF ?_
 refine aD ?_
 refine bl (Ht (ab rfl) (fK 4294967296 rfl)) ?_
 refine aK ?_
 obtain⟨bp,ck,h⟩:=aw h
 refine jS (γ:=Unit) [4] (fun aq=> [(0,I.of (bp.1)),(2,I.of (bp.2))]) (fun aq=> []) (fun aq=> ?_) (fun hm ak=> ?_) fun hm ak=> ?_
 ·clear ck
  refine ae.next ?_
  refine ag.seq ?_
  refine aF ?_
  refine aD ?_
  refine bl (Ht (ab rfl) (fK 65536 rfl)) ?_
  refine aK ?_
  obtain⟨cP,eb,h⟩:=aw h
  refine jS (γ:=Unit) [4,8] (fun bd=> [(0,I.of (cP.1)),(2,I.of (cP.2))]) (fun bd=> []) (fun bd=> ?_) (fun hm ak=> ?_) fun hm ak=> ?_
  ·clear eb
   refine ae.next ?_
   refine ag.seq ?_
   refine aF ?_
   refine aD ?_
   refine bl (Ht (ab rfl) (fK 256 rfl)) ?_
   refine aK ?_
   obtain⟨ff,gG,h⟩:=aw h
   refine jS (γ:=Unit) [4,8,14] (fun bN=> [(0,I.of (ff.1)),(2,I.of (ff.2))]) (fun bN=> []) (fun bN=> ?_) (fun hm ak=> ?_) fun hm ak=> ?_
   ·clear gG
    refine ae.next ?_
    refine aF ?_
    refine aD ?_
    refine aD ?_
    refine aY (Vg Tryz.underlying41 Tryz.underlying5) ?_
    obtain⟨aG,bo,h⟩:=aw h
    refine bl (Vh Tryz.underlying9 (dL (ByteArray.mk (List.toArray (List.append (List.append [0,1,2,2,3,3,3,3,4,4,4,4,4,4,4,4,5,5,5,5,5,5,5,5,5,5,5,5,5,5,5,5,6,6,6,6,6,6,6,6,6,6,6,6,6,6,6,6,6,6,6,6,6,6,6,6,6,6,6,6,6,6,6,6] [7,7,7,7,7,7,7,7,7,7,7,7,7,7,7,7,7,7,7,7,7,7,7,7,7,7,7,7,7,7,7,7,7,7,7,7,7,7,7,7,7,7,7,7,7,7,7,7,7,7,7,7,7,7,7,7,7,7,7,7,7,7,7,7]) (List.append [8,8,8,8,8,8,8,8,8,8,8,8,8,8,8,8,8,8,8,8,8,8,8,8,8,8,8,8,8,8,8,8,8,8,8,8,8,8,8,8,8,8,8,8,8,8,8,8,8,8,8,8,8,8,8,8,8,8,8,8,8,8,8,8] [8,8,8,8,8,8,8,8,8,8,8,8,8,8,8,8,8,8,8,8,8,8,8,8,8,8,8,8,8,8,8,8,8,8,8,8,8,8,8,8,8,8,8,8,8,8,8,8,8,8,8,8,8,8,8,8,8,8,8,8,8,8,8,8]))))) (ab rfl) bo) ?_
    refine aY (Ob Tryz.underlying5 Tryz.underlying3) ?_
    refine bm dI ?_
    refine aL ?_
    refine aK ?_
    refine ag.ret ?_
    obtain rfl:=aI h
    exact cR
   ·have h:=gZ ak gG
    refine aF ?_
    refine aD ?_
    refine bl (qK (ab rfl) (fK 8 rfl)) ?_
    refine aL ?_
    refine aK ?_
    refine ag.cz ?_
    refine aD ?_
    refine bm dI ?_
    refine aL ?_
    refine ah.nil ?_
    obtain rfl:=aI h
    exact dp 0 (hm ())
   ·have h:=g1 ak gG
    refine ag.skip ?_
    obtain rfl:=aI h
    exact dp 0 (hm ())
  ·have h:=gZ ak eb
   refine aF ?_
   refine aD ?_
   refine bl (qK (ab rfl) (fK 16 rfl)) ?_
   refine aL ?_
   refine aK ?_
   refine ag.cz ?_
   refine aD ?_
   refine bm dI ?_
   refine aL ?_
   refine ah.nil ?_
   obtain rfl:=aI h
   exact dp 0 (hm ())
  ·have h:=g1 ak eb
   refine ag.skip ?_
   obtain rfl:=aI h
   exact dp 0 (hm ())
 ·have h:=gZ ak ck
  refine aF ?_
  refine aD ?_
  refine bl (qK (ab rfl) (fK 32 rfl)) ?_
  refine aL ?_
  refine aK ?_
  refine ag.cz ?_
  refine aL ?_
  refine ah.nil ?_
  obtain rfl:=aI h
  exact dp 0 (hm ())
 ·have h:=g1 ak ck
  refine ag.skip ?_
  obtain rfl:=aI h
  exact dp 0 (hm ())
theorem Q2 {aa:List aA} {aj:Int} {aP:Int} {bR:aA→aA→Option Int} {g2:Option Nat} {dQ:Nat} {r:(List aA)} (h:y9 aa aj aP bR=some r):bM Tryz.prog 176 [I.eq (a2 g2 aa.length dQ),I.of (aj),I.of (aP),I.q5 Tryz.prog bR] [⟨g2,.row 52 (aa:List aA) dQ⟩] (δ:=Unit) (fun d=>I.ed []) (fun d=> [⟨g2,.row 52 (r:List aA) dQ⟩]):=by
 unfold y9 at h
 refine bM.of Tryz.func176 rfl Tryz.ntmps176 rfl fun W A=> ?_
 refine aF ?_
 refine aD ?_
 refine bm dI ?_
 refine aL ?_
 refine aK ?_
 refine ag.block ?_
 obtain⟨av,ao,h⟩:=aw h
 refine hT (γ:=Unit) (δ:=Unit) ao [1,2,3] (fun s1 aq=> [(0,I.eq (a2 g2 s1.2.length dQ)),(8,I.of (s1.1))]) (fun s1 aq=> [(0,⟨g2,.row 52 (s1.2:List aA) dQ⟩)]) (fun az=>Exit.exit 0) (fun az aq=> [(0,I.eq (a2 g2 az.2.2.length dQ)),(8,I.of (az.1)),(14,I.of (az.2.1))]) (fun az aq=> [(0,⟨g2,.row 52 (az.2.2:List aA) dQ⟩)]) () (fun s1 r h aq=> ?_) fun aq=> ?_
 ·clear ao
  refine ag.seq ?_
  refine aF ?_
  refine aD ?_
  refine aD ?_
  refine bm eT ?_
  refine aK ?_
  refine cm h (fun h=>?_) fun h=>?_
  ·refine cW ?_
   refine ag.seq ?_
   refine ag.block ?_
   refine aF ?_
   refine aD ?_
   refine aL ?_
   refine aK ?_
   refine ag.block ?_
   obtain⟨aX,ao,h⟩:=aw h
   refine hT (γ:=Unit) (δ:=Unit) ao [1,2,3,8,14] (fun s2 bd=> [(0,I.eq (a2 g2 s2.2.length dQ)),(9,I.of (s2.1))]) (fun s2 bd=> [(0,⟨g2,.row 52 (s2.2:List aA) dQ⟩)]) (fun c7=>Exit.exit 2) (fun c7 bd=> [(0,I.eq (a2 g2 c7.2.2.length dQ)),(9,I.of (c7.1)),(34,I.of (c7.2.1))]) (fun c7 bd=> [(0,⟨g2,.row 52 (c7.2.2:List aA) dQ⟩)]) () (fun s2 r h bd=> ?_) fun bd=> ?_
   ·clear ao
    refine ag.seq ?_
    refine ag.seq ?_
    obtain⟨a8,cE,h⟩:=aw h
    obtain⟨bY,cX,h⟩:=aw h
    obtain⟨aG,bo,h⟩:=aw h
    refine ag.draw mixed 17 ((some 18) :: (some 19) :: (some 20) :: (some 21) :: (some 22) :: (some 23) :: (some 24) :: (some 25) :: (some 26) :: (some 27) :: (some 28) :: (some 29) :: (some 30) :: (some 31) :: (some 32) :: (some 33) :: (some 34) :: []) ([] :: [] :: [0,1] :: [2] :: [3] :: [3] :: [3] :: [3,5,6] :: [3,7] :: [3] :: [3] :: [3,10] :: [3,9,11] :: [3,12] :: [3,4,8,13] :: [3,14] :: [3,15] :: []) (.val _ :: .val _ :: .val _ :: .val _ :: .val _ :: .val _ :: .val _ :: .val _ :: .val _ :: .val _ :: .val _ :: .val _ :: .val _ :: .val _ :: .val _ :: .val _ :: .val _ :: []) (false :: false :: false :: false :: false :: false :: false :: false :: false :: false :: false :: false :: false :: false :: false :: false :: false :: []) (by kernel_rfl) rfl rfl rfl (fun da=>⟨cZ,cZ,iC pO,cZ,ei fun L' al=>fun hb=>cM (ab rfl),ei fun L' al=>fun hb=>cM (ab rfl),ei fun L' al=>fun hb=>cM (ab rfl),ei fun L' al=>fun hb=>lp (i:=0) (k:=a8) (xs:=(s2.2:List aA)) Tryz.underlying38 cg (cb rfl hb) (cb rfl hb) (al _ _ rfl rfl) (cL (fE cE hb)),ei fun L' al=>fun hb=>o5 (i:=0) (k:=a8) (aN.id aA) (r:=(aE s2.2 a8)) cg (cb rfl hb) (al _ _ rfl rfl) (cL (fE cE hb)).1 rfl rfl,ei fun L' al=>fun hb=>cM (ab rfl),ei fun L' al=>fun hb=>cM (ab rfl),ei fun L' al=>fun hb=>ix (cb rfl hb) (bP 1),ei fun L' al=>fun hb=>lp (i:=0) (k:=bY) (xs:=(s2.2:List aA)) Tryz.underlying38 cg (cb rfl hb) (cb rfl hb) (al _ _ rfl rfl) (cL (fE cX hb)),ei fun L' al=>fun hb=>o5 (i:=0) (k:=bY) (aN.id aA) (r:=(aE s2.2 bY)) cg (cb rfl hb) (al _ _ rfl rfl) (cL (fE cX hb)).1 rfl rfl,ei fun L' al=>fun hb=>Ay (cb rfl hb) (cb rfl hb) (cb rfl hb) (fE bo hb),ei fun L' al=>fun hb=>eT (cb rfl hb) (bP 0),dO fun L' al=>pc (ab rfl) (ab rfl) (fun h=>h),trivial⟩) fun da=> ?_
    refine aK ?_
    refine cm h (fun h=>?_) fun h=>?_
    ·refine cW ?_
     refine ag.seq ?_
     refine ag.block ?_
     obtain⟨cY,g4,h⟩:=aw h
     obtain⟨fu,mR,h⟩:=aw h
     obtain⟨iD,BQ,h⟩:=aw h
     obtain⟨mA,BR,h⟩:=aw h
     refine iz [0,1,2,3,8,9,14,18,19,20,21,22,23,24,25,26,27,28,29,30,31,32,33,34] ?_
     refine ag.j8 mixed (a6 37 [] [] _ :: a6 38 [] [] _ :: a6 39 [] [] _ :: a6 40 [] [] _ :: a6 41 (3 :: []) [] _ :: a6 42 [] [] _ :: a6 43 [] [] _ :: a6 44 (6 :: []) [] _ :: a6 45 (5 :: 7 :: []) (0 :: []) _ :: a6 46 (8 :: []) (0 :: []) _ :: a6 47 [] [] _ :: a6 48 [] [] _ :: a6 49 (10 :: 11 :: []) (0 :: []) _ :: a6 50 (12 :: []) (0 :: []) _ :: a6 51 (0 :: 1 :: []) (0 :: []) _ :: ⟨none,(8 :: 9 :: 12 :: 13 :: 14 :: []),(0 :: []),(0 :: []),fun _=>I.any,fun hd _=>⟨g2,.row 52 (en s2.2 iD (aE s2.2 cY):List aA) dQ⟩⟩ :: a6 52 (2 :: 4 :: 15 :: []) (0 :: []) _ :: ⟨none,(8 :: 9 :: 12 :: 13 :: 14 :: 15 :: 16 :: []),(0 :: []),(0 :: []),fun _=>I.any,fun hd _=>⟨g2,.row 52 (en (en s2.2 iD (aE s2.2 cY)) mA (aE s2.2 fu):List aA) dQ⟩⟩ :: []) _ (0 :: 1 :: 2 :: 3 :: 8 :: 9 :: 14 :: 18 :: 19 :: 20 :: 21 :: 22 :: 23 :: 24 :: 25 :: 26 :: 27 :: 28 :: 29 :: 30 :: 31 :: 32 :: 33 :: 34 :: []) rfl rfl (by kernel_rfl) ⟨e2,e2,e2,e2,ur ix,e2,e2,ur ix,b8 fun hd E' L' aB al=>lp (i:=0) (k:=cY) (xs:=(s2.2:List aA)) Tryz.underlying38 cg (ab (aB _ _ rfl)) (ab (aB _ _ rfl)) (al 0 _ rfl rfl) (cL g4),b8 fun hd E' L' aB al=>o5 (i:=0) (k:=cY) (aN.id aA) (r:=(aE s2.2 cY)) cg (ab (aB _ _ rfl)) (al 0 _ rfl rfl) (cL g4).1 rfl rfl,e2,e2,b8 fun hd E' L' aB al=>lp (i:=0) (k:=fu) (xs:=(s2.2:List aA)) Tryz.underlying38 cg (ab (aB _ _ rfl)) (ab (aB _ _ rfl)) (al 0 _ rfl rfl) (cL mR),b8 fun hd E' L' aB al=>o5 (i:=0) (k:=fu) (aN.id aA) (r:=(aE s2.2 fu)) cg (ab (aB _ _ rfl)) (al 0 _ rfl rfl) (cL mR).1 rfl rfl,b8 fun hd E' L' aB al=>lp (i:=0) (k:=iD) (xs:=(s2.2:List aA)) Tryz.underlying38 cg (ab (aB _ _ rfl)) (ab (aB _ _ rfl)) (al 0 _ rfl rfl) (cL BQ),?_,b8 fun hd E' L' aB al=>lp (i:=0) (k:=mA) (xs:=(en s2.2 iD (aE s2.2 cY):List aA)) Tryz.underlying38 cg (UB (m:=(en s2.2 iD (aE s2.2 cY)).length) (j3 rfl) (ab (aB _ _ rfl))) (ab (aB _ _ rfl)) (al 0 _ rfl rfl) (cL BR),?_,trivial⟩ fun eP=> ?_
     ·intro hd E' L' aB al
      refine ah.vj (i:=0) (k:=iD) (aN.id aA) (v:=((aE s2.2 cY):aA)) (r:=(en s2.2 iD (aE s2.2 cY):List aA)) cg (ab (aB _ _ rfl)) (ab (aB _ _ rfl)) (al 0 _ rfl rfl) (cL BQ).1 rfl rfl ?_
      refine ah.nil ?_
      exact ae.fin (dY []) rfl rfl
     ·intro hd E' L' aB al
      refine ah.vj (i:=0) (k:=mA) (aN.id aA) (v:=((aE s2.2 fu):aA)) (r:=(en (en s2.2 iD (aE s2.2 cY)) mA (aE s2.2 fu):List aA)) cg (ab (aB _ _ rfl)) (ab (aB _ _ rfl)) (al 0 _ rfl rfl) (cL BR).1 rfl rfl ?_
      refine ah.nil ?_
      exact ae.fin (dY []) rfl rfl
     refine ae.dR (L2:= [⟨g2,.row 52 (en (en s2.2 iD (aE s2.2 cY)) mA (aE s2.2 fu):List aA) dQ⟩]) rfl ?_
     refine ae.ik (m:=(en s2.2 iD (aE s2.2 cY)).length) 0 rfl (j3 rfl) ?_
     refine ae.ik (m:=(en s2.2 iD (aE s2.2 cY)).length) 37 rfl (j3 rfl) ?_
     refine ae.ik (m:=(en s2.2 iD (aE s2.2 cY)).length) 39 rfl (j3 rfl) ?_
     refine ae.ik (m:=(en s2.2 iD (aE s2.2 cY)).length) 42 rfl (j3 rfl) ?_
     refine ae.ik (m:=(en s2.2 iD (aE s2.2 cY)).length) 47 rfl (j3 rfl) ?_
     refine ae.ik (m:=(en (en s2.2 iD (aE s2.2 cY)) mA (aE s2.2 fu)).length) 0 rfl (j3 rfl) ?_
     refine ae.ik (m:=(en (en s2.2 iD (aE s2.2 cY)) mA (aE s2.2 fu)).length) 37 rfl (j3 rfl) ?_
     refine ae.ik (m:=(en (en s2.2 iD (aE s2.2 cY)) mA (aE s2.2 fu)).length) 39 rfl (j3 rfl) ?_
     refine ae.ik (m:=(en (en s2.2 iD (aE s2.2 cY)) mA (aE s2.2 fu)).length) 42 rfl (j3 rfl) ?_
     refine ae.ik (m:=(en (en s2.2 iD (aE s2.2 cY)) mA (aE s2.2 fu)).length) 47 rfl (j3 rfl) ?_
     refine jC [0,1,2,3,8,9,14,18,19,20,21,22,23,24,25,26,27,28,29,30,31,32,33,34,37,38,39,40,41,42,43,44,45,46,47,48,49,50,51,52] ?_
     refine ae.ea ?_
     refine ae.next ?_
     refine ag.cz ?_
     refine aD ?_
     refine bm ix ?_
     refine aL ?_
     refine ah.nil ?_
     obtain rfl:=aI h
     exact gP () 0
    ·refine ag.exit ?_
     refine ae.exit ?_
     obtain rfl:=aI h
     exact eD () 0
   ·clear ao
    refine ae.fM ?_
    refine ae.ea ?_
    refine ae.next ?_
    refine ag.cz ?_
    refine aD ?_
    refine bm dI ?_
    refine aL ?_
    refine ah.nil ?_
    obtain rfl:=aI h
    exact gP () 0
  ·refine ag.exit ?_
   refine ae.exit ?_
   obtain rfl:=aI h
   exact eD () 0
 ·clear ao
  refine ae.fM ?_
  refine ae.nd ?_
  refine ae.bz 0 rfl ?_
  obtain rfl:=aI h
  exact ae.kU () (.cons_cons _ (List.nil_sublist _)) rfl rfl
theorem Rq {aa:cu} {aj:Int} {b9:Nat} {h2:Option Nat} {h3:Nat} {r:Int} (h:C5 aa aj=some r):bM Tryz.prog 272 [I.eq (.pointer (some ⟨b9,0,none⟩)),I.of (aj)] [⟨some b9,.b4 (({ aa with b1:= [] } :cu):cu) [(10,a2 h2 aa.b1.length h3)]⟩,⟨h2,.row 52 (aa.b1:List aA) h3⟩] (δ:=Unit) (fun d=>I.of (r)) (fun d=> [⟨some b9,.b4 (({ aa with b1:= [] } :cu):cu) [(10,a2 h2 (aa.b1).length h3)]⟩,⟨h2,.row 52 (aa.b1:List aA) h3⟩]):=by
 unfold C5 at h
 refine bM.of Tryz.func272 rfl Tryz.ntmps272 rfl fun W A=> ?_
 refine aF ?_
 refine cj fun aZ=> ?_
 refine aL ?_
 refine bO ?_
 refine aF ?_
 refine aD ?_
 refine bl (En Tryz.underlying170 (ab rfl)) ?_
 refine aK ?_
 refine ag.rY (ab rfl) rfl ?_
 refine cW ?_
 refine aF ?_
 refine aD ?_
 refine aY dD ?_
 refine aY (aT rJ) ?_
 refine bl (ih (i:=1) (q:=0) (β:=cu) (γ:=aA) q1 (ab rfl) rfl rfl) ?_
 refine ah.share (α:=Int) 0 3 rfl rfl ?_
 refine bl (Em (F:=(fun ib=>w7 ib aj)) (τs:= [I.ptr aj]) Oc ⟨ab rfl,trivial⟩ (fun _ _ h=>KQ h)) ?_
 obtain⟨aG,bo,h⟩:=aw h
 refine bl (bS.Zc (α:=aA) 2 10 rfl rfl uZ (iG Od (KM bo) ⟨ab rfl,ab rfl,trivial⟩)) ?_
 refine aL ?_
 refine aK ?_
 refine ag.ret ?_
 refine ae.bz 2 rfl ?_
 refine ae.bz 2 rfl ?_
 obtain rfl:=aI h
 exact mn ()
theorem Dv {aa:ar} {aj:ar} {r:Int} (h:rB aa aj=some r):bK Tryz.prog 145 [I.of (aa),I.of (aj)] (I.of (r)):=by
 unfold rB at h
 refine bK.of Tryz.func145 rfl Tryz.ntmps145 rfl fun W A=> ?_
 refine aF ?_
 refine cj fun aZ=> ?_
 refine cj fun bc=> ?_
 refine aL ?_
 refine bO ?_
 obtain⟨aG,bo,h⟩:=aw h
 obtain⟨aJ,cr,h⟩:=aw h
 refine ag.draw mixed 6 [some 8,some 9,some 10,some 11,some 5,some 6] [[],[0],[],[2],[],[]] [.val _,.val _,.val _,.val _,.new (.var (default:Vector Bool 128)),.new (.var (default:Vector Bool 128))] [false,false,false,false,false,false] (by kernel_rfl) rfl rfl rfl (fun da=>⟨fy 1 bQ,fl Oe (Lv bo),fy 0 bQ,fl Oe (Lv cr),Az Ez,Az Ez,trivial⟩) fun da=> ?_
 refine cA 0 A7 ?_
 refine cA 1 A7 ?_
 refine bO ?_
 refine aF ?_
 refine aL ?_
 refine aK ?_
 refine ag.block ?_
 obtain⟨av,ao,h⟩:=aw h
 refine hT (γ:=Unit) (δ:=Unit) ao [0,1,2,3,5,6] (fun s1 aq=> [(4,I.of (0:Int)),(7,I.of (s1))]) (fun s1 aq=> []) (fun az=>Sum.elim (fun az=>Exit.exit 0) (fun az=>Exit.ret) az) (fun az aq=>Sum.elim (fun az=> [(4,I.of (0:Int)),(7,I.of (az.1)),(13,I.of (az.2))]) (fun az=> [(4,I.of (az.1)),(7,I.of (az.2.1)),(13,I.of (az.2.2.1)),(22,I.of (az.2.2.2.1)),(25,I.of (az.2.2.2.2))]) az) (fun az aq=>Sum.elim (fun az=> []) (fun az=> []) az) () (fun s1 r h aq=> ?_) fun aq=> ?_
 ·clear ao
  refine ag.seq ?_
  refine aF ?_
  refine aD ?_
  refine bm kT ?_
  refine aK ?_
  refine cm h (fun h=>?_) fun h=>?_
  ·refine cW ?_
   refine ag.seq ?_
   refine ag.block ?_
   refine ag.seq ?_
   obtain⟨a8,cE,h⟩:=aw h
   obtain⟨bY,cX,h⟩:=aw h
   refine ag.draw mixed 7 [some 16,some 17,some 18,some 19,some 20,some 21,some 22] [[],[0],[1],[],[3],[4],[2,5]] [.val _,.val _,.val _,.val _,.val _,.val _,.val _] [false,false,false,false,false,false,false] (by kernel_rfl) rfl rfl rfl (fun kg=>⟨cZ,dO fun L' al=>il (k:=a8) A6 (ab rfl) (ab rfl) (cL cE),dz 0 ((aN.id (Vector Bool 128)).comp (aN.idx (α:=Bool) 128 a8 (cL cE).1)) gi,cZ,dO fun L' al=>il (k:=bY) A6 (ab rfl) (ab rfl) (cL cX),dz 1 ((aN.id (Vector Bool 128)).comp (aN.idx (α:=Bool) 128 bY (cL cX).1)) gi,iC (Ih Tryz.underlying4),trivial⟩) fun kg=> ?_
   refine aK ?_
   refine cm h (fun h=>?_) fun h=>?_
   ·refine ag.seq ?_
    refine aF ?_
    refine aD ?_
    obtain⟨cY,g4,h⟩:=aw h
    refine bl (il (k:=cY) A6 (ab rfl) (ab rfl) (cL g4)) ?_
    refine cq 1 ((aN.id (Vector Bool 128)).comp (aN.idx (α:=Bool) 128 cY (cL g4).1)) gi ?_
    refine aK ?_
    refine cm h (fun h=>?_) fun h=>?_
    ·refine aF ?_
     refine aL ?_
     refine aK ?_
     refine ag.ret ?_
     refine ae.ret ?_
     refine ae.dn ?_
     refine ae.ret ?_
     obtain rfl:=aI h
     exact eD () 0
    ·refine cW ?_
     refine aF ?_
     refine aL ?_
     refine aK ?_
     refine ag.ret ?_
     refine ae.dn ?_
     refine ae.ret ?_
     obtain rfl:=aI h
     exact eD () 0
   ·refine ag.skip ?_
    refine ae.ea ?_
    refine ae.next ?_
    refine ag.cz ?_
    refine aD ?_
    refine bm ix ?_
    refine aL ?_
    refine ah.nil ?_
    obtain rfl:=aI h
    exact gP () 0
  ·refine ag.exit ?_
   refine ae.exit ?_
   obtain rfl:=aI h
   exact eD () 0
 ·clear ao
  rcases av with av | av
  ·simp only [Sum.elim_inl] at h
   refine ae.fM ?_
   refine ae.next ?_
   refine aF ?_
   refine aL ?_
   refine aK ?_
   refine ag.ret ?_
   obtain rfl:=aI h
   exact cR
  ·simp only [Sum.elim_inr] at h
   refine ae.dn ?_
   refine ae.ret ?_
   obtain rfl:=aI h
   exact cR
theorem So {aa:BitVec 64} {r:Int} (h:zW aa=some r):bK Tryz.prog 132 [I.of (aa)] (I.of (r)):=by
 unfold zW at h
 refine bK.of Tryz.func132 rfl Tryz.ntmps132 rfl fun W A=> ?_
 refine aF ?_
 refine aL ?_
 refine bO ?_
 refine ag.rY (fO false) rfl ?_
 refine cW ?_
 refine aF ?_
 refine aD ?_
 obtain⟨aG,bo,h⟩:=aw h
 refine e6 Ii (GF bo) ?_
 refine aL ?_
 refine aK ?_
 refine ag.ret ?_
 obtain rfl:=aI h
 exact cR
theorem Q4 {aa:List aA} {aj:Int} {aP:Int} {bR:Int} {sJ:aA→aA→Option Int} {g2:Option Nat} {dQ:Nat} {r:(List aA)} (h:CY aa aj aP bR sJ=some r):bM Tryz.prog 131 [I.eq (a2 g2 aa.length dQ),I.of (aj),I.of (aP),I.of (bR),I.q5 Tryz.prog sJ] [⟨g2,.row 52 (aa:List aA) dQ⟩] (δ:=Unit) (fun d=>I.ed []) (fun d=> [⟨g2,.row 52 (r:List aA) dQ⟩]):=by
 unfold CY at h
 refine bM.of Tryz.func131 rfl Tryz.ntmps131 rfl fun W A=> ?_
 refine aF ?_
 refine aL ?_
 refine b0 ?_
 refine aL ?_
 refine aK ?_
 refine ag.block ?_
 obtain⟨av,ao,h⟩:=aw h
 refine hT (γ:=Unit) (δ:=Unit) ao [1,2,4] (fun s1 aq=> [(0,I.eq (a2 g2 aa.length dQ))]) (fun s1 aq=> []) (fun az=>Exit.ret) (fun az aq=> [(0,I.eq (a2 g2 az.2.2.length dQ)),(12,I.of (az.1)),(25,I.of (az.2.1))]) (fun az aq=> [(0,⟨g2,.row 52 (az.2.2:List aA) dQ⟩)]) () (fun s1 r h aq=> ?_) fun aq=> ?_
 ·clear ao
  refine ag.block ?_
  refine aF ?_
  refine aD ?_
  refine aD ?_
  refine bm ix ?_
  refine aL ?_
  refine bO ?_
  refine aF ?_
  refine aD ?_
  refine bm qS ?_
  refine aK ?_
  refine cm h (fun h=>?_) fun h=>?_
  ·refine aF ?_
   refine aD ?_
   refine aD ?_
   refine aD ?_
   refine aD ?_
   refine ah.bz 0 rfl ?_
   obtain⟨aG,bo,h⟩:=aw h
   refine eQ 1 W7 (Q2 (Hu bo)) fun c7=> ?_
   refine ah.ik (m:=aG.length) 0 rfl ((u0 bo).symm) ?_
   refine ah.ik (m:=aG.length) 26 rfl ((u0 bo).symm) ?_
   refine aK ?_
   refine ag.ret ?_
   refine ae.ret ?_
   refine ae.dn ?_
   obtain rfl:=aI h
   exact eD () 0
  ·cases h
 ·clear ao
  refine ae.dn ?_
  refine ae.bz 0 rfl ?_
  obtain rfl:=aI h
  exact ae.kU () (.cons_cons _ (List.nil_sublist _)) rfl rfl
theorem RG {hp:aS Cell} {aa:jM} {aj:Vector ar 4} {r:Int × Bool} (h:zq hp aa aj=some r):bM Tryz.prog 228 [I.of (aa),I.of (aj)] ([] ++ aV hp) (δ:=Unit) (fun _=>I.ed [I.of (r.1),I.of (r.2)]) (fun _=> [] ++ aV hp):=by
 unfold zq at h
 refine bM.of Tryz.func228 rfl Tryz.ntmps228 rfl fun W A=> ?_
 refine aF ?_
 refine cj fun aZ=> ?_
 refine cj fun bc=> ?_
 refine aL ?_
 refine aL ?_
 refine b0 ?_
 refine aY (aT D4) ?_
 refine cq 1 zG A8 ?_
 refine cG 0 jx ?_
 obtain⟨aG,bo,h⟩:=aw h
 refine ah.iM (fG.jd 2 rfl Ij (GD bo) ⟨ab rfl,ab rfl,trivial⟩) rfl rfl rfl ?_
 refine gr ?_
 refine gr ?_
 refine aL ?_
 refine aL ?_
 refine aK ?_
 refine ag.ret ?_
 obtain rfl:=aI h
 exact ae.ky () (.cons _ (.cons _ (.refl _))) rfl rfl (dv rfl) (dv rfl)
theorem S5 {aa:ar} {r:Int} (h:DD aa=some r):bK Tryz.prog 254 [I.of (aa)] (I.of (r)):=by
 unfold DD at h
 refine bK.of Tryz.func254 rfl Tryz.ntmps254 rfl fun W A=> ?_
 refine aF ?_
 refine cj fun aZ=> ?_
 refine aL ?_
 refine bO ?_
 refine aF ?_
 refine aY (aT j5) ?_
 refine cq 0 hx eC ?_
 refine bl (MY (ab rfl) (fK 0 rfl)) ?_
 refine aK ?_
 refine cm h (fun h=>?_) fun h=>?_
 ·refine aF ?_
  refine aY (aT j5) ?_
  refine cq 0 hx eC ?_
  obtain⟨aG,bo,h⟩:=aw h
  refine e6 Ii (GF bo) ?_
  refine bm dI ?_
  refine aL ?_
  refine aK ?_
  refine ag.ret ?_
  refine ae.ret ?_
  obtain rfl:=aI h
  exact cR
 ·refine cW ?_
  refine aF ?_
  refine aY (aT h4) ?_
  refine cq 0 ef eC ?_
  obtain⟨aJ,cr,h⟩:=aw h
  refine e6 Ii (GF cr) ?_
  refine aL ?_
  refine aK ?_
  refine ag.ret ?_
  obtain rfl:=aI h
  exact cR
theorem nE {aa:bf} {b9:Nat} {r:Bool × bf} (h:lJ aa=some r):bM Tryz.prog 55 [I.eq (.pointer (some ⟨b9,0,none⟩))] [⟨some b9,.var (aa:bf)⟩] (δ:=Unit) (fun d=>I.of (r.1)) (fun d=> [⟨some b9,.var (r.2:bf)⟩]):=by
 unfold lJ at h
 refine bM.of Tryz.func55 rfl Tryz.ntmps55 rfl fun W A=> ?_
 refine aF ?_
 refine aL ?_
 refine b0 ?_
 refine aD ?_
 refine ah.bz 0 rfl ?_
 obtain⟨aG,bo,h⟩:=aw h
 refine eQ 1 gq (gl bo) fun az=> ?_
 refine bm gN ?_
 refine aL ?_
 refine aK ?_
 refine ag.ret ?_
 refine ae.bz 0 rfl ?_
 obtain rfl:=aI h
 exact mn ()
theorem R0 {aa:bf} {b9:Nat} {r:(Vector ar 4) × bf} (h:zI aa=some r):bM Tryz.prog 18 [I.eq (.pointer (some ⟨b9,0,none⟩))] [⟨some b9,.var (aa:bf)⟩] (δ:=Unit) (fun d=>I.of (r.1)) (fun d=> [⟨some b9,.var (r.2:bf)⟩]):=by
 unfold zI at h
 refine bM.of Tryz.func18 rfl Tryz.ntmps18 rfl fun W A=> ?_
 refine aF ?_
 refine c1 ym fun aZ=> ?_
 refine b0 ?_
 refine c1 ym fun bc=> ?_
 refine bO ?_
 refine aF ?_
 refine aD ?_
 refine aK ?_
 refine ag.block ?_
 obtain⟨av,ao,h⟩:=aw h
 refine hT (γ:=Unit) (δ:=Unit) ao [0,2,3] (fun s1 aq=> [(5,I.of (s1.1))]) (fun s1 aq=> [(0,⟨some bc,.var (s1.2.1:Vector ar 4)⟩),(2,⟨some b9,.var (s1.2.2:bf)⟩)]) (fun az=>Exit.exit 0) (fun az aq=> [(5,I.of (az.1)),(6,I.of (az.2.1))]) (fun az aq=> [(0,⟨some bc,.var (az.2.2.1:Vector ar 4)⟩),(2,⟨some b9,.var (az.2.2.2:bf)⟩)]) () (fun s1 r h aq=> ?_) fun aq=> ?_
 ·clear ao
  refine aF ?_
  refine bm eT ?_
  refine bO ?_
  refine cm h (fun h=>?_) fun h=>?_
  ·refine cW ?_
   refine ag.seq ?_
   refine ag.block ?_
   refine aF ?_
   refine aD ?_
   refine aL ?_
   refine b0 ?_
   refine aD ?_
   refine aD ?_
   refine ah.bz 2 rfl ?_
   obtain⟨aG,bo,h⟩:=aw h
   refine eQ 1 gq (gl bo) fun c7=> ?_
   refine aY (ij Tryz.underlying3 Tryz.underlying41) ?_
   obtain⟨bE,dE,h⟩:=aw h
   refine dF dE (c3 (b:=({ (default:ar) with bG:=BitVec.ofInt 64 aG.1 } :ar)) rfl ha ek (.cons ef rfl (ab rfl) rfl (.nil))) ?_
   obtain⟨a8,cE,h⟩:=aw h
   refine bl (il (k:=a8) nc (ab rfl) (ab rfl) (cL cE)) ?_
   refine sm 1 ((aN.id (Vector ar 4)).comp (aN.idx (α:=ar) 4 a8 (cL cE).1)) bQ ?_
   refine b0 ?_
   refine aD ?_
   refine ah.bz 0 rfl ?_
   obtain⟨aJ,cr,h⟩:=aw h
   refine eQ 1 gq (gl cr) fun dZ=> ?_
   refine bm gN ?_
   refine aK ?_
   obtain⟨bp,ck,h⟩:=aw h
   refine jS (γ:=Unit) [0,2,3,4,5,6,16] (fun bd=> []) (fun bd=> [(0,⟨some b9,.var (bp.1:bf)⟩),(1,⟨some bc,.var (bp.2:Vector ar 4)⟩)]) (fun bd=> ?_) (fun hm ak=> ?_) fun hm ak=> ?_
   ·clear ck
    refine ae.ea ?_
    refine ae.next ?_
    refine ag.cz ?_
    refine bm dI ?_
    refine aD ?_
    refine ah.nil ?_
    refine ae.bz 2 rfl ?_
    refine ae.bz 2 rfl ?_
    obtain rfl:=aI h
    exact gP () 0
   ·have h:=gZ ak ck
    obtain⟨bY,cX,h⟩:=aw h
    obtain⟨bh,e7,h⟩:=aw h
    obtain⟨dt,hD,h⟩:=aw h
    obtain⟨cY,g4,h⟩:=aw h
    obtain⟨fz,kD,h⟩:=aw h
    refine iz [0,2,3,4,5,6,7,8,9,10,11,12,13,14,15,16] ?_
    refine ag.j8 mixed (a6 17 [] [] _ :: a6 18 [] [] _ :: a6 19 (1 :: []) [] _ :: a6 20 (2 :: []) [] _ :: a6 21 (3 :: []) (1 :: []) _ :: a6 22 (4 :: []) [] _ :: a6 23 [] [] _ :: ⟨some 24,(6 :: []),(0 :: []),(0 :: []),fun _=>I.of (bh.1),fun hd _=>⟨some b9,.var (bh.2:bf)⟩⟩ :: a6 25 (7 :: []) [] _ :: a6 26 (5 :: 8 :: []) [] _ :: a6 27 (0 :: []) [] _ :: a6 28 (10 :: []) [] _ :: ⟨none,(4 :: 9 :: 11 :: []),(1 :: []),(1 :: []),fun _=>I.any,fun hd _=>⟨some bc,.var (fz:Vector ar 4)⟩⟩ :: []) _ (0 :: 2 :: 3 :: 4 :: 5 :: 6 :: 7 :: 8 :: 9 :: 10 :: 11 :: 12 :: 13 :: 14 :: 15 :: 16 :: []) rfl rfl (by kernel_rfl) ⟨e2,e2,b8 fun hd E' L' aB al=>il (k:=bY) nc (ab (aB _ _ rfl)) (ab (aB _ _ rfl)) (cL cX),fe (aT h4),n6 1 (((aN.id (Vector ar 4)).comp (aN.idx (α:=ar) 4 bY (cL cX).1)).comp ef) eC,b8 fun hd E' L' aB al=>nM (ab (aB _ _ rfl)) (fK 24 rfl),e2,?_,fe (ij Tryz.underlying3 Tryz.underlying41),b8 fun hd E' L' aB al=>(qN (ab (aB _ _ rfl)) (ab (aB _ _ rfl))).as (aI hD),b8 fun hd E' L' aB al=>il (k:=cY) nc (ab (aB _ _ rfl)) (ab (aB _ _ rfl)) (cL g4),fe (aT h4),?_,trivial⟩ fun eP=> ?_
    ·intro hd E' L' aB al
     refine ah.bz 0 (al 0 _ rfl rfl) ?_
     refine ah.lP (Lin:= [⟨some b9,.var (aJ.2:bf)⟩]) (Lr:=L'.eraseIdx 0) gq (gl e7) ⟨ab (aB _ _ rfl),bP 256,trivial⟩ rfl fun l3=> ?_
     refine ah.nil ?_
     refine ae.back 0 (al 0 _ rfl rfl) ?_
     exact ae.fin (dY []) rfl rfl
    ·intro hd E' L' aB al
     refine ah.store (i:=1) (((aN.id (Vector ar 4)).comp (aN.idx (α:=ar) 4 cY (cL g4).1)).comp ef) (v:=(dt:BitVec 64)) (b':=(fz:Vector ar 4)) eC (ab (aB _ _ rfl)) (ab (aB _ _ rfl)) (al 1 _ rfl rfl) rfl (aI kD) ?_
     refine ah.nil ?_
     exact ae.fin (dY []) rfl rfl
    refine ae.dR (L2:= [⟨some b9,.var (bh.2:bf)⟩,⟨some bc,.var (fz:Vector ar 4)⟩,⟨some aZ,.var ((default:Vector ar 4):Vector ar 4)⟩]) rfl ?_
    refine jC [0,2,3,4,5,6,7,8,9,10,11,12,13,14,15,16,17,18,19,20,21,22,23,24,25,26,27,28] ?_
    obtain rfl:=aI h
    exact dp 0 (hm ())
   ·have h:=g1 ak ck
    refine ag.skip ?_
    obtain rfl:=aI h
    exact dp 0 (hm ())
  ·refine ag.exit ?_
   refine ae.exit ?_
   obtain rfl:=aI h
   exact eD () 0
 ·clear ao
  refine ae.fM ?_
  refine ae.next ?_
  refine aF ?_
  refine cG 0 jx ?_
  refine cA 1 jx ?_
  refine aK ?_
  refine ag.ret ?_
  refine ae.bz 2 rfl ?_
  obtain rfl:=aI h
  exact ae.fi () (.cons_cons _ (List.nil_sublist _)) rfl rfl (ju (i:=2) jx rfl rfl)
theorem SV {aa:ar} {aj:Int} {r:Bool} (h:Ac aa aj=some r):bK Tryz.prog 248 [I.of (aa),I.of (aj)] (I.of (r)):=by
 unfold Ac at h
 refine bK.of Tryz.func248 rfl Tryz.ntmps248 rfl fun W A=> ?_
 refine aF ?_
 refine cj fun aZ=> ?_
 refine aL ?_
 refine b0 ?_
 refine cG 0 bQ ?_
 obtain⟨aG,bo,h⟩:=aw h
 refine e6 W8 (S5 bo) ?_
 refine aD ?_
 refine bm qS ?_
 refine aL ?_
 refine aK ?_
 refine ag.ret ?_
 obtain rfl:=aI h
 exact cR
theorem SD {aa:a3} {aj:cH} {r:Int} (h:z5 aa aj=some r):bK Tryz.prog 283 [I.of (aa),I.of (aj)] (I.of (r)):=by
 unfold z5 at h
 refine bK.of Tryz.func283 rfl Tryz.ntmps283 rfl fun W A=> ?_
 refine aF ?_
 refine cj fun aZ=> ?_
 refine cj fun bc=> ?_
 refine aL ?_
 refine b0 ?_
 refine cG 1 ho ?_
 refine aY (aT HU) ?_
 refine cq 0 o0 bF ?_
 obtain⟨aG,bo,h⟩:=aw h
 refine e6 Pr (Lb bo) ?_
 refine aL ?_
 refine bO ?_
 refine aF ?_
 refine aD ?_
 refine bm eT ?_
 refine aK ?_
 refine cm h (fun h=>?_) fun h=>?_
 ·refine aF ?_
  refine aL ?_
  refine aK ?_
  refine ag.ret ?_
  refine ae.ret ?_
  obtain rfl:=aI h
  exact cR
 ·refine cW ?_
  refine aF ?_
  refine aY (aT AS) ?_
  refine cq 1 zn yl ?_
  refine aD ?_
  obtain⟨a8,cE,h⟩:=aw h
  refine hU cE Tryz.underlying24 tw ?_
  refine Fj oZ Hs ?_
  refine aY (dV bF) ?_
  refine aL ?_
  refine aK ?_
  refine ag.ret ?_
  obtain rfl:=aI h
  exact cR
theorem R1 {aa:bf} {aj:a3} {aP:cH} {b9:Nat} {r:bV × bf} (h:zJ aa aj aP=some r):bM Tryz.prog 75 [I.eq (.pointer (some ⟨b9,0,none⟩)),I.of (aj),I.of (aP)] [⟨some b9,.var (aa:bf)⟩] (δ:=Unit) (fun d=>I.of (r.1)) (fun d=> [⟨some b9,.var (r.2:bf)⟩]):=by
 unfold zJ at h
 refine bM.of Tryz.func75 rfl Tryz.ntmps75 rfl fun W A=> ?_
 refine aF ?_
 refine cj fun aZ=> ?_
 refine cj fun bc=> ?_
 refine c1 mN fun cC=> ?_
 refine b0 ?_
 refine cG 2 ho ?_
 refine aY (aT HU) ?_
 refine cq 1 o0 bF ?_
 obtain⟨aG,bo,h⟩:=aw h
 refine e6 W9 (SB bo) ?_
 refine aL ?_
 refine b0 ?_
 refine aD ?_
 refine ah.bz 3 rfl ?_
 obtain⟨aJ,cr,h⟩:=aw h
 refine eQ 1 gq (gl cr) fun az=> ?_
 refine aY (ij Tryz.underlying3 Tryz.underlying41) ?_
 refine bl (nM (ab rfl) (fK 24 rfl)) ?_
 refine aD ?_
 refine ah.bz 0 rfl ?_
 obtain⟨bh,e7,h⟩:=aw h
 refine eQ 1 gq (gl e7) fun c7=> ?_
 refine aY (ij Tryz.underlying3 Tryz.underlying41) ?_
 refine bl (nM (ab rfl) (fK 8 rfl)) ?_
 obtain⟨bE,dE,h⟩:=aw h
 refine dF dE (qN (ab rfl) (ab rfl)) ?_
 refine aD ?_
 refine ah.bz 0 rfl ?_
 obtain⟨bn,fT,h⟩:=aw h
 refine eQ 1 gq (gl fT) fun dZ=> ?_
 refine aY (ij Tryz.underlying3 Tryz.underlying41) ?_
 refine bm qN ?_
 obtain⟨dt,hD,h⟩:=aw h
 refine dF hD (c3 (b:=({ (default:ar) with bG:=bE ||| (BitVec.ofInt 64 bn.1) } :ar)) rfl ha ek (.cons ef rfl (ab rfl) rfl (.nil))) ?_
 refine aD ?_
 obtain⟨cw,hV,h⟩:=aw h
 refine e6 IY (GQ hV) ?_
 refine c1 ek fun fm=> ?_
 refine cA 0 bQ ?_
 refine bO ?_
 refine aF ?_
 refine aY (aT xW) ?_
 refine cq 3 m4 bF ?_
 refine aK ?_
 refine ag.block ?_
 refine aF ?_
 refine bm gN ?_
 refine aL ?_
 refine aK ?_
 refine cm h (fun h=>?_) fun h=>?_
 ·refine aF ?_
  refine aD ?_
  refine ah.bz 1 rfl ?_
  obtain⟨dg,hW,h⟩:=aw h
  refine eQ 1 gq (gl hW) fun l3=> ?_
  refine bm pO ?_
  refine aK ?_
  refine cm h (fun h=>?_) fun h=>?_
  ·refine aF ?_
   refine aD ?_
   refine aD ?_
   refine aD ?_
   refine ah.bz 0 rfl ?_
   obtain⟨c8,nk,h⟩:=aw h
   refine eQ 1 gq (gl nk) fun er=> ?_
   refine bm dI ?_
   refine hX [aG,8,16,1,bq (1 + c8.1)] Tryz.underlying63 bF jD ?_
   refine aD ?_
   refine ah.bz 0 rfl ?_
   obtain⟨eX,nm,h⟩:=aw h
   refine eQ 1 gq (gl nm) fun l4=> ?_
   obtain⟨a8,cE,h⟩:=aw h
   refine hU cE Tryz.underlying63 bF ?_
   refine aY (dV bF) ?_
   refine aL ?_
   refine bO ?_
   obtain⟨fV,p6,h⟩:=aw h
   obtain⟨fz,kD,h⟩:=aw h
   obtain⟨ia,nh,h⟩:=aw h
   refine ag.draw mixed 10 [some 51,some 52,some 53,some 54,some 55,some 56,some 57,some 58,some 59,some 60] [[],[],[1],[],[],[3,4],[5],[2,6],[7],[0,8]] [.val _,.val _,.val _,.val _,.val _,.val _,.val _,.val _,.val _,.val _] [false,false,false,false,false,false,false,false,false,false] (by kernel_rfl) rfl rfl rfl (fun da=>⟨cZ,H1 (aT h4),dz 1 ef eC,cZ,cZ,fl Xa (SU p6),dO fun L' al=>Hv ef Nz eC rfl (ab rfl) rfl rfl,iC qI,uo kD fun L' al=>c3 (b:=({ (default:ar) with bG:=cw.bG &&& fV.bG } :ar)) rfl ha ek (.cons ef rfl (ab rfl) rfl (.nil)),uo nh fun L' al=>c3 (b:=({ (default:bV) with fF:=true,ez:=aE [aG,8,16,1,bq (1 + c8.1)] a8,cI:=fz } :bV)) rfl vP mN (.cons nD rfl (fO true) rfl (.cons m3 rfl (ab rfl) rfl (.cons kr rfl (ab rfl) rfl (.nil)))),trivial⟩) fun da=> ?_
   refine cA 2 fr ?_
   refine aK ?_
   refine ag.ret ?_
   refine ae.dn ?_
   refine ae.ret ?_
   refine ae.bz 0 rfl ?_
   obtain rfl:=aI h
   exact ae.fi () (.cons_cons _ (List.nil_sublist _)) rfl rfl (ju (i:=2) fr rfl rfl)
  ·refine ag.skip ?_
   refine ae.ea ?_
   refine ae.next ?_
   refine aF ?_
   refine hC vP mN (default:bV) .nil ?_
   refine cA 2 fr ?_
   refine aK ?_
   refine ag.ret ?_
   refine ae.bz 0 rfl ?_
   obtain rfl:=aI h
   exact ae.fi () (.cons_cons _ (List.nil_sublist _)) rfl rfl (ju (i:=2) fr rfl rfl)
 ·refine aF ?_
  refine bm gN ?_
  refine aL ?_
  refine aK ?_
  refine cm h (fun h=>?_) fun h=>?_
  ·refine aF ?_
   refine aD ?_
   refine ah.bz 1 rfl ?_
   obtain⟨gH,r8,h⟩:=aw h
   refine eQ 1 gq (gl r8) fun ob=> ?_
   refine hX ([255,15,1,12,gH.1]:List Int) Tryz.underlying63 bF jD ?_
   refine aD ?_
   refine ah.bz 0 rfl ?_
   obtain⟨hY,r9,h⟩:=aw h
   refine eQ 1 gq (gl r9) fun FV=> ?_
   obtain⟨bY,cX,h⟩:=aw h
   refine hU cX Tryz.underlying63 bF ?_
   refine aY (dV bF) ?_
   refine aY (ij Tryz.underlying3 Tryz.underlying41) ?_
   obtain⟨g7,ni,h⟩:=aw h
   refine dF ni (c3 (b:=({ (default:ar) with bG:=BitVec.ofInt 64 (aE ([255,15,1,12,gH.1]:List Int) bY) } :ar)) rfl ha ek (.cons ef rfl (ab rfl) rfl (.nil))) ?_
   refine aD ?_
   obtain⟨gQ,vQ,h⟩:=aw h
   refine e6 IY (GQ vQ) ?_
   refine c1 ek fun iY=> ?_
   refine cA 0 bQ ?_
   refine b0 ?_
   refine aY (aT h4) ?_
   refine cq 0 ef eC ?_
   refine bl (MY (ab rfl) (fK 0 rfl)) ?_
   refine aK ?_
   refine cm h (fun h=>?_) fun h=>?_
   ·refine aF ?_
    refine cG 0 bQ ?_
    refine aY (aT h4) ?_
    refine cq 2 ef eC ?_
    refine aY (aT h4) ?_
    refine cq 0 ef eC ?_
    refine bm qI ?_
    obtain⟨jn,p3,h⟩:=aw h
    refine dF p3 (c3 (b:=({ (default:ar) with bG:=cw.bG &&& gQ.bG } :ar)) rfl ha ek (.cons ef rfl (ab rfl) rfl (.nil))) ?_
    obtain⟨jo,p4,h⟩:=aw h
    refine dF p4 (c3 (b:=({ (default:bV) with fF:=true,fL:=gQ,cI:=jn } :bV)) rfl vP mN (.cons nD rfl (fO true) rfl (.cons oo rfl (ab rfl) rfl (.cons kr rfl (ab rfl) rfl (.nil))))) ?_
    refine cA 3 fr ?_
    refine aK ?_
    refine ag.ret ?_
    refine ae.dn ?_
    refine ae.ret ?_
    refine ae.bz 1 rfl ?_
    obtain rfl:=aI h
    exact ae.fi () (.cons_cons _ (List.nil_sublist _)) rfl rfl (ju (i:=3) fr rfl rfl)
   ·refine ag.skip ?_
    refine ae.ea ?_
    refine ae.next ?_
    refine aF ?_
    refine hC vP mN (default:bV) .nil ?_
    refine cA 3 fr ?_
    refine aK ?_
    refine ag.ret ?_
    refine ae.bz 1 rfl ?_
    obtain rfl:=aI h
    exact ae.fi () (.cons_cons _ (List.nil_sublist _)) rfl rfl (ju (i:=3) fr rfl rfl)
  ·refine aF ?_
   refine bm gN ?_
   refine aL ?_
   refine aK ?_
   refine cm h (fun h=>?_) fun h=>?_
   ·refine ag.seq ?_
    obtain⟨h7,sa,h⟩:=aw h
    obtain⟨hN,sn,h⟩:=aw h
    refine iz [0,1,2,4,5,6,7,8,12,13,14,15,16,17,18,19,20,21,22,23,24,25,26,27,28,29,30,31,32,33,36,37,61,62,85,86] ?_
    refine ag.j8 mixed (a6 87 [] [] _ :: a6 88 (0 :: []) (0 :: []) _ :: a6 89 [] [] _ :: ⟨some 90,(2 :: []),(1 :: []),(1 :: []),fun _=>I.of (h7.1),fun hd _=>⟨some b9,.var (h7.2:bf)⟩⟩ :: a6 91 (3 :: []) [] _ :: a6 92 (1 :: 4 :: []) [] _ :: a6 93 [] [] _ :: a6 94 (6 :: []) [] _ :: a6 95 (7 :: []) [] _ :: a6 96 (8 :: []) [] _ :: a6 97 (5 :: 9 :: []) [] _ :: a6 11 (10 :: []) [] _ :: []) _ (0 :: 1 :: 2 :: 4 :: 5 :: 6 :: 7 :: 8 :: 12 :: 13 :: 14 :: 15 :: 16 :: 17 :: 18 :: 19 :: 20 :: 21 :: 22 :: 23 :: 24 :: 25 :: 26 :: 27 :: 28 :: 29 :: 30 :: 31 :: 32 :: 33 :: 36 :: 37 :: 61 :: 62 :: 85 :: 86 :: []) rfl rfl (by kernel_rfl) ⟨fe (aT h4),n6 0 ef eC,e2,?_,fe (ij Tryz.underlying3 Tryz.underlying41),ur Vi,e2,fe (ij Tryz.underlying3 Tryz.underlying130),b8 fun hd E' L' aB al=>nM (fK 1 rfl) (ab (aB _ _ rfl)),b8 fun hd E' L' aB al=>th (ab (aB _ _ rfl)) (fK 1 rfl),b8 fun hd E' L' aB al=>(UC (ab (aB _ _ rfl)) (ab (aB _ _ rfl))).as (aI sn),b8 fun hd E' L' aB al=>eB (ab (aB _ _ rfl)),trivial⟩ fun eP=> ?_
    ·intro hd E' L' aB al
     refine ah.bz 1 (al 1 _ rfl rfl) ?_
     refine ah.lP (Lin:= [⟨some b9,.var (bn.2:bf)⟩]) (Lr:=L'.eraseIdx 1) gq (gl sa) ⟨ab (aB _ _ rfl),bP 256,trivial⟩ rfl fun qo=> ?_
     refine ah.nil ?_
     refine ae.back 1 (al 1 _ rfl rfl) ?_
     exact ae.fin (dY []) rfl rfl
    refine ae.dR (L2:= [⟨some fm,.var (cw:ar)⟩,⟨some b9,.var (h7.2:bf)⟩,⟨some cC,.var ((default:bV):bV)⟩,⟨some bc,.var (aP:cH)⟩,⟨some aZ,.var (aj:a3)⟩]) rfl ?_
    refine jC [0,1,2,4,5,6,7,8,11,12,13,14,15,16,17,18,19,20,21,22,23,24,25,26,27,28,29,30,31,32,33,36,37,61,62,85,86,87,88,89,90,91,92,93,94,95,96,97] ?_
    refine ae.next ?_
    refine aF ?_
    refine aD ?_
    refine ah.bz 1 rfl ?_
    obtain⟨hL,Bq,h⟩:=aw h
    refine eQ 1 gq (gl Bq) fun jT=> ?_
    refine bm pO ?_
    refine aD ?_
    refine ey (aT h4) ?_
    refine ep (fun hb=>eA (i:=1) ((aN.id ar).comp ef) (r:=cw.bG) eC (cb rfl hb) rfl rfl rfl) ?_
    refine ep (fun hb=>xQ (cb rfl hb) (fK 0 rfl)) ?_
    refine ey cM ?_
    refine ah.gg (fun hb=>cM (ab rfl)) rfl rfl rfl rfl rfl ?_
    refine ah.gg (fun hb=>cM (ab rfl)) rfl rfl rfl rfl rfl ?_
    refine ah.gg (fun hb=>ij Tryz.underlying3 Tryz.underlying130 (cb rfl hb)) rfl rfl rfl rfl rfl ?_
    refine ah.gg (fun hb=>nM (fK 1 rfl) (cb rfl hb)) rfl rfl rfl rfl rfl ?_
    refine ah.gg (fun hb=>th (cb rfl hb) (fK 1 rfl)) rfl rfl rfl rfl rfl ?_
    refine ah.gg (fun hb=>xQ (cb rfl hb) (cb rfl hb)) rfl rfl rfl rfl rfl ?_
    refine ep (fun hb=>pc (cb rfl hb) (ab rfl) (fun h=>⟨hb,h⟩)) ?_
    refine ey hP ?_
    obtain⟨l5,wj,h⟩:=aw h
    refine dF wj (pc (ab rfl) (ab rfl) (fun h=>h)) ?_
    refine aK ?_
    refine cm h (fun h=>?_) fun h=>?_
    ·refine aF ?_
     refine cG 1 bQ ?_
     refine aD ?_
     refine hC ha ek ({ (default:ar) with bG:=hN } :ar) (iK ef .nil) ?_
     obtain⟨lx,vR,h⟩:=aw h
     refine dF vR (c3 (b:=({ (default:bV) with fF:=true,cI:=cw,jP:=({ (default:ar) with bG:=hN } :ar) } :bV)) rfl vP mN (.cons nD rfl (fO true) rfl (.cons kr rfl (ab rfl) rfl (.cons sZ rfl (ab rfl) rfl (.nil))))) ?_
     refine cA 2 fr ?_
     refine aK ?_
     refine ag.ret ?_
     refine ae.dn ?_
     refine ae.ret ?_
     refine ae.bz 0 rfl ?_
     obtain rfl:=aI h
     exact ae.fi () (.cons_cons _ (List.nil_sublist _)) rfl rfl (ju (i:=2) fr rfl rfl)
    ·refine ag.skip ?_
     refine ae.ea ?_
     refine ae.next ?_
     refine aF ?_
     refine hC vP mN (default:bV) .nil ?_
     refine cA 2 fr ?_
     refine aK ?_
     refine ag.ret ?_
     refine ae.bz 0 rfl ?_
     obtain rfl:=aI h
     exact ae.fi () (.cons_cons _ (List.nil_sublist _)) rfl rfl (ju (i:=2) fr rfl rfl)
   ·refine aF ?_
    refine cG 0 bQ ?_
    obtain⟨k1,vS,h⟩:=aw h
    refine dF vS (c3 (b:=({ (default:bV) with fF:=true,cI:=cw } :bV)) rfl vP mN (.cons nD rfl (fO true) rfl (.cons kr rfl (ab rfl) rfl (.nil)))) ?_
    refine cA 2 fr ?_
    refine aK ?_
    refine ag.ret ?_
    refine ae.dn ?_
    refine ae.ret ?_
    refine ae.bz 1 rfl ?_
    obtain rfl:=aI h
    exact ae.fi () (.cons_cons _ (List.nil_sublist _)) rfl rfl (ju (i:=2) fr rfl rfl)
theorem KZ {aa:bf} {aj:a3} {aP:Int} {b9:Nat} {r:bu × bf} (h:xi aa aj aP=some r):bM Tryz.prog 27 [I.eq (.pointer (some ⟨b9,0,none⟩)),I.of (aj),I.of (aP)] [⟨some b9,.var (aa:bf)⟩] (δ:=Unit) (fun d=>I.of (r.1)) (fun d=> [⟨some b9,.var (r.2:bf)⟩]):=by
 unfold xi at h
 refine bM.of Tryz.func27 rfl Tryz.ntmps27 rfl fun W A=> ?_
 refine aF ?_
 refine cj fun aZ=> ?_
 refine c1 EW fun bc=> ?_
 refine bO ?_
 obtain⟨aG,bo,h⟩:=aw h
 obtain⟨a8,cE,h⟩:=aw h
 refine ag.draw mixed 10 [some 13,some 14,some 15,some 16,some 17,some 18,some 19,some 20,some 21,some 7] [[],[0],[],[],[3],[4],[2,5],[1,6],[7],[]] [.val _,.val _,.val _,.val _,.val _,.val _,.val _,.val _,.val _,.new (.var (default:bW))] [false,false,false,false,false,false,false,false,false,false] (by kernel_rfl) rfl rfl rfl (fun da=>⟨H1 (aT oy),dz 1 om n1,cZ,H1 (aT oy),dz 1 om n1,H1 (eK Tryz.underlying28),fl IZ (GP bo),nj cE Tryz.underlying28 hn,H1 (dV hn),Az mO,trivial⟩) fun da=> ?_
 refine cA 0 hn ?_
 refine b0 ?_
 refine aY (aT vh) ?_
 refine cq 0 pG bF ?_
 refine bl (qH (b:=({ (default:bu) with dW:=(aE aj.b7 a8).bX } :bu)) [1,4] Mr rfl Zd EW (.cons sX rfl (ab rfl) rfl (by rfl) (.nil))) ?_
 refine ah.own (α:=bV) 88 ?_
 refine ah.own (α:=ar) 43 ?_
 refine ah.pa (z:=(default:bu)) [1,4] Mr EW rfl fun cC=> ?_
 refine ah.own (α:=bV) 88 ?_
 refine ah.own (α:=ar) 43 ?_
 refine ah.rQ (i:=2) hf (ab rfl) (ab rfl) rfl ?_
 refine bO ?_
 refine aF ?_
 refine aY (aT mH) ?_
 refine cq 5 kQ mg ?_
 refine aY (eK Tryz.underlying62) ?_
 refine aD ?_
 refine aK ?_
 refine ag.block ?_
 obtain⟨av,ao,h⟩:=aw h
 refine hT (γ:=(Option Nat × Nat)) (δ:=(Option Nat × Nat)) ao [0,1,2,4,6,7,8,26,27] (fun s1 aq=> [(28,I.of (s1.1))]) (fun s1 aq=> [(2,⟨some cC,.b4 (s1.2.1:bu) [(1,a2 aq.1 s1.2.2.1.length aq.2),(4,a2 none ([]:List ar).length 0)]⟩),(4,⟨aq.1,.row 88 (s1.2.2.1:List bV) aq.2⟩),(8,⟨some b9,.var (s1.2.2.2:bf)⟩)]) (fun az=>Exit.exit 0) (fun az aq=> [(28,I.of (az.1)),(29,I.of (az.2.1))]) (fun az aq=> [(2,⟨some cC,.b4 (az.2.2.1:bu) [(1,a2 aq.1 az.2.2.2.1.length aq.2),(4,a2 none ([]:List ar).length 0)]⟩),(4,⟨aq.1,.row 88 (az.2.2.2.1:List bV) aq.2⟩),(8,⟨some b9,.var (az.2.2.2.2:bf)⟩)]) (none,0) (fun s1 r h aq=> ?_) fun aq=> ?_
 ·clear ao
  refine aF ?_
  refine bm eT ?_
  refine bO ?_
  refine cm h (fun h=>?_) fun h=>?_
  ·refine cW ?_
   refine ag.seq ?_
   refine ag.block ?_
   refine aF ?_
   obtain⟨bY,cX,h⟩:=aw h
   refine hU cX Tryz.underlying62 jw ?_
   refine aY (dV jw) ?_
   refine c1 ka fun fm=> ?_
   refine cA 0 jw ?_
   refine bO ?_
   obtain⟨aJ,cr,h⟩:=aw h
   obtain⟨bh,e7,h⟩:=aw h
   refine iz [0,1,2,4,6,7,8,10,26,27,28,29,30,31] ?_
   refine ag.j8 mixed (a6 32 [] [] _ :: a6 33 (0 :: []) (3 :: []) _ :: a6 34 [] [] _ :: a6 35 [] (8 :: []) _ :: a6 36 [] (0 :: []) _ :: ⟨some 37,(2 :: 3 :: 4 :: []),(9 :: []),(9 :: []),fun _=>I.of (aJ.1),fun hd _=>⟨some b9,.var (aJ.2:bf)⟩⟩ :: a6 38 (5 :: []) [] _ :: ⟨some 39,(1 :: 6 :: []),(5 :: []),(5 :: []),fun hd=>I.eq (a2 (hd 7 0) bh.length ((hd 7 1).getD 0)),fun hd _=>⟨(hd 7 0),.row 88 (bh:List bV) ((hd 7 1).getD 0)⟩⟩ :: a6 40 [] [] _ :: ⟨none,(1 :: 7 :: 8 :: []),(3 :: []),(3 :: []),fun _=>I.any,fun hd _=>⟨some cC,.b4 (({ s1.2.1 with bZ:= [] } :bu):bu) [(1,a2 (hd 7 0) bh.length ((hd 7 1).getD 0)),(4,a2 none ([]:List ar).length 0)]⟩⟩ :: []) _ (0 :: 1 :: 2 :: 4 :: 6 :: 7 :: 8 :: 10 :: 26 :: 27 :: 28 :: 29 :: 30 :: 31 :: []) rfl rfl (by kernel_rfl) ⟨fe (aT lk),b8 fun hd E' L' aB al=>ih (i:=3) (q:=0) (β:=bu) (γ:=bV) kY (ab (aB _ _ rfl)) (al 3 _ rfl rfl) rfl,e2,lW 8 ho,lW 0 jw,?_,b8 fun hd E' L' aB al=>iI (r:= [aJ.1]) Tryz.underlying47 fr mN rfl rfl (.cons (by simp) (ab (aB _ _ rfl)) (.nil)),?_,fe (aT lk),?_,trivial⟩ fun eP=> ?_
   ·intro hd E' L' aB al
    refine ah.bz 9 (al 9 _ rfl rfl) ?_
    refine ah.lP (Lin:= [⟨some b9,.var (s1.2.2.2:bf)⟩]) (Lr:=L'.eraseIdx 9) Ze (R1 cr) ⟨ab (aB _ _ rfl),ab (aB _ _ rfl),ab (aB _ _ rfl),trivial⟩ rfl fun c7=> ?_
    refine ah.nil ?_
    refine ae.back 9 (al 9 _ rfl rfl) ?_
    exact ae.fin (dY []) rfl rfl
   ·intro hd E' L' aB al
    refine ah.app (i:=5) Tryz.underlying47 fr mN (bytes:=64) (by kernel_rfl) (ab (aB _ _ rfl)) (al 5 _ rfl rfl) (ab (aB _ _ rfl)) e7 rfl fun g3 fC=> ?_
    refine ah.nil ?_
    exact ae.fin (dY [g3,some fC]) rfl rfl
   ·intro hd E' L' aB al
    refine ah.j6 (i:=3) (γ:=bV) (b':=(({ s1.2.1 with bZ:= [] } :bu):bu)) (os':= [(1,a2 (hd 7 0) bh.length ((hd 7 1).getD 0)),(4,a2 none ([]:List ar).length 0)]) ((aN.id bu).comp lh) kY (ab (aB _ _ rfl)) (ab (aB _ _ rfl)) jc (al 3 _ rfl rfl) rfl rfl rfl ?_
    refine ah.nil ?_
    exact ae.fin (dY []) rfl rfl
   refine ae.dR (L2:= [⟨some fm,.var (aE ((aE aj.b7 a8).cl) bY:cH)⟩,⟨none,.row 43 (([]:List ar):List ar) 0⟩,⟨none,.row 88 (([]:List bV):List bV) 0⟩,⟨some cC,.b4 (({ s1.2.1 with bZ:= [] } :bu):bu) [(1,a2 (eP 7 0) bh.length ((eP 7 1).getD 0)),(4,a2 none ([]:List ar).length 0)]⟩,⟨none,.row 43 (([]:List ar):List ar) 0⟩,⟨(eP 7 0),.row 88 (bh:List bV) ((eP 7 1).getD 0)⟩,⟨some (da 9),.var (aE aj.b7 a8:bW)⟩,⟨some bc,.var ((default:bu):bu)⟩,⟨some aZ,.var (aj:a3)⟩,⟨some b9,.var (aJ.2:bf)⟩]) rfl ?_
   refine jC [0,1,2,4,6,7,8,10,26,27,28,29,30,31,32,34,35,36,37,38,39,40] ?_
   refine ae.next ?_
   refine aF ?_
   refine aY (aT xW) ?_
   refine cq 0 m4 bF ?_
   refine bm gN ?_
   refine aD ?_
   refine ey (aT xW) ?_
   refine ep (fun hb=>eA (i:=0) ((aN.id cH).comp m4) (r:=(aE ((aE aj.b7 a8).cl) bY).cN) bF (cb rfl hb) rfl rfl rfl) ?_
   refine kE gN ?_
   obtain⟨bE,dE,h⟩:=aw h
   refine dF dE (vT (ab rfl) (ab rfl) (fun h=>h)) ?_
   refine aK ?_
   obtain⟨bp,ck,h⟩:=aw h
   refine jS (γ:=Unit) [0,1,2,4,6,7,8,10,26,27,28,29,48] (fun bd=> []) (fun bd=> [(3,⟨some cC,.b4 (bp.1:bu) [(1,a2 (eP 7 0) bh.length ((eP 7 1).getD 0)),(4,a2 none ([]:List ar).length 0)]⟩),(9,⟨some b9,.var (bp.2:bf)⟩)]) (fun bd=> ?_) (fun hm ak=> ?_) fun hm ak=> ?_
   ·clear ck
    refine ae.ea ?_
    refine ae.next ?_
    refine ag.cz ?_
    refine bm dI ?_
    refine aD ?_
    refine ah.nil ?_
    obtain rfl:=aI h
    exact gP ((eP 7 0),((eP 7 1).getD 0)) 1
   ·have h:=gZ ak ck
    refine ag.cz ?_
    refine aD ?_
    refine ah.bz 9 rfl ?_
    obtain⟨bn,fT,h⟩:=aw h
    refine eQ 1 gq (gl fT) fun dZ=> ?_
    refine bm dI ?_
    refine aY (aT rR) ?_
    obtain⟨dt,hD,h⟩:=aw h
    refine ah.tp (i:=4) ((aN.id bu).comp ru) (v:=(bq (1 + bn.1):Int)) (b':=(dt:bu)) bF (ab rfl) (ab rfl) rfl rfl (aI hD) (by rfl) ?_
    refine ah.nil ?_
    refine ae.bz 9 rfl ?_
    refine ae.bz 9 rfl ?_
    refine ae.bz 9 rfl ?_
    refine ae.bz 9 rfl ?_
    refine ae.bz 9 rfl ?_
    refine ae.bz 9 rfl ?_
    refine ae.bz 9 rfl ?_
    refine ae.bz 9 rfl ?_
    refine ae.bz 9 rfl ?_
    obtain rfl:=aI h
    exact dp 0 (hm ())
   ·have h:=g1 ak ck
    refine ag.skip ?_
    obtain rfl:=aI h
    exact dp 0 (hm ())
  ·refine ag.exit ?_
   refine ae.exit ?_
   obtain rfl:=aI h
   exact eD (aq.1,aq.2) 0
 ·clear ao
  refine ae.fM ?_
  refine ae.next ?_
  refine ag.seq ?_
  obtain⟨cw,hV,h⟩:=aw h
  obtain⟨cY,g4,h⟩:=aw h
  obtain⟨fz,kD,h⟩:=aw h
  refine iz [0,1,2,4,6,7,8,26,27,28,29] ?_
  refine ag.j8 mixed (a6 54 [] [] _ :: a6 55 (0 :: []) (5 :: []) _ :: a6 56 [] [] _ :: a6 57 [] [] _ :: a6 58 (3 :: []) (5 :: []) _ :: a6 59 (4 :: []) [] _ :: ⟨some 60,(2 :: 5 :: []),(8 :: []),(8 :: []),fun _=>I.of (cw.1),fun hd _=>⟨some b9,.var (cw.2:bf)⟩⟩ :: a6 61 (1 :: 6 :: []) [] _ :: a6 62 (7 :: []) [] _ :: a6 63 [] [] _ :: ⟨none,(8 :: 9 :: []),(2 :: []),(2 :: []),fun _=>I.any,fun hd _=>⟨some cC,.b4 (fz:bu) [(1,a2 aq.1 av.2.2.2.1.length aq.2),(4,a2 none ([]:List ar).length 0)]⟩⟩ :: []) _ (0 :: 1 :: 2 :: 4 :: 6 :: 7 :: 8 :: 26 :: 27 :: 28 :: 29 :: []) rfl rfl (by kernel_rfl) ⟨fe (aT NA),n6 5 w9 vU,e2,fe (aT NA),n6 5 w9 vU,fe (eK Tryz.underlying63),?_,b8 fun hd E' L' aB al=>qU (k:=cY) Tryz.underlying63 bF (ab (aB _ _ rfl)) (ab (aB _ _ rfl)) (cL g4),fe (dV bF),fe (aT xY),?_,trivial⟩ fun jh=> ?_
  ·intro hd E' L' aB al
   refine ah.bz 8 (al 8 _ rfl rfl) ?_
   refine ah.lP (Lin:= [⟨some b9,.var (av.2.2.2.2:bf)⟩]) (Lr:=L'.eraseIdx 8) gq (gl hV) ⟨ab (aB _ _ rfl),ab (aB _ _ rfl),trivial⟩ rfl fun l3=> ?_
   refine ah.nil ?_
   refine ae.back 8 (al 8 _ rfl rfl) ?_
   exact ae.fin (dY []) rfl rfl
  ·intro hd E' L' aB al
   refine ah.tp (i:=2) ((aN.id bu).comp xb) (v:=(aE ((aE aj.b7 a8).dU) cY:Int)) (b':=(fz:bu)) bF (ab (aB _ _ rfl)) (ab (aB _ _ rfl)) (al 2 _ rfl rfl) rfl (aI kD) (by rfl) ?_
   refine ah.nil ?_
   exact ae.fin (dY []) rfl rfl
  refine ae.dR (L2:= [⟨none,.row 43 (([]:List ar):List ar) 0⟩,⟨none,.row 88 (([]:List bV):List bV) 0⟩,⟨some cC,.b4 (fz:bu) [(1,a2 aq.1 av.2.2.2.1.length aq.2),(4,a2 none ([]:List ar).length 0)]⟩,⟨none,.row 43 (([]:List ar):List ar) 0⟩,⟨aq.1,.row 88 (av.2.2.2.1:List bV) aq.2⟩,⟨some (da 9),.var (aE aj.b7 a8:bW)⟩,⟨some bc,.var ((default:bu):bu)⟩,⟨some aZ,.var (aj:a3)⟩,⟨some b9,.var (cw.2:bf)⟩]) rfl ?_
  refine jC [0,1,2,4,6,7,8,26,27,28,29,54,55,56,57,58,59,60,61,62,63] ?_
  refine ae.next ?_
  refine ag.seq ?_
  refine aF ?_
  refine cG 7 ho ?_
  refine aY (aT xY) ?_
  refine P5 2 xb bF ?_
  obtain⟨dg,hW,h⟩:=aw h
  refine e6 Zf (Sl hW) ?_
  refine bl (Hv C6 Vj Xb rfl (ab rfl) rfl rfl) ?_
  refine aY (eK Tryz.underlying145) ?_
  refine aD ?_
  refine aK ?_
  refine ag.block ?_
  obtain⟨aX,ao,h⟩:=aw h
  refine hT (γ:=(Option Nat × Nat)) (δ:=(Option Nat × Nat)) ao [0,1,2,4,6,7,8,26,27,28,29,68,69] (fun s2 bN=> [(70,I.of (s2.1))]) (fun s2 bN=> [(2,⟨some cC,.b4 (s2.2.1:bu) [(1,a2 aq.1 av.2.2.2.1.length aq.2),(4,a2 bN.1 s2.2.2.1.length bN.2)]⟩),(3,⟨bN.1,.row 43 (s2.2.2.1:List ar) bN.2⟩),(8,⟨some b9,.var (s2.2.2.2:bf)⟩)]) (fun er=>Exit.exit 2) (fun er bN=> [(70,I.of (er.1)),(71,I.of (er.2.1))]) (fun er bN=> [(2,⟨some cC,.b4 (er.2.2.1:bu) [(1,a2 aq.1 av.2.2.2.1.length aq.2),(4,a2 bN.1 er.2.2.2.1.length bN.2)]⟩),(3,⟨bN.1,.row 43 (er.2.2.2.1:List ar) bN.2⟩),(8,⟨some b9,.var (er.2.2.2.2:bf)⟩)]) (none,0) (fun s2 r h bN=> ?_) fun bN=> ?_
  ·clear ao
   refine aF ?_
   refine bm eT ?_
   refine bO ?_
   refine cm h (fun h=>?_) fun h=>?_
   ·refine cW ?_
    refine ag.seq ?_
    refine ag.block ?_
    refine aF ?_
    obtain⟨fu,mR,h⟩:=aw h
    refine hU mR Tryz.underlying145 x8 ?_
    refine aY (dV x8) ?_
    refine c1 tz fun iY=> ?_
    refine cA 0 x8 ?_
    refine aK ?_
    obtain⟨c8,nk,h⟩:=aw h
    obtain⟨ia,nh,h⟩:=aw h
    obtain⟨eX,nm,h⟩:=aw h
    obtain⟨fV,p6,h⟩:=aw h
    refine iz [0,1,2,4,6,7,8,12,26,27,28,29,68,69,70,71,72,73] ?_
    refine ag.j8 mixed (a6 74 [] [] _ :: a6 75 (0 :: []) (3 :: []) _ :: a6 76 [] [] _ :: ⟨some 77,(2 :: []),(9 :: []),(9 :: []),fun _=>I.of (c8.1),fun hd _=>⟨some b9,.var (c8.2:bf)⟩⟩ :: a6 78 (3 :: []) [] _ :: a6 79 (4 :: []) [] _ :: a6 80 [] [] _ :: a6 81 (6 :: []) (0 :: []) _ :: a6 82 (5 :: 7 :: []) [] _ :: a6 83 (8 :: []) [] _ :: ⟨some 84,(1 :: 9 :: []),(4 :: []),(4 :: []),fun hd=>I.eq (a2 (hd 10 0) fV.length ((hd 10 1).getD 0)),fun hd _=>⟨(hd 10 0),.row 43 (fV:List ar) ((hd 10 1).getD 0)⟩⟩ :: a6 85 [] [] _ :: ⟨none,(1 :: 10 :: 11 :: []),(3 :: []),(3 :: []),fun _=>I.any,fun hd _=>⟨some cC,.b4 (({ s2.2.1 with iw:= [] } :bu):bu) [(1,a2 aq.1 av.2.2.2.1.length aq.2),(4,a2 (hd 10 0) fV.length ((hd 10 1).getD 0))]⟩⟩ :: []) _ (0 :: 1 :: 2 :: 4 :: 6 :: 7 :: 8 :: 12 :: 26 :: 27 :: 28 :: 29 :: 68 :: 69 :: 70 :: 71 :: 72 :: 73 :: []) rfl rfl (by kernel_rfl) ⟨fe (aT tq),b8 fun hd E' L' aB al=>ih (i:=3) (q:=1) (β:=bu) (γ:=ar) sb (ab (aB _ _ rfl)) (al 3 _ rfl rfl) rfl,e2,?_,fe (ij Tryz.underlying3 Tryz.underlying41),b8 fun hd E' L' aB al=>(c3 (b:=({ (default:ar) with bG:=BitVec.ofInt 64 c8.1 } :ar)) rfl ha ek (.cons ef rfl (ab (aB _ _ rfl)) rfl (.nil))).as (aI nh),fe (aT Vk),n6 0 zK bF,b8 fun hd E' L' aB al=>iG IY (GQ nm) ⟨ab (aB _ _ rfl),ab (aB _ _ rfl),trivial⟩,b8 fun hd E' L' aB al=>iI (r:= [eX]) Tryz.underlying48 bQ ek rfl rfl (.cons (by simp) (ab (aB _ _ rfl)) (.nil)),?_,fe (aT tq),?_,trivial⟩ fun pk=> ?_
    ·intro hd E' L' aB al
     refine ah.bz 9 (al 9 _ rfl rfl) ?_
     refine ah.lP (Lin:= [⟨some b9,.var (s2.2.2.2:bf)⟩]) (Lr:=L'.eraseIdx 9) gq (gl nk) ⟨ab (aB _ _ rfl),bP 256,trivial⟩ rfl fun l4=> ?_
     refine ah.nil ?_
     refine ae.back 9 (al 9 _ rfl rfl) ?_
     exact ae.fin (dY []) rfl rfl
    ·intro hd E' L' aB al
     refine ah.app (i:=4) Tryz.underlying48 bQ ek (bytes:=16) (by kernel_rfl) (ab (aB _ _ rfl)) (al 4 _ rfl rfl) (ab (aB _ _ rfl)) p6 rfl fun mP pU=> ?_
     refine ah.nil ?_
     exact ae.fin (dY [mP,some pU]) rfl rfl
    ·intro hd E' L' aB al
     refine ah.j6 (i:=3) (γ:=ar) (b':=(({ s2.2.1 with iw:= [] } :bu):bu)) (os':= [(1,a2 aq.1 av.2.2.2.1.length aq.2),(4,a2 (hd 10 0) fV.length ((hd 10 1).getD 0))]) ((aN.id bu).comp s0) sb (ab (aB _ _ rfl)) (ab (aB _ _ rfl)) jc (al 3 _ rfl rfl) rfl rfl rfl ?_
     refine ah.nil ?_
     exact ae.fin (dY []) rfl rfl
    refine ae.dR (L2:= [⟨some iY,.var (aE dg.kt fu:iF)⟩,⟨none,.row 43 (([]:List ar):List ar) 0⟩,⟨none,.row 88 (([]:List bV):List bV) 0⟩,⟨some cC,.b4 (({ s2.2.1 with iw:= [] } :bu):bu) [(1,a2 aq.1 av.2.2.2.1.length aq.2),(4,a2 (pk 10 0) fV.length ((pk 10 1).getD 0))]⟩,⟨(pk 10 0),.row 43 (fV:List ar) ((pk 10 1).getD 0)⟩,⟨aq.1,.row 88 (av.2.2.2.1:List bV) aq.2⟩,⟨some (da 9),.var (aE aj.b7 a8:bW)⟩,⟨some bc,.var ((default:bu):bu)⟩,⟨some aZ,.var (aj:a3)⟩,⟨some b9,.var (c8.2:bf)⟩]) rfl ?_
    refine jC [0,1,2,4,6,7,8,12,26,27,28,29,68,69,70,71,72,73,74,76,77,78,79,80,81,82,83,84,85] ?_
    refine ae.ea ?_
    refine ae.next ?_
    refine ag.cz ?_
    refine bm dI ?_
    refine aD ?_
    refine ah.nil ?_
    obtain rfl:=aI h
    exact gP ((pk 10 0),((pk 10 1).getD 0)) 1
   ·refine ag.exit ?_
    refine ae.exit ?_
    obtain rfl:=aI h
    exact eD (bN.1,bN.2) 0
  ·clear ao
   refine ae.fM ?_
   refine ae.next ?_
   refine aF ?_
   refine ah.lT (β:=bu) (γ:=bV) (b':=(({ aX.2.2.1 with bZ:=av.2.2.2.1 } :bu):bu)) ((aN.id bu).comp lh) 2 4 0 rfl rfl rfl rfl rfl rfl ?_
   refine ah.lT (β:=bu) (γ:=ar) (b':=(({ ({ aX.2.2.1 with bZ:=av.2.2.2.1 } :bu) with iw:=aX.2.2.2.1 } :bu):bu)) ((aN.id bu).comp s0) 2 3 0 rfl rfl rfl rfl rfl rfl ?_
   refine ah.pd 2 rfl ?_
   obtain⟨g7,ni,h⟩:=aw h
   refine dF ni (eA (i:=2) (aN.id bu) (r:=({ ({ aX.2.2.1 with bZ:=av.2.2.2.1 } :bu) with iw:=aX.2.2.2.1 } :bu)) hf (ab rfl) rfl rfl rfl) ?_
   refine cA 6 hf ?_
   refine aK ?_
   refine ag.ret ?_
   refine ae.bz 8 rfl ?_
   obtain rfl:=aI h
   exact ae.fi () (.cons_cons _ (List.nil_sublist _)) rfl rfl (ju (i:=7) hf rfl rfl)
theorem RR {aa:bf} {b9:Nat} {r:(List dK) × bf} (h:zy aa=some r):bM Tryz.prog 68 [I.eq (.pointer (some ⟨b9,0,none⟩))] [⟨some b9,.var (aa:bf)⟩] (δ:=Unit) (fun d=>I.of (r.1)) (fun d=> [⟨some b9,.var (r.2:bf)⟩]):=by
 unfold zy at h
 refine bM.of Tryz.func68 rfl Tryz.ntmps68 rfl fun W A=> ?_
 refine aF ?_
 refine bl (eB (look_nil (α:=dK))) ?_
 refine b0 ?_
 refine hX ([0,0,65535,3]:List Int) Tryz.underlying63 bF jD ?_
 refine aL ?_
 refine b0 ?_
 refine aD ?_
 refine aD ?_
 refine ah.bz 0 rfl ?_
 obtain⟨aG,bo,h⟩:=aw h
 refine eQ 1 gq (gl bo) fun az=> ?_
 obtain⟨a8,cE,h⟩:=aw h
 refine hU cE Tryz.underlying63 bF ?_
 refine aY (dV bF) ?_
 refine bl (qH (b:=({ (default:dK) with bX:=1,ig:=1,nI:=4,hk:=aE ([0,0,65535,3]:List Int) a8 } :dK)) [3] MZ rfl Ik vz (.cons GG rfl (bP 1) rfl (by rfl) (.cons Gm rfl (bP 1) rfl (by rfl) (.cons KU rfl (bP 4) rfl (by rfl) (.cons Gh rfl (ab rfl) rfl (by rfl) (.nil)))))) ?_
 refine ah.own (α:=gM) 195 ?_
 refine ah.pa (z:=(default:dK)) [3] MZ vz rfl fun aZ=> ?_
 refine ah.own (α:=gM) 195 ?_
 refine ah.rQ (i:=1) vA (ab rfl) (ab rfl) rfl ?_
 refine b0 ?_
 refine bl (c3 (b:=({ (default:ar) with bG:=1#64 } :ar)) rfl ha ek (.cons ef rfl (fK 1 rfl) rfl (.nil))) ?_
 refine bl (c3 (b:=({ (default:ar) with bG:=15#64 } :ar)) rfl ha ek (.cons ef rfl (fK 15 rfl) rfl (.nil))) ?_
 obtain⟨bE,dE,h⟩:=aw h
 refine dF dE (c3 (b:= { cI:=({ (default:ar) with bG:=1#64 } :ar),fL:=({ (default:ar) with bG:=15#64 } :ar),pM:=2:gM }) rfl EA tA (.cons Di rfl (ab rfl) rfl (.cons Dq rfl (ab rfl) rfl (.cons Dr rfl (bP 2) rfl (.nil))))) ?_
 refine bl (c3 (b:=({ (default:ar) with bG:=2#64 } :ar)) rfl ha ek (.cons ef rfl (fK 2 rfl) rfl (.nil))) ?_
 refine bl (c3 (b:=({ (default:ar) with bG:=3#64 } :ar)) rfl ha ek (.cons ef rfl (fK 3 rfl) rfl (.nil))) ?_
 obtain⟨dt,hD,h⟩:=aw h
 refine dF hD (c3 (b:= { cI:=({ (default:ar) with bG:=2#64 } :ar),fL:=({ (default:ar) with bG:=3#64 } :ar),pM:=3:gM }) rfl EA tA (.cons Di rfl (ab rfl) rfl (.cons Dq rfl (ab rfl) rfl (.cons Dr rfl (bP 3) rfl (.nil))))) ?_
 refine ah.q2 (α:=gM) (r:= [bE,dt]) Tryz.underlying191 EB tA rfl rfl (.cons (by simp) (ab rfl) (.cons (by simp) (ab rfl) (.nil))) rfl fun g3=> ?_
 refine aY (aT D5) ?_
 refine ah.j6 (i:=2) (γ:=gM) (b':=(({ ({ (default:dK) with bX:=1,ig:=1,nI:=4,hk:=aE ([0,0,65535,3]:List Int) a8 } :dK) with o6:= [] } :dK):dK)) (os':= [(3,a2 g3 [bE,dt].length 2)]) ((aN.id dK).comp Db) A9 (ab rfl) (ab rfl) jc rfl rfl rfl rfl ?_
 refine bO ?_
 refine aF ?_
 refine aD ?_
 refine ah.bz 4 rfl ?_
 obtain⟨aJ,cr,h⟩:=aw h
 refine eQ 1 n2 (nE cr) fun c7=> ?_
 refine aK ?_
 obtain⟨bp,ck,h⟩:=aw h
 refine jS (γ:=(Option Nat × Nat)) [0,2,3,4,23] (fun aq=> []) (fun aq=> [(0,⟨some b9,.var (bp.1:bf)⟩),(1,⟨aq.1,.row 195 (bp.2:List gM) aq.2⟩),(3,⟨some aZ,.b4 (({ ({ (default:dK) with bX:=1,ig:=1,nI:=4,hk:=aE ([0,0,65535,3]:List Int) a8 } :dK) with o6:= [] } :dK):dK) [(3,a2 aq.1 bp.2.length aq.2)]⟩)]) (fun aq=> ?_) (fun hm ak=> ?_) fun hm ak=> ?_
 ·clear ck
  refine ae.next ?_
  refine aF ?_
  refine aD ?_
  refine aD ?_
  refine ah.bz 0 rfl ?_
  obtain⟨bh,e7,h⟩:=aw h
  refine eQ 1 gq (gl e7) fun dZ=> ?_
  obtain⟨bY,cX,h⟩:=aw h
  refine hU cX Tryz.underlying63 bF ?_
  refine aY (dV bF) ?_
  obtain⟨fz,kD,h⟩:=aw h
  refine dF kD (c3 (b:=({ (default:dK) with bX:=2,ig:=2,hk:=aE ([0,0,65535,3]:List Int) bY } :dK)) rfl Ik vz (.cons GG rfl (bP 2) rfl (.cons Gm rfl (bP 2) rfl (.cons Gh rfl (ab rfl) rfl (.nil))))) ?_
  refine c1 vz fun bc=> ?_
  refine cA 0 vA ?_
  refine b0 ?_
  obtain⟨ia,nh,h⟩:=aw h
  refine dF nh (c3 (b:=({ (default:dK) with bX:=3,ig:=3,nI:=9,hk:=0 } :dK)) rfl Ik vz (.cons GG rfl (bP 3) rfl (.cons Gm rfl (bP 3) rfl (.cons KU rfl (bP 9) rfl (.cons Gh rfl (bP 0) rfl (.nil)))))) ?_
  refine c1 vz fun cC=> ?_
  refine cA 0 vA ?_
  refine bO ?_
  refine aF ?_
  refine aD ?_
  refine ah.bz 2 rfl ?_
  obtain⟨bn,fT,h⟩:=aw h
  refine eQ 1 gq (gl fT) fun l3=> ?_
  refine bm gN ?_
  refine aK ?_
  obtain⟨cP,eb,h⟩:=aw h
  refine jS (γ:=Unit) [0,2,3,4,5,6,23,50] (fun bd=> []) (fun bd=> [(0,⟨some b9,.var (cP.1:bf)⟩),(1,⟨some cC,.var (cP.2:dK)⟩)]) (fun bd=> ?_) (fun hm ak=> ?_) fun hm ak=> ?_
  ·clear eb
   refine ae.next ?_
   refine aF ?_
   refine ah.lT (β:=dK) (γ:=gM) (b':=(({ ({ (default:dK) with bX:=1,ig:=1,nI:=4,hk:=aE ([0,0,65535,3]:List Int) a8 } :dK) with o6:=bp.2 } :dK):dK)) ((aN.id dK).comp Db) 5 3 0 rfl rfl rfl rfl rfl rfl ?_
   refine ah.pd 5 rfl ?_
   obtain⟨g7,ni,h⟩:=aw h
   refine dF ni (eA (i:=5) (aN.id dK) (r:=({ ({ (default:dK) with bX:=1,ig:=1,nI:=4,hk:=aE ([0,0,65535,3]:List Int) a8 } :dK) with o6:=bp.2 } :dK)) vA (ab rfl) rfl rfl rfl) ?_
   refine cG 2 vA ?_
   refine cG 1 vA ?_
   refine hX [g7,fz,cP.2] Tryz.underlying26 vA vz ?_
   refine aL ?_
   refine aK ?_
   refine ag.ret ?_
   refine ae.bz 0 rfl ?_
   obtain rfl:=aI h
   exact mn ()
  ·have h:=gZ ak eb
   refine ag.cz ?_
   refine bl (c3 (b:=({ (default:ar) with bG:=5#64 } :ar)) rfl ha ek (.cons ef rfl (fK 5 rfl) rfl (.nil))) ?_
   refine bl (c3 (b:=({ (default:ar) with bG:=15#64 } :ar)) rfl ha ek (.cons ef rfl (fK 15 rfl) rfl (.nil))) ?_
   refine aD ?_
   refine ah.bz 0 rfl ?_
   obtain⟨cw,hV,h⟩:=aw h
   refine eQ 1 gq (gl hV) fun er=> ?_
   refine bm dI ?_
   obtain⟨jn,p3,h⟩:=aw h
   refine dF p3 (c3 (b:= { cI:=({ (default:ar) with bG:=5#64 } :ar),fL:=({ (default:ar) with bG:=15#64 } :ar),pM:=bq (1 + cw.1):gM }) rfl EA tA (.cons Di rfl (ab rfl) rfl (.cons Dq rfl (ab rfl) rfl (.cons Dr rfl (ab rfl) rfl (.nil))))) ?_
   refine hX [jn] Tryz.underlying191 EB tA ?_
   refine aY (aT D5) ?_
   refine sm 1 Db A9 ?_
   refine ah.nil ?_
   obtain rfl:=aI h
   exact dp 0 (hm ())
  ·have h:=g1 ak eb
   refine ag.skip ?_
   obtain rfl:=aI h
   exact dp 0 (hm ())
 ·have h:=gZ ak ck
  obtain⟨dg,hW,h⟩:=aw h
  obtain⟨jo,p4,h⟩:=aw h
  obtain⟨c8,nk,h⟩:=aw h
  obtain⟨cY,g4,h⟩:=aw h
  obtain⟨hN,sn,h⟩:=aw h
  obtain⟨eX,nm,h⟩:=aw h
  refine iz [0,2,3,4,7,8,9,10,11,12,13,14,15,16,17,18,19,20,21,22,23] ?_
  refine ag.j8 mixed (a6 24 [] [] _ :: a6 25 (0 :: []) (3 :: []) _ :: a6 26 [] [] _ :: ⟨some 27,(2 :: []),(0 :: []),(0 :: []),fun _=>I.of (dg.1),fun hd _=>⟨some b9,.var (dg.2:bf)⟩⟩ :: a6 28 (3 :: []) [] _ :: a6 29 (4 :: []) [] _ :: a6 30 (5 :: []) [] _ :: a6 31 [] [] _ :: a6 32 [] [] _ :: a6 33 [] [] _ :: ⟨some 34,(3 :: 9 :: []),(0 :: []),(0 :: []),fun _=>I.of (c8.1),fun hd _=>⟨some b9,.var (c8.2:bf)⟩⟩ :: a6 35 (8 :: 10 :: []) [] _ :: a6 36 (11 :: []) [] _ :: a6 37 (6 :: 7 :: 12 :: []) [] _ :: a6 38 (13 :: []) [] _ :: ⟨some 39,(1 :: 14 :: []),(1 :: []),(1 :: []),fun hd=>I.eq (a2 (hd 15 0) eX.length ((hd 15 1).getD 0)),fun hd _=>⟨(hd 15 0),.row 195 (eX:List gM) ((hd 15 1).getD 0)⟩⟩ :: a6 40 [] [] _ :: ⟨none,(1 :: 15 :: 16 :: []),(3 :: []),(3 :: []),fun _=>I.any,fun hd _=>⟨some aZ,.b4 (({ ({ (default:dK) with bX:=1,ig:=1,nI:=4,hk:=aE ([0,0,65535,3]:List Int) a8 } :dK) with o6:= [] } :dK):dK) [(3,a2 (hd 15 0) eX.length ((hd 15 1).getD 0))]⟩⟩ :: []) _ (0 :: 2 :: 3 :: 4 :: 7 :: 8 :: 9 :: 10 :: 11 :: 12 :: 13 :: 14 :: 15 :: 16 :: 17 :: 18 :: 19 :: 20 :: 21 :: 22 :: 23 :: []) rfl rfl (by kernel_rfl) ⟨fe (aT D5),b8 fun hd E' L' aB al=>ih (i:=3) (q:=0) (β:=dK) (γ:=gM) A9 (ab (aB _ _ rfl)) (al 3 _ rfl rfl) rfl,e2,?_,ur Xc,fe (ij Tryz.underlying3 Tryz.underlying41),b8 fun hd E' L' aB al=>(c3 (b:=({ (default:ar) with bG:=BitVec.ofInt 64 (bq (8 * dg.1)) } :ar)) rfl ha ek (.cons ef rfl (ab (aB _ _ rfl)) rfl (.nil))).as (aI p4),b8 fun hd E' L' aB al=>c3 (b:=({ (default:ar) with bG:=8#64 } :ar)) rfl ha ek (.cons ef rfl (fK 8 rfl) rfl (.nil)),e2,e2,?_,b8 fun hd E' L' aB al=>qU (k:=cY) Tryz.underlying63 bF (ab (aB _ _ rfl)) (ab (aB _ _ rfl)) (cL g4),fe (dV bF),b8 fun hd E' L' aB al=>(c3 (b:= { cI:=jo,fL:=({ (default:ar) with bG:=8#64 } :ar),pM:=aE ([0,0,65535,3]:List Int) cY:gM }) rfl EA tA (.cons Di rfl (ab (aB _ _ rfl)) rfl (.cons Dq rfl (ab (aB _ _ rfl)) rfl (.cons Dr rfl (ab (aB _ _ rfl)) rfl (.nil))))).as (aI sn),b8 fun hd E' L' aB al=>iI (r:= [hN]) Tryz.underlying191 EB tA rfl rfl (.cons (by simp) (ab (aB _ _ rfl)) (.nil)),?_,fe (aT D5),?_,trivial⟩ fun eP=> ?_
  ·intro hd E' L' aB al
   refine ah.bz 0 (al 0 _ rfl rfl) ?_
   refine ah.lP (Lin:= [⟨some b9,.var (aJ.2:bf)⟩]) (Lr:=L'.eraseIdx 0) gq (gl hW) ⟨ab (aB _ _ rfl),bP 2,trivial⟩ rfl fun l4=> ?_
   refine ah.nil ?_
   refine ae.back 0 (al 0 _ rfl rfl) ?_
   exact ae.fin (dY []) rfl rfl
  ·intro hd E' L' aB al
   refine ah.bz 0 (al 0 _ rfl rfl) ?_
   refine ah.lP (Lin:= [⟨some b9,.var (dg.2:bf)⟩]) (Lr:=L'.eraseIdx 0) gq (gl nk) ⟨ab (aB _ _ rfl),bP 4,trivial⟩ rfl fun ob=> ?_
   refine ah.nil ?_
   refine ae.back 0 (al 0 _ rfl rfl) ?_
   exact ae.fin (dY []) rfl rfl
  ·intro hd E' L' aB al
   refine ah.app (i:=1) Tryz.underlying191 EB tA (bytes:=40) (by kernel_rfl) (ab (aB _ _ rfl)) (al 1 _ rfl rfl) (ab (aB _ _ rfl)) nm rfl fun mP fC=> ?_
   refine ah.nil ?_
   exact ae.fin (dY [mP,some fC]) rfl rfl
  ·intro hd E' L' aB al
   refine ah.j6 (i:=3) (γ:=gM) (b':=(({ ({ (default:dK) with bX:=1,ig:=1,nI:=4,hk:=aE ([0,0,65535,3]:List Int) a8 } :dK) with o6:= [] } :dK):dK)) (os':= [(3,a2 (hd 15 0) eX.length ((hd 15 1).getD 0))]) ((aN.id dK).comp Db) A9 (ab (aB _ _ rfl)) (ab (aB _ _ rfl)) jc (al 3 _ rfl rfl) rfl rfl rfl ?_
   refine ah.nil ?_
   exact ae.fin (dY []) rfl rfl
  refine ae.dR (L2:= [⟨some b9,.var (c8.2:bf)⟩,⟨(eP 15 0),.row 195 (eX:List gM) ((eP 15 1).getD 0)⟩,⟨none,.row 195 (([]:List gM):List gM) 0⟩,⟨some aZ,.b4 (({ ({ (default:dK) with bX:=1,ig:=1,nI:=4,hk:=aE ([0,0,65535,3]:List Int) a8 } :dK) with o6:= [] } :dK):dK) [(3,a2 (eP 15 0) eX.length ((eP 15 1).getD 0))]⟩,⟨none,.row 195 (([]:List gM):List gM) 0⟩]) rfl ?_
  refine jC [0,2,3,4,7,8,9,10,11,12,13,14,15,16,17,18,19,21,22,23,24,26,27,28,29,30,31,32,33,34,35,36,37,38,39,40] ?_
  obtain rfl:=aI h
  exact dp 0 (hm ((eP 15 0),((eP 15 1).getD 0)))
 ·have h:=g1 ak ck
  refine ag.skip ?_
  obtain rfl:=aI h
  exact dp 0 (hm (g3,2))
theorem RH {aa:bf} {b9:Nat} {r:(List dT) × bf} (h:zr aa=some r):bM Tryz.prog 69 [I.eq (.pointer (some ⟨b9,0,none⟩))] [⟨some b9,.var (aa:bf)⟩] (δ:=Unit) (fun d=>I.of (r.1)) (fun d=> [⟨some b9,.var (r.2:bf)⟩]):=by
 unfold zr at h
 refine bM.of Tryz.func69 rfl Tryz.ntmps69 rfl fun W A=> ?_
 refine aF ?_
 refine bl (eB (look_nil (α:=dT))) ?_
 refine b0 ?_
 refine hC EC Ba ({ (default:fI) with cN:=3 } :fI) (iK C9 .nil) ?_
 refine c1 Ba fun aZ=> ?_
 refine cA 0 ED ?_
 refine bO ?_
 obtain⟨bE,dE,h⟩:=aw h
 obtain⟨dt,hD,h⟩:=aw h
 obtain⟨fz,kD,h⟩:=aw h
 obtain⟨ia,nh,h⟩:=aw h
 obtain⟨g7,ni,h⟩:=aw h
 obtain⟨jn,p3,h⟩:=aw h
 obtain⟨jo,p4,h⟩:=aw h
 obtain⟨hN,sn,h⟩:=aw h
 obtain⟨l5,wj,h⟩:=aw h
 obtain⟨lx,vR,h⟩:=aw h
 obtain⟨k1,vS,h⟩:=aw h
 obtain⟨mo,vV,h⟩:=aw h
 obtain⟨k2,Br,h⟩:=aw h
 obtain⟨aG,bo,h⟩:=aw h
 obtain⟨ly,Bs,h⟩:=aw h
 obtain⟨aJ,cr,h⟩:=aw h
 obtain⟨oI,Bt,h⟩:=aw h
 obtain⟨pn,Bu,h⟩:=aw h
 obtain⟨nn,I0,h⟩:=aw h
 refine ag.pg 1 ?_
 refine iz [0,2,3,5] ?_
 refine ag.j8 mixed (a6 6 [] [] _ :: a6 7 [] [] _ :: a6 8 (1 :: []) [] _ :: a6 9 (2 :: []) [] _ :: a6 10 [] [] _ :: a6 11 (4 :: []) [] _ :: a6 12 [] (0 :: []) _ :: a6 13 (6 :: []) [] _ :: a6 14 (7 :: []) [] _ :: a6 15 (5 :: 8 :: []) [] _ :: a6 16 [] [] _ :: a6 17 (10 :: []) [] _ :: a6 18 [] (0 :: []) _ :: a6 19 (12 :: []) [] _ :: a6 20 [] [] _ :: a6 21 (14 :: []) [] _ :: a6 22 (13 :: 15 :: []) [] _ :: a6 23 (11 :: 16 :: []) [] _ :: a6 24 [] [] _ :: a6 25 [] [] _ :: a6 26 (18 :: 19 :: []) [] _ :: a6 27 [] [] _ :: a6 28 [] (0 :: []) _ :: a6 29 (22 :: []) [] _ :: a6 30 [] [] _ :: a6 31 (24 :: []) [] _ :: a6 32 (21 :: 23 :: 25 :: []) [] _ :: a6 33 (20 :: 26 :: []) [] _ :: a6 34 [] [] _ :: ⟨some 35,(28 :: []),(1 :: []),(1 :: []),fun _=>I.of (aG.1),fun hd _=>⟨some b9,.var (aG.2:bf)⟩⟩ :: a6 36 (29 :: []) [] _ :: a6 37 (30 :: []) [] _ :: a6 38 [] [] _ :: ⟨some 39,(29 :: 32 :: []),(1 :: []),(1 :: []),fun _=>I.of (aJ.1),fun hd _=>⟨some b9,.var (aJ.2:bf)⟩⟩ :: a6 40 (33 :: []) [] _ :: a6 41 (34 :: []) [] _ :: a6 42 (35 :: []) [] _ :: a6 43 (36 :: []) [] _ :: a6 44 (31 :: 37 :: []) [] _ :: a6 45 (38 :: []) [] _ :: ⟨some 46,(0 :: 3 :: 9 :: 17 :: 27 :: 39 :: []),(2 :: []),(2 :: []),fun hd=>I.eq (a2 (hd 40 0) [bE,dt,g7,hN,k2,nn].length 6),fun hd _=>⟨(hd 40 0),.row 148 ([bE,dt,g7,hN,k2,nn]:List dT) 6⟩⟩ :: ⟨some 4,(40 :: []),[],[],fun hd=>I.eq (a2 (hd 40 0) [bE,dt,g7,hN,k2,nn].length 6),fun _ _=>⟨none,.dead⟩⟩ :: []) _ (0 :: 2 :: 3 :: 5 :: []) rfl rfl (by kernel_rfl) ⟨b8 fun hd E' L' aB al=>(c3 (b:=({ (default:dT) with bX:=1,cn:=ByteArray.mk #[110,111,112] } :dT)) rfl vx qT (.cons uF rfl (bP 1) rfl (.cons xd rfl (dL (ByteArray.mk #[110,111,112])) rfl (.nil)))).as (aI dE),b8 fun hd E' L' aB al=>c3 (b:=({ (default:fb) with iq:=6 } :fb)) rfl rZ nU (.cons rA rfl (bP 6) rfl (.nil)),b8 fun hd E' L' aB al=>iI (r:= [({ (default:fb) with iq:=6 } :fb)]) Tryz.underlying146 Bb nU rfl rfl (.cons (by simp) (ab (aB _ _ rfl)) (.nil)),b8 fun hd E' L' aB al=>(c3 (b:=({ (default:dT) with bX:=2,cn:=ByteArray.mk #[100,114,111,112],oz:= [({ (default:fb) with iq:=6 } :fb)] } :dT)) rfl vx qT (.cons uF rfl (bP 2) rfl (.cons xd rfl (dL (ByteArray.mk #[100,114,111,112])) rfl (.cons zz rfl (ab (aB _ _ rfl)) rfl (.nil))))).as (aI hD),b8 fun hd E' L' aB al=>(c3 (b:= { cn:=ByteArray.mk #[112,111,114,116],fq:=16:iF }) rfl EE tz (.cons Dj rfl (dL (ByteArray.mk #[112,111,114,116])) rfl (.cons zK rfl (bP 16) rfl (.nil)))).as (aI kD),b8 fun hd E' L' aB al=>iI (r:= [fz]) Tryz.underlying145 x8 tz rfl rfl (.cons (by simp) (ab (aB _ _ rfl)) (.nil)),lW 0 ED,b8 fun hd E' L' aB al=>(c3 (b:=({ (default:fb) with iq:=7,kV:=({ (default:fI) with cN:=3 } :fI) } :fb)) rfl rZ nU (.cons rA rfl (bP 7) rfl (.cons xm rfl (ab (aB _ _ rfl)) rfl (.nil)))).as (aI nh),b8 fun hd E' L' aB al=>iI (r:= [ia]) Tryz.underlying146 Bb nU rfl rfl (.cons (by simp) (ab (aB _ _ rfl)) (.nil)),b8 fun hd E' L' aB al=>(c3 (b:=({ (default:dT) with bX:=3,cn:=ByteArray.mk #[102,111,114,119,97,114,100],kt:= [fz],oz:= [ia] } :dT)) rfl vx qT (.cons uF rfl (bP 3) rfl (.cons xd rfl (dL (ByteArray.mk #[102,111,114,119,97,114,100])) rfl (.cons C6 rfl (ab (aB _ _ rfl)) rfl (.cons zz rfl (ab (aB _ _ rfl)) rfl (.nil)))))).as (aI ni),b8 fun hd E' L' aB al=>c3 (b:= { cn:=ByteArray.mk #[120],fq:=4:iF }) rfl EE tz (.cons Dj rfl (dL (ByteArray.mk #[120])) rfl (.cons zK rfl (bP 4) rfl (.nil))),b8 fun hd E' L' aB al=>iI (r:= [{ cn:=ByteArray.mk #[120],fq:=4:iF }]) Tryz.underlying145 x8 tz rfl rfl (.cons (by simp) (ab (aB _ _ rfl)) (.nil)),lW 0 ED,b8 fun hd E' L' aB al=>(c3 (b:= { iq:=1,jQ:=5,kV:=({ (default:fI) with cN:=3 } :fI):fb }) rfl rZ nU (.cons rA rfl (bP 1) rfl (.cons uH rfl (bP 5) rfl (.cons xm rfl (ab (aB _ _ rfl)) rfl (.nil))))).as (aI p3),b8 fun hd E' L' aB al=>(c3 (b:=({ (default:fI) with cN:=2,wk:=5 } :fI)) rfl EC Ba (.cons C9 rfl (bP 2) rfl (.cons K3 rfl (bP 5) rfl (.nil)))).as (aI p4),b8 fun hd E' L' aB al=>c3 (b:= { iq:=2,jQ:=3,kV:=jo:fb }) rfl rZ nU (.cons rA rfl (bP 2) rfl (.cons uH rfl (bP 3) rfl (.cons xm rfl (ab (aB _ _ rfl)) rfl (.nil)))),b8 fun hd E' L' aB al=>iI (r:= [jn,{ iq:=2,jQ:=3,kV:=jo:fb }]) Tryz.underlying146 Bb nU rfl rfl (.cons (by simp) (ab (aB _ _ rfl)) (.cons (by simp) (ab (aB _ _ rfl)) (.nil))),b8 fun hd E' L' aB al=>(c3 (b:=({ (default:dT) with bX:=4,cn:=ByteArray.mk #[116,97,103],kt:= [{ cn:=ByteArray.mk #[120],fq:=4:iF }],oz:= [jn,{ iq:=2,jQ:=3,kV:=jo:fb }] } :dT)) rfl vx qT (.cons uF rfl (bP 4) rfl (.cons xd rfl (dL (ByteArray.mk #[116,97,103])) rfl (.cons C6 rfl (ab (aB _ _ rfl)) rfl (.cons zz rfl (ab (aB _ _ rfl)) rfl (.nil)))))).as (aI sn),b8 fun hd E' L' aB al=>c3 (b:= { cn:=ByteArray.mk #[120],fq:=4:iF }) rfl EE tz (.cons Dj rfl (dL (ByteArray.mk #[120])) rfl (.cons zK rfl (bP 4) rfl (.nil))),b8 fun hd E' L' aB al=>c3 (b:= { cn:=ByteArray.mk #[121],fq:=12:iF }) rfl EE tz (.cons Dj rfl (dL (ByteArray.mk #[121])) rfl (.cons zK rfl (bP 12) rfl (.nil))),b8 fun hd E' L' aB al=>(iI (r:= [{ cn:=ByteArray.mk #[120],fq:=4:iF },{ cn:=ByteArray.mk #[121],fq:=12:iF }]) Tryz.underlying145 x8 tz rfl rfl (.cons (by simp) (ab (aB _ _ rfl)) (.cons (by simp) (ab (aB _ _ rfl)) (.nil)))).as (aI wj),b8 fun hd E' L' aB al=>c3 (b:=({ (default:fb) with iq:=4,jQ:=3 } :fb)) rfl rZ nU (.cons rA rfl (bP 4) rfl (.cons uH rfl (bP 3) rfl (.nil))),lW 0 ED,b8 fun hd E' L' aB al=>(c3 (b:= { iq:=1,jQ:=9,kV:=({ (default:fI) with cN:=3 } :fI):fb }) rfl rZ nU (.cons rA rfl (bP 1) rfl (.cons uH rfl (bP 9) rfl (.cons xm rfl (ab (aB _ _ rfl)) rfl (.nil))))).as (aI vR),b8 fun hd E' L' aB al=>(c3 (b:=({ (default:fI) with cN:=3,wk:=1 } :fI)) rfl EC Ba (.cons C9 rfl (bP 3) rfl (.cons K3 rfl (bP 1) rfl (.nil)))).as (aI vS),b8 fun hd E' L' aB al=>c3 (b:= { iq:=3,jQ:=8,kV:=k1:fb }) rfl rZ nU (.cons rA rfl (bP 3) rfl (.cons uH rfl (bP 8) rfl (.cons xm rfl (ab (aB _ _ rfl)) rfl (.nil)))),b8 fun hd E' L' aB al=>(iI (r:= [({ (default:fb) with iq:=4,jQ:=3 } :fb),lx,{ iq:=3,jQ:=8,kV:=k1:fb }]) Tryz.underlying146 Bb nU rfl rfl (.cons (by simp) (ab (aB _ _ rfl)) (.cons (by simp) (ab (aB _ _ rfl)) (.cons (by simp) (ab (aB _ _ rfl)) (.nil))))).as (aI vV),b8 fun hd E' L' aB al=>(c3 (b:=({ (default:dT) with bX:=5,cn:=ByteArray.mk #[119,114,97,112],kt:=l5,oz:=mo } :dT)) rfl vx qT (.cons uF rfl (bP 5) rfl (.cons xd rfl (dL (ByteArray.mk #[119,114,97,112])) rfl (.cons C6 rfl (ab (aB _ _ rfl)) rfl (.cons zz rfl (ab (aB _ _ rfl)) rfl (.nil)))))).as (aI Br),e2,?_,ur dI,b8 fun hd E' L' aB al=>(c3 (b:=({ (default:fb) with iq:=5,jQ:=bq (2 + aG.1) } :fb)) rfl rZ nU (.cons rA rfl (bP 5) rfl (.cons uH rfl (ab (aB _ _ rfl)) rfl (.nil)))).as (aI Bs),e2,?_,fe (ij Tryz.underlying3 Tryz.underlying41),b8 fun hd E' L' aB al=>(c3 (b:=({ (default:ar) with bG:=BitVec.ofInt 64 aJ.1 } :ar)) rfl ha ek (.cons ef rfl (ab (aB _ _ rfl)) rfl (.nil))).as (aI Bt),b8 fun hd E' L' aB al=>(c3 (b:=({ (default:fI) with cN:=1,cI:=oI } :fI)) rfl EC Ba (.cons C9 rfl (bP 1) rfl (.cons Rw rfl (ab (aB _ _ rfl)) rfl (.nil)))).as (aI Bu),b8 fun hd E' L' aB al=>c3 (b:= { iq:=2,jQ:=6,kV:=pn:fb }) rfl rZ nU (.cons rA rfl (bP 2) rfl (.cons uH rfl (bP 6) rfl (.cons xm rfl (ab (aB _ _ rfl)) rfl (.nil)))),b8 fun hd E' L' aB al=>iI (r:= [ly,{ iq:=2,jQ:=6,kV:=pn:fb }]) Tryz.underlying146 Bb nU rfl rfl (.cons (by simp) (ab (aB _ _ rfl)) (.cons (by simp) (ab (aB _ _ rfl)) (.nil))),b8 fun hd E' L' aB al=>(c3 (b:=({ (default:dT) with bX:=6,cn:=ByteArray.mk #[115,116,114,105,112],oz:= [ly,{ iq:=2,jQ:=6,kV:=pn:fb }] } :dT)) rfl vx qT (.cons uF rfl (bP 6) rfl (.cons xd rfl (dL (ByteArray.mk #[115,116,114,105,112])) rfl (.cons zz rfl (ab (aB _ _ rfl)) rfl (.nil))))).as (aI I0),?_,?_,trivial⟩ fun eP=> ?_
 ·intro hd E' L' aB al
  refine ah.bz 1 (al 1 _ rfl rfl) ?_
  refine ah.lP (Lin:= [⟨some b9,.var (aa:bf)⟩]) (Lr:=L'.eraseIdx 1) gq (gl bo) ⟨ab (aB _ _ rfl),bP 2,trivial⟩ rfl fun az=> ?_
  refine ah.nil ?_
  refine ae.back 1 (al 1 _ rfl rfl) ?_
  exact ae.fin (dY []) rfl rfl
 ·intro hd E' L' aB al
  refine ah.bz 1 (al 1 _ rfl rfl) ?_
  refine ah.lP (Lin:= [⟨some b9,.var (aG.2:bf)⟩]) (Lr:=L'.eraseIdx 1) gq (gl cr) ⟨ab (aB _ _ rfl),bP 256,trivial⟩ rfl fun c7=> ?_
  refine ah.nil ?_
  refine ae.back 1 (al 1 _ rfl rfl) ?_
  exact ae.fin (dY []) rfl rfl
 ·intro hd E' L' aB al
  refine ah.q2 (α:=dT) (r:= [bE,dt,g7,hN,k2,nn]) Tryz.underlying27 pQ qT rfl rfl (.cons (by simp) (ab (aB _ _ rfl)) (.cons (by simp) (ab (aB _ _ rfl)) (.cons (by simp) (ab (aB _ _ rfl)) (.cons (by simp) (ab (aB _ _ rfl)) (.cons (by simp) (ab (aB _ _ rfl)) (.cons (by simp) (ab (aB _ _ rfl)) (.nil))))))) rfl fun g3=> ?_
  refine ah.nil ?_
  refine ae.place 2 (al 2 _ rfl rfl) ?_
  exact ae.fin (dY [g3]) rfl rfl
 ·intro hd E' L' aB al
  refine bl (eB (ab (aB _ _ rfl))) ?_
  refine ah.nil ?_
  exact ae.fin (dY []) rfl rfl
 refine ae.dR (L2:= [⟨some aZ,.var (({ (default:fI) with cN:=3 } :fI):fI)⟩,⟨some b9,.var (aJ.2:bf)⟩,⟨(eP 40 0),.row 148 ([bE,dt,g7,hN,k2,nn]:List dT) 6⟩]) rfl ?_
 refine jC [0,2,3,4,5,6,7,8,9,10,11,12,13,14,15,16,17,18,19,20,21,22,23,24,25,26,27,28,29,30,31,32,33,34,35,36,37,38,39,40,41,42,43,44,45,46] ?_
 refine ae.bz 2 rfl ?_
 refine ae.next ?_
 refine ag.seq ?_
 refine aF ?_
 refine aD ?_
 refine ah.bz 2 rfl ?_
 obtain⟨bh,e7,h⟩:=aw h
 refine eQ 1 n2 (nE e7) fun dZ=> ?_
 refine aK ?_
 obtain⟨bp,ck,h⟩:=aw h
 refine jS (γ:=(Option Nat × Nat)) [0,2,3,48] (fun aq=> [(4,I.eq (a2 aq.1 bp.length aq.2))]) (fun aq=> [(1,⟨aq.1,.row 148 (bp:List dT) aq.2⟩)]) (fun aq=> ?_) (fun hm ak=> ?_) fun hm ak=> ?_
 ·clear ck
  refine ae.next ?_
  refine ag.seq ?_
  refine aF ?_
  refine aD ?_
  refine ah.bz 0 rfl ?_
  obtain⟨bn,fT,h⟩:=aw h
  refine eQ 1 n2 (nE fT) fun l3=> ?_
  refine aK ?_
  obtain⟨cP,eb,h⟩:=aw h
  refine jS (γ:=(Option Nat × Nat)) [0,2,3,48,53] (fun bd=> [(4,I.eq (a2 bd.1 cP.length bd.2))]) (fun bd=> [(1,⟨bd.1,.row 148 (cP:List dT) bd.2⟩)]) (fun bd=> ?_) (fun hm ak=> ?_) fun hm ak=> ?_
  ·clear eb
   refine ae.next ?_
   refine aF ?_
   refine aD ?_
   refine aL ?_
   refine aK ?_
   refine ag.ret ?_
   refine ae.m7 (α:=dT) 1 [2,4,57] ⟨rfl,rfl,rfl,trivial⟩ rfl ?_
   refine ae.bz 0 rfl ?_
   obtain rfl:=aI h
   exact mn ()
  ·have h:=gZ ak eb
   refine ag.cz ?_
   refine aD ?_
   obtain⟨a8,cE,h⟩:=aw h
   refine bl (lp (i:=1) (k:=a8) (xs:=(bp:List dT)) Tryz.underlying27 pQ (ab rfl) (bP 4) rfl (cL cE)) ?_
   refine aY (aT M0) ?_
   obtain⟨so,Bv,h⟩:=aw h
   refine ah.vj (i:=1) (k:=a8) ((aN.id dT).comp KN) (v:=(ByteArray.mk #[120,32,60,32,121,32,124,124,32,120,32,61,61,32,49,53]:ByteArray)) (r:=(so:List dT)) p7 (ab rfl) (dL (ByteArray.mk #[120,32,60,32,121,32,124,124,32,120,32,61,61,32,49,53])) rfl (cL cE).1 rfl (aI Bv) ?_
   refine ah.ik (m:=so.length) 4 rfl (j3 (aI Bv)) ?_
   refine ah.ik (m:=so.length) 54 rfl (j3 (aI Bv)) ?_
   refine ah.nil ?_
   obtain rfl:=aI h
   exact dp 0 (hm (aq.1,aq.2))
  ·have h:=g1 ak eb
   refine ag.skip ?_
   obtain rfl:=aI h
   exact dp 0 (hm (aq.1,aq.2))
 ·have h:=gZ ak ck
  refine ag.cz ?_
  refine aD ?_
  obtain⟨bY,cX,h⟩:=aw h
  refine bl (lp (i:=1) (k:=bY) (xs:=([bE,dt,g7,hN,k2,nn]:List dT)) Tryz.underlying27 pQ (ab rfl) (bP 2) rfl (cL cX)) ?_
  refine aY (aT M0) ?_
  obtain⟨q7,yn,h⟩:=aw h
  refine ah.vj (i:=1) (k:=bY) ((aN.id dT).comp KN) (v:=(ByteArray.mk #[112,111,114,116,32,33,61,32,48]:ByteArray)) (r:=(q7:List dT)) p7 (ab rfl) (dL (ByteArray.mk #[112,111,114,116,32,33,61,32,48])) rfl (cL cX).1 rfl (aI yn) ?_
  refine ah.ik (m:=q7.length) 4 rfl (j3 (aI yn)) ?_
  refine ah.ik (m:=q7.length) 46 rfl (j3 (aI yn)) ?_
  refine ah.ik (m:=q7.length) 49 rfl (j3 (aI yn)) ?_
  refine ah.nil ?_
  obtain rfl:=aI h
  exact dp 0 (hm ((eP 40 0),6))
 ·have h:=g1 ak ck
  refine ag.skip ?_
  obtain rfl:=aI h
  exact dp 0 (hm ((eP 40 0),6))
theorem RS {aa:bf} {b9:Nat} {r:(List bW) × bf} (h:zA aa=some r):bM Tryz.prog 70 [I.eq (.pointer (some ⟨b9,0,none⟩))] [⟨some b9,.var (aa:bf)⟩] (δ:=Unit) (fun d=>I.of (r.1)) (fun d=> [⟨some b9,.var (r.2:bf)⟩]):=by
 unfold zA at h
 refine bM.of Tryz.func70 rfl Tryz.ntmps70 rfl fun W A=> ?_
 refine aF ?_
 refine bl (eB (look_nil (α:=bW))) ?_
 refine b0 ?_
 obtain⟨bE,dE,h⟩:=aw h
 refine dF dE (c3 (b:= { cn:=ByteArray.mk #[97],gW:=4,cN:=1:cH }) rfl sc ka (.cons rz rfl (dL (ByteArray.mk #[97])) rfl (.cons o0 rfl (bP 4) rfl (.cons m4 rfl (bP 1) rfl (.nil))))) ?_
 refine hX [bE] Tryz.underlying62 jw ka ?_
 refine hX ([1,2,4]:List Int) Tryz.underlying63 bF jD ?_
 refine aD ?_
 refine ah.bz 0 rfl ?_
 obtain⟨aG,bo,h⟩:=aw h
 refine eQ 1 gq (gl bo) fun az=> ?_
 refine bm dI ?_
 refine aD ?_
 refine ah.bz 0 rfl ?_
 obtain⟨aJ,cr,h⟩:=aw h
 refine eQ 1 gq (gl cr) fun c7=> ?_
 refine bm dI ?_
 obtain⟨dt,hD,h⟩:=aw h
 refine dF hD (c3 (b:=({ (default:bW) with bX:=1,cn:=ByteArray.mk #[112,111,114,116,115],cl:= [bE],dU:=([1,2,4]:List Int),hk:=bq (1 + aG.1),iQ:=bq (2 + aJ.1) } :bW)) rfl Bw mO (.cons pG rfl (bP 1) rfl (.cons Dk rfl (dL (ByteArray.mk #[112,111,114,116,115])) rfl (.cons kQ rfl (ab rfl) rfl (.cons w9 rfl (ab rfl) rfl (.cons C7 rfl (ab rfl) rfl (.cons Dl rfl (ab rfl) rfl (.nil)))))))) ?_
 refine c1 mO fun aZ=> ?_
 refine cA 0 hn ?_
 refine b0 ?_
 obtain⟨fz,kD,h⟩:=aw h
 refine dF kD (c3 (b:= { cn:=ByteArray.mk #[100],gW:=7,cN:=2:cH }) rfl sc ka (.cons rz rfl (dL (ByteArray.mk #[100])) rfl (.cons o0 rfl (bP 7) rfl (.cons m4 rfl (bP 2) rfl (.nil))))) ?_
 refine ah.q2 (α:=cH) (r:= [fz]) Tryz.underlying62 jw ka rfl rfl (.cons (by simp) (ab rfl) (.nil)) rfl fun g3=> ?_
 refine hX ([1,2,3,4]:List Int) Tryz.underlying63 bF jD ?_
 refine aD ?_
 refine ah.bz 2 rfl ?_
 obtain⟨bh,e7,h⟩:=aw h
 refine eQ 1 gq (gl e7) fun dZ=> ?_
 refine bm dI ?_
 refine bl (qH (b:=({ (default:bW) with bX:=2,cn:=ByteArray.mk #[114,111,117,116,101,115],dU:=([1,2,3,4]:List Int),hk:=2,iQ:=bq (3 + bh.1) } :bW)) [] HV rfl Bw mO (.cons pG rfl (bP 2) rfl (by rfl) (.cons Dk rfl (dL (ByteArray.mk #[114,111,117,116,101,115])) rfl (by rfl) (.hole kQ rfl (ab rfl) jc rfl rfl (.cons w9 rfl (ab rfl) rfl (by rfl) (.cons C7 rfl (bP 2) rfl (by rfl) (.cons Dl rfl (ab rfl) rfl (by rfl) (.nil)))))))) ?_
 refine ah.pa (z:=(default:bW)) [2] HW mO rfl fun bc=> ?_
 refine ah.own (α:=cH) 86 ?_
 refine ah.rQ (i:=1) hn (ab rfl) (ab rfl) rfl ?_
 refine bO ?_
 refine aF ?_
 refine aD ?_
 refine ah.bz 2 rfl ?_
 obtain⟨bn,fT,h⟩:=aw h
 refine eQ 1 n2 (nE fT) fun l3=> ?_
 refine aK ?_
 obtain⟨bp,ck,h⟩:=aw h
 refine jS (γ:=(Option Nat × Nat)) [0,2,3,4,28] (fun aq=> []) (fun aq=> [(2,⟨some bc,.b4 (bp.1:bW) [(2,a2 aq.1 bp.2.length aq.2)]⟩),(3,⟨aq.1,.row 86 (bp.2:List cH) aq.2⟩)]) (fun aq=> ?_) (fun hm ak=> ?_) fun hm ak=> ?_
 ·clear ck
  refine ae.next ?_
  refine aF ?_
  obtain⟨ia,nh,h⟩:=aw h
  refine dF nh (c3 (b:= { cn:=ByteArray.mk #[101],gW:=6,cN:=3:cH }) rfl sc ka (.cons rz rfl (dL (ByteArray.mk #[101])) rfl (.cons o0 rfl (bP 6) rfl (.cons m4 rfl (bP 3) rfl (.nil))))) ?_
  obtain⟨g7,ni,h⟩:=aw h
  refine dF ni (c3 (b:= { cn:=ByteArray.mk #[97],gW:=4,cN:=3:cH }) rfl sc ka (.cons rz rfl (dL (ByteArray.mk #[97])) rfl (.cons o0 rfl (bP 4) rfl (.cons m4 rfl (bP 3) rfl (.nil))))) ?_
  refine ah.q2 (α:=cH) (r:= [ia,g7]) Tryz.underlying62 jw ka rfl rfl (.cons (by simp) (ab rfl) (.cons (by simp) (ab rfl) (.nil))) rfl fun mP=> ?_
  refine hX ([1,2,3,5,6]:List Int) Tryz.underlying63 bF jD ?_
  refine aD ?_
  refine ah.bz 1 rfl ?_
  obtain⟨cw,hV,h⟩:=aw h
  refine eQ 1 gq (gl hV) fun er=> ?_
  refine bm dI ?_
  refine bl (qH (b:=({ (default:bW) with bX:=3,cn:=ByteArray.mk #[97,99,108],dU:=([1,2,3,5,6]:List Int),hk:=1,iQ:=bq (4 + cw.1) } :bW)) [] HV rfl Bw mO (.cons pG rfl (bP 3) rfl (by rfl) (.cons Dk rfl (dL (ByteArray.mk #[97,99,108])) rfl (by rfl) (.hole kQ rfl (ab rfl) jc rfl rfl (.cons w9 rfl (ab rfl) rfl (by rfl) (.cons C7 rfl (bP 1) rfl (by rfl) (.cons Dl rfl (ab rfl) rfl (by rfl) (.nil)))))))) ?_
  refine ah.pa (z:=(default:bW)) [2] HW mO rfl fun cC=> ?_
  refine ah.own (α:=cH) 86 ?_
  refine ah.rQ (i:=1) hn (ab rfl) (ab rfl) rfl ?_
  refine bO ?_
  refine aF ?_
  refine aD ?_
  refine ah.bz 2 rfl ?_
  obtain⟨dg,hW,h⟩:=aw h
  refine eQ 1 n2 (nE hW) fun l4=> ?_
  refine aK ?_
  obtain⟨cP,eb,h⟩:=aw h
  refine jS (γ:=(Option Nat × Nat)) [0,2,3,4,5,28,44] (fun bd=> []) (fun bd=> [(2,⟨some cC,.b4 (cP.1:bW) [(2,a2 bd.1 cP.2.length bd.2)]⟩),(3,⟨bd.1,.row 86 (cP.2:List cH) bd.2⟩)]) (fun bd=> ?_) (fun hm ak=> ?_) fun hm ak=> ?_
  ·clear eb
   refine ae.next ?_
   refine aF ?_
   obtain⟨jn,p3,h⟩:=aw h
   refine dF p3 (c3 (b:= { cn:=ByteArray.mk #[102],gW:=8,cN:=4:cH }) rfl sc ka (.cons rz rfl (dL (ByteArray.mk #[102])) rfl (.cons o0 rfl (bP 8) rfl (.cons m4 rfl (bP 4) rfl (.nil))))) ?_
   refine ah.q2 (α:=cH) (r:= [jn]) Tryz.underlying62 jw ka rfl rfl (.cons (by simp) (ab rfl) (.nil)) rfl fun oG=> ?_
   refine hX ([1,3,5]:List Int) Tryz.underlying63 bF jD ?_
   refine bl (c3 (b:=({ (default:ar) with bG:=7#64 } :ar)) rfl ha ek (.cons ef rfl (fK 7 rfl) rfl (.nil))) ?_
   refine hX [({ (default:ar) with bG:=7#64 } :ar)] Tryz.underlying48 bQ ek ?_
   refine aD ?_
   refine ah.bz 1 rfl ?_
   obtain⟨c8,nk,h⟩:=aw h
   refine eQ 1 gq (gl nk) fun ob=> ?_
   refine bm dI ?_
   refine bl (qH (b:=({ (default:bW) with bX:=4,cn:=ByteArray.mk #[115,112,97,110,115],dU:=([1,3,5]:List Int),hk:=3,uL:= [({ (default:ar) with bG:=7#64 } :ar)],iQ:=bq (3 + c8.1) } :bW)) [] HV rfl Bw mO (.cons pG rfl (bP 4) rfl (by rfl) (.cons Dk rfl (dL (ByteArray.mk #[115,112,97,110,115])) rfl (by rfl) (.hole kQ rfl (ab rfl) jc rfl rfl (.cons w9 rfl (ab rfl) rfl (by rfl) (.cons C7 rfl (bP 3) rfl (by rfl) (.cons Re rfl (ab rfl) rfl (by rfl) (.cons Dl rfl (ab rfl) rfl (by rfl) (.nil))))))))) ?_
   refine ah.pa (z:=(default:bW)) [2] HW mO rfl fun fm=> ?_
   refine ah.own (α:=cH) 86 ?_
   refine ah.rQ (i:=1) hn (ab rfl) (ab rfl) rfl ?_
   refine bO ?_
   refine aF ?_
   refine aD ?_
   refine ah.bz 2 rfl ?_
   obtain⟨eX,nm,h⟩:=aw h
   refine eQ 1 n2 (nE nm) fun FV=> ?_
   refine aK ?_
   obtain⟨ff,gG,h⟩:=aw h
   refine jS (γ:=(Option Nat × Nat)) [0,2,3,4,5,6,28,44,61] (fun bN=> []) (fun bN=> [(2,⟨some fm,.b4 (ff.1:bW) [(2,a2 bN.1 ff.2.length bN.2)]⟩),(3,⟨bN.1,.row 86 (ff.2:List cH) bN.2⟩)]) (fun bN=> ?_) (fun hm ak=> ?_) fun hm ak=> ?_
   ·clear gG
    refine ae.next ?_
    refine aF ?_
    refine cG 10 hn ?_
    refine ah.lT (β:=bW) (γ:=cH) (b':=(({ bp.1 with cl:=bp.2 } :bW):bW)) ((aN.id bW).comp kQ) 8 9 0 rfl rfl rfl rfl rfl rfl ?_
    refine ah.pd 8 rfl ?_
    refine cG 8 hn ?_
    refine ah.lT (β:=bW) (γ:=cH) (b':=(({ cP.1 with cl:=cP.2 } :bW):bW)) ((aN.id bW).comp kQ) 5 6 0 rfl rfl rfl rfl rfl rfl ?_
    refine ah.pd 5 rfl ?_
    refine cG 5 hn ?_
    refine ah.lT (β:=bW) (γ:=cH) (b':=(({ ff.1 with cl:=ff.2 } :bW):bW)) ((aN.id bW).comp kQ) 2 3 0 rfl rfl rfl rfl rfl rfl ?_
    refine ah.pd 2 rfl ?_
    refine cG 2 hn ?_
    obtain⟨jo,p4,h⟩:=aw h
    refine ah.Pt (α:=bW) (r0:= [dt,({ bp.1 with cl:=bp.2 } :bW),({ cP.1 with cl:=cP.2 } :bW),({ ff.1 with cl:=ff.2 } :bW)]) (r:=jo) Tryz.underlying28 hn mO rfl rfl (.cons (by simp) (ab rfl) (.cons (by simp) (ab rfl) (.cons (by simp) (ab rfl) (.cons (by simp) (ab rfl) (.nil))))) (aI p4) rfl fun yo=> ?_
    refine aL ?_
    refine b0 ?_
    obtain⟨hN,sn,h⟩:=aw h
    refine dF sn (iI (r:= [ByteArray.mk #[],ByteArray.mk #[97,32,33,61,32,48],ByteArray.mk #[97,32,60,32,49,52,32,38,38,32,97,32,33,61,32,51]]) Tryz.underlying200 p7 Fk rfl rfl (.cons (by simp) (dL (ByteArray.mk #[])) (.cons (by simp) (dL (ByteArray.mk #[97,32,33,61,32,48])) (.cons (by simp) (dL (ByteArray.mk #[97,32,60,32,49,52,32,38,38,32,97,32,33,61,32,51])) (.nil))))) ?_
    obtain⟨l5,wj,h⟩:=aw h
    refine dF wj (iI (r:= [ByteArray.mk #[],ByteArray.mk #[100,58,58,112,114,101,102,105,120,95,108,101,110,103,116,104,32,62,61,32,56],ByteArray.mk #[100,58,58,112,114,101,102,105,120,95,108,101,110,103,116,104,32,61,61,32,51,50,32,45,62,32,100,58,58,118,97,108,117,101,32,62,32,48,120,102,102]]) Tryz.underlying200 p7 Fk rfl rfl (.cons (by simp) (dL (ByteArray.mk #[])) (.cons (by simp) (dL (ByteArray.mk #[100,58,58,112,114,101,102,105,120,95,108,101,110,103,116,104,32,62,61,32,56])) (.cons (by simp) (dL (ByteArray.mk #[100,58,58,112,114,101,102,105,120,95,108,101,110,103,116,104,32,61,61,32,51,50,32,45,62,32,100,58,58,118,97,108,117,101,32,62,32,48,120,102,102])) (.nil))))) ?_
    obtain⟨lx,vR,h⟩:=aw h
    refine dF vR (iI (r:= [ByteArray.mk #[],ByteArray.mk #[112,114,105,111,114,105,116,121,32,60,32,49,48,48,32,38,38,32,40,101,58,58,109,97,115,107,32,33,61,32,48,32,124,124,32,97,58,58,109,97,115,107,32,33,61,32,48,41],ByteArray.mk #[101,58,58,109,97,115,107,32,61,61,32,48,32,45,62,32,112,114,105,111,114,105,116,121,32,62,32,53]]) Tryz.underlying200 p7 Fk rfl rfl (.cons (by simp) (dL (ByteArray.mk #[])) (.cons (by simp) (dL (ByteArray.mk #[112,114,105,111,114,105,116,121,32,60,32,49,48,48,32,38,38,32,40,101,58,58,109,97,115,107,32,33,61,32,48,32,124,124,32,97,58,58,109,97,115,107,32,33,61,32,48,41])) (.cons (by simp) (dL (ByteArray.mk #[101,58,58,109,97,115,107,32,61,61,32,48,32,45,62,32,112,114,105,111,114,105,116,121,32,62,32,53])) (.nil))))) ?_
    obtain⟨k1,vS,h⟩:=aw h
    refine dF vS (iI (r:= [ByteArray.mk #[],ByteArray.mk #[102,58,58,104,105,103,104,32,45,32,102,58,58,108,111,119,32,60,61,32,48,120,49,48,48],ByteArray.mk #[33,40,102,58,58,108,111,119,32,61,61,32,48,32,38,38,32,102,58,58,104,105,103,104,32,62,32,49,48,48,48,41]]) Tryz.underlying200 p7 Fk rfl rfl (.cons (by simp) (dL (ByteArray.mk #[])) (.cons (by simp) (dL (ByteArray.mk #[102,58,58,104,105,103,104,32,45,32,102,58,58,108,111,119,32,60,61,32,48,120,49,48,48])) (.cons (by simp) (dL (ByteArray.mk #[33,40,102,58,58,108,111,119,32,61,61,32,48,32,38,38,32,102,58,58,104,105,103,104,32,62,32,49,48,48,48,41])) (.nil))))) ?_
    refine hX [hN,l5,lx,k1] Tryz.underlying201 Il Xd ?_
    refine aL ?_
    refine bO ?_
    refine aF ?_
    refine aD ?_
    refine bl (pL (i:=0) Tryz.underlying28 (ab rfl) rfl rfl) ?_
    refine aD ?_
    refine aK ?_
    refine ag.block ?_
    obtain⟨av,ao,h⟩:=aw h
    refine hT (γ:=(Option Nat × Nat)) (δ:=(Option Nat × Nat)) ao [0,2,3,4,5,6,8,28,44,61,80] (fun s1 dq=> [(7,I.eq (a2 dq.1 s1.2.1.length dq.2)),(81,I.of (s1.1))]) (fun s1 dq=> [(0,⟨dq.1,.row 65 (s1.2.1:List bW) dq.2⟩),(1,⟨some b9,.var (s1.2.2:bf)⟩)]) (fun qo=>Exit.exit 0) (fun qo dq=> [(7,I.eq (a2 dq.1 qo.2.2.1.length dq.2)),(81,I.of (qo.1)),(82,I.of (qo.2.1))]) (fun qo dq=> [(0,⟨dq.1,.row 65 (qo.2.2.1:List bW) dq.2⟩),(1,⟨some b9,.var (qo.2.2.2:bf)⟩)]) (yo,4) (fun s1 r h dq=> ?_) fun dq=> ?_
    ·clear ao
     refine aF ?_
     refine bm eT ?_
     refine bO ?_
     refine cm h (fun h=>?_) fun h=>?_
     ·refine cW ?_
      refine ag.seq ?_
      refine ag.block ?_
      refine aF ?_
      refine aD ?_
      refine aL ?_
      refine aK ?_
      obtain⟨a8,cE,h⟩:=aw h
      obtain⟨fV,p6,h⟩:=aw h
      obtain⟨bY,cX,h⟩:=aw h
      obtain⟨cY,g4,h⟩:=aw h
      obtain⟨mo,vV,h⟩:=aw h
      refine iz [0,2,3,4,5,6,7,8,9,28,44,61,80,81,82,83] ?_
      refine ag.j8 mixed (a6 84 [] [] _ :: a6 85 [] [] _ :: a6 86 [] [] _ :: a6 87 [] [] _ :: a6 88 (2 :: 3 :: []) [] _ :: a6 89 (4 :: []) [] _ :: a6 90 [] [] _ :: ⟨some 91,(6 :: []),(1 :: []),(1 :: []),fun _=>I.of (fV.1),fun hd _=>⟨some b9,.var (fV.2:bf)⟩⟩ :: a6 92 (5 :: 7 :: []) [] _ :: a6 93 (8 :: []) [] _ :: a6 94 (0 :: 1 :: []) (0 :: []) _ :: a6 95 (10 :: []) [] _ :: ⟨none,(9 :: 10 :: 11 :: []),(0 :: []),(0 :: []),fun _=>I.any,fun hd _=>⟨dq.1,.row 65 (mo:List bW) dq.2⟩⟩ :: []) _ (0 :: 2 :: 3 :: 4 :: 5 :: 6 :: 7 :: 8 :: 9 :: 28 :: 44 :: 61 :: 80 :: 81 :: 82 :: 83 :: []) rfl rfl (by kernel_rfl) ⟨e2,e2,e2,e2,b8 fun hd E' L' aB al=>qU (k:=a8) Tryz.underlying201 Il (ab (aB _ _ rfl)) (ab (aB _ _ rfl)) (cL cE),fe (dV Il),e2,?_,b8 fun hd E' L' aB al=>qU (k:=bY) Tryz.underlying200 p7 (ab (aB _ _ rfl)) (ab (aB _ _ rfl)) (cL cX),fe (dV p7),b8 fun hd E' L' aB al=>lp (i:=0) (k:=cY) (xs:=(s1.2.1:List bW)) Tryz.underlying28 hn (ab (aB _ _ rfl)) (ab (aB _ _ rfl)) (al 0 _ rfl rfl) (cL g4),fe (aT V3),?_,trivial⟩ fun eP=> ?_
      ·intro hd E' L' aB al
       refine ah.bz 1 (al 1 _ rfl rfl) ?_
       refine ah.lP (Lin:= [⟨some b9,.var (s1.2.2:bf)⟩]) (Lr:=L'.eraseIdx 1) gq (gl p6) ⟨ab (aB _ _ rfl),bP 3,trivial⟩ rfl fun jT=> ?_
       refine ah.nil ?_
       refine ae.back 1 (al 1 _ rfl rfl) ?_
       exact ae.fin (dY []) rfl rfl
      ·intro hd E' L' aB al
       refine ah.vj (i:=0) (k:=cY) ((aN.id bW).comp Rf) (v:=(aE (aE [hN,l5,lx,k1] a8) bY:ByteArray)) (r:=(mo:List bW)) p7 (ab (aB _ _ rfl)) (ab (aB _ _ rfl)) (al 0 _ rfl rfl) (cL g4).1 rfl (aI vV) ?_
       refine ah.nil ?_
       exact ae.fin (dY []) rfl rfl
      refine ae.dR (L2:= [⟨dq.1,.row 65 (mo:List bW) dq.2⟩,⟨some b9,.var (fV.2:bf)⟩,⟨none,.row 86 (([]:List cH):List cH) 0⟩,⟨some fm,.var (({ ff.1 with cl:=ff.2 } :bW):bW)⟩,⟨none,.dead⟩,⟨none,.row 86 (([]:List cH):List cH) 0⟩,⟨some cC,.var (({ cP.1 with cl:=cP.2 } :bW):bW)⟩,⟨none,.dead⟩,⟨none,.row 86 (([]:List cH):List cH) 0⟩,⟨some bc,.var (({ bp.1 with cl:=bp.2 } :bW):bW)⟩,⟨none,.dead⟩,⟨some aZ,.var (dt:bW)⟩]) rfl ?_
      refine ae.ik (m:=mo.length) 7 rfl (j3 (aI vV)) ?_
      refine ae.ik (m:=mo.length) 84 rfl (j3 (aI vV)) ?_
      refine jC [0,2,3,4,5,6,7,8,9,28,44,61,80,81,82,83,84,85,86,87,88,89,90,91,92,93,94,95] ?_
      refine ae.ea ?_
      refine ae.next ?_
      refine ag.cz ?_
      refine bm dI ?_
      refine aD ?_
      refine ah.nil ?_
      obtain rfl:=aI h
      exact gP (dq.1,dq.2) 0
     ·refine ag.exit ?_
      refine ae.exit ?_
      obtain rfl:=aI h
      exact eD (dq.1,dq.2) 0
    ·clear ao
     refine ae.fM ?_
     refine ae.next ?_
     refine aF ?_
     refine aD ?_
     refine aL ?_
     refine aK ?_
     refine ag.ret ?_
     refine ae.m7 (α:=bW) 0 [2,7,97] ⟨rfl,rfl,rfl,trivial⟩ rfl ?_
     refine ae.bz 1 rfl ?_
     obtain rfl:=aI h
     exact mn ()
   ·have h:=gZ ak gG
    refine ag.cz ?_
    refine aY (aT mH) ?_
    refine bl (ih (i:=2) (q:=0) (β:=bW) (γ:=cH) mg (ab rfl) rfl rfl) ?_
    obtain⟨k2,Br,h⟩:=aw h
    refine dF Br (c3 (b:= { cn:=ByteArray.mk #[103],gW:=9,cN:=1:cH }) rfl sc ka (.cons rz rfl (dL (ByteArray.mk #[103])) rfl (.cons o0 rfl (bP 9) rfl (.cons m4 rfl (bP 1) rfl (.nil))))) ?_
    obtain⟨ly,Bs,h⟩:=aw h
    refine dF Bs (c3 (b:= { cn:=ByteArray.mk #[100],gW:=7,cN:=2:cH }) rfl sc ka (.cons rz rfl (dL (ByteArray.mk #[100])) rfl (.cons o0 rfl (bP 7) rfl (.cons m4 rfl (bP 2) rfl (.nil))))) ?_
    refine hX [k2,ly] Tryz.underlying62 jw ka ?_
    obtain⟨gH,r8,h⟩:=aw h
    refine nq 3 Tryz.underlying62 jw ka r8 fun vW fC=> ?_
    refine aY (aT mH) ?_
    refine ah.j6 (i:=2) (γ:=cH) (b':=(({ ({ (default:bW) with bX:=4,cn:=ByteArray.mk #[115,112,97,110,115],dU:=([1,3,5]:List Int),hk:=3,uL:= [({ (default:ar) with bG:=7#64 } :ar)],iQ:=bq (3 + c8.1) } :bW) with cl:= [] } :bW):bW)) (os':= [(2,a2 vW gH.length fC)]) ((aN.id bW).comp kQ) mg (ab rfl) (ab rfl) jc rfl rfl rfl rfl ?_
    refine ah.nil ?_
    obtain rfl:=aI h
    exact dp 0 (hm (vW,fC))
   ·have h:=g1 ak gG
    refine ag.skip ?_
    obtain rfl:=aI h
    exact dp 0 (hm (oG,1))
  ·have h:=gZ ak eb
   refine ag.cz ?_
   refine aY (aT mH) ?_
   refine bl (ih (i:=2) (q:=0) (β:=bW) (γ:=cH) mg (ab rfl) rfl rfl) ?_
   obtain⟨oI,Bt,h⟩:=aw h
   refine dF Bt (c3 (b:= { cn:=ByteArray.mk #[98],gW:=5,cN:=1:cH }) rfl sc ka (.cons rz rfl (dL (ByteArray.mk #[98])) rfl (.cons o0 rfl (bP 5) rfl (.cons m4 rfl (bP 1) rfl (.nil))))) ?_
   refine hX [oI] Tryz.underlying62 jw ka ?_
   obtain⟨hY,r9,h⟩:=aw h
   refine nq 3 Tryz.underlying62 jw ka r9 fun Pu pU=> ?_
   refine aY (aT mH) ?_
   refine ah.j6 (i:=2) (γ:=cH) (b':=(({ ({ (default:bW) with bX:=3,cn:=ByteArray.mk #[97,99,108],dU:=([1,2,3,5,6]:List Int),hk:=1,iQ:=bq (4 + cw.1) } :bW) with cl:= [] } :bW):bW)) (os':= [(2,a2 Pu hY.length pU)]) ((aN.id bW).comp kQ) mg (ab rfl) (ab rfl) jc rfl rfl rfl rfl ?_
   refine ah.nil ?_
   obtain rfl:=aI h
   exact dp 0 (hm (Pu,pU))
  ·have h:=g1 ak eb
   refine ag.skip ?_
   obtain rfl:=aI h
   exact dp 0 (hm (mP,2))
 ·have h:=gZ ak ck
  refine ag.cz ?_
  refine aY (aT mH) ?_
  refine bl (ih (i:=2) (q:=0) (β:=bW) (γ:=cH) mg (ab rfl) rfl rfl) ?_
  obtain⟨pn,Bu,h⟩:=aw h
  refine dF Bu (c3 (b:= { cn:=ByteArray.mk #[109],gW:=3,cN:=1:cH }) rfl sc ka (.cons rz rfl (dL (ByteArray.mk #[109])) rfl (.cons o0 rfl (bP 3) rfl (.cons m4 rfl (bP 1) rfl (.nil))))) ?_
  refine hX [pn] Tryz.underlying62 jw ka ?_
  obtain⟨gQ,vQ,h⟩:=aw h
  refine nq 3 Tryz.underlying62 jw ka vQ fun Pv vX=> ?_
  refine aY (aT mH) ?_
  refine ah.j6 (i:=2) (γ:=cH) (b':=(({ ({ (default:bW) with bX:=2,cn:=ByteArray.mk #[114,111,117,116,101,115],dU:=([1,2,3,4]:List Int),hk:=2,iQ:=bq (3 + bh.1) } :bW) with cl:= [] } :bW):bW)) (os':= [(2,a2 Pv gQ.length vX)]) ((aN.id bW).comp kQ) mg (ab rfl) (ab rfl) jc rfl rfl rfl rfl ?_
  refine ah.nil ?_
  obtain rfl:=aI h
  exact dp 0 (hm (Pv,vX))
 ·have h:=g1 ak ck
  refine ag.skip ?_
  obtain rfl:=aI h
  exact dp 0 (hm (g3,1))
theorem R2 {aa:bf} {aj:List bW} {b9:Nat} {r:(List cJ) × bf} (h:zL aa aj=some r):bM Tryz.prog 71 [I.eq (.pointer (some ⟨b9,0,none⟩)),I.of (aj)] [⟨some b9,.var (aa:bf)⟩] (δ:=Unit) (fun d=>I.of (r.1)) (fun d=> [⟨some b9,.var (r.2:bf)⟩]):=by
 unfold zL at h
 refine bM.of Tryz.func71 rfl Tryz.ntmps71 rfl fun W A=> ?_
 refine aF ?_
 refine bl (eB (look_nil (α:=cJ))) ?_
 refine b0 ?_
 refine hX ([1,2,3,4,5,6]:List Int) Tryz.underlying63 bF jD ?_
 refine bl (qH (b:=({ (default:cJ) with bX:=1,cn:=ByteArray.mk #[97,108,108],dU:=([1,2,3,4,5,6]:List Int),rK:=40,AJ:=true } :cJ)) [2] xR rfl Im vB (.cons GI rfl (bP 1) rfl (by rfl) (.cons GA rfl (dL (ByteArray.mk #[97,108,108])) rfl (by rfl) (.cons Gn rfl (ab rfl) rfl (by rfl) (.cons Gu rfl (bP 40) rfl (by rfl) (.cons R3 rfl (fO true) rfl (by rfl) (.nil))))))) ?_
 refine ah.own (α:=dy) 207 ?_
 refine ah.pa (z:=(default:cJ)) [2] xR vB rfl fun aZ=> ?_
 refine ah.own (α:=dy) 207 ?_
 refine ah.rQ (i:=1) vC (ab rfl) (ab rfl) rfl ?_
 refine b0 ?_
 refine aD ?_
 refine ah.bz 3 rfl ?_
 obtain⟨aG,bo,h⟩:=aw h
 refine eQ 1 gq (gl bo) fun az=> ?_
 refine bm dI ?_
 refine hX ([1,2,bq (3 + aG.1)]:List Int) Tryz.underlying63 bF jD ?_
 refine aD ?_
 refine ah.bz 0 rfl ?_
 obtain⟨aJ,cr,h⟩:=aw h
 refine eQ 1 gq (gl cr) fun c7=> ?_
 refine bm dI ?_
 refine bl (qH (b:=({ (default:cJ) with bX:=2,cn:=ByteArray.mk #[115,111,109,101],dU:=([1,2,bq (3 + aG.1)]:List Int),rK:=bq (1 + aJ.1) } :cJ)) [2] xR rfl Im vB (.cons GI rfl (bP 2) rfl (by rfl) (.cons GA rfl (dL (ByteArray.mk #[115,111,109,101])) rfl (by rfl) (.cons Gn rfl (ab rfl) rfl (by rfl) (.cons Gu rfl (ab rfl) rfl (by rfl) (.nil)))))) ?_
 refine ah.own (α:=dy) 207 ?_
 refine ah.pa (z:=(default:cJ)) [2] xR vB rfl fun bc=> ?_
 refine ah.own (α:=dy) 207 ?_
 refine ah.rQ (i:=1) vC (ab rfl) (ab rfl) rfl ?_
 refine b0 ?_
 refine aD ?_
 refine ah.bz 3 rfl ?_
 obtain⟨bh,e7,h⟩:=aw h
 refine eQ 1 gq (gl e7) fun dZ=> ?_
 refine bm dI ?_
 refine hX [bq (1 + bh.1)] Tryz.underlying63 bF jD ?_
 refine aD ?_
 refine ah.bz 0 rfl ?_
 obtain⟨bn,fT,h⟩:=aw h
 refine eQ 1 gq (gl fT) fun l3=> ?_
 refine bl (qH (b:=({ (default:cJ) with bX:=7,cn:=ByteArray.mk #[102,101,119],dU:= [bq (1 + bh.1)],rK:=bn.1 } :cJ)) [2] xR rfl Im vB (.cons GI rfl (bP 7) rfl (by rfl) (.cons GA rfl (dL (ByteArray.mk #[102,101,119])) rfl (by rfl) (.cons Gn rfl (ab rfl) rfl (by rfl) (.cons Gu rfl (ab rfl) rfl (by rfl) (.nil)))))) ?_
 refine ah.own (α:=dy) 207 ?_
 refine ah.pa (z:=(default:cJ)) [2] xR vB rfl fun cC=> ?_
 refine ah.own (α:=dy) 207 ?_
 refine ah.rQ (i:=1) vC (ab rfl) (ab rfl) rfl ?_
 refine bO ?_
 refine aF ?_
 refine aD ?_
 refine aY (eK Tryz.underlying28) ?_
 refine aD ?_
 refine aK ?_
 refine ag.block ?_
 obtain⟨av,ao,h⟩:=aw h
 refine hT (γ:=(Option Nat × Nat) × (Option Nat × Nat) × (Option Nat × Nat)) (δ:=(Option Nat × Nat) × (Option Nat × Nat) × (Option Nat × Nat)) ao [0,1,4,5,6,7,30,31] (fun s1 aq=> [(32,I.of (s1.1))]) (fun s1 aq=> [(1,⟨some cC,.b4 (s1.2.1:cJ) [(2,a2 aq.1.1 s1.2.2.1.length aq.1.2)]⟩),(2,⟨aq.1.1,.row 207 (s1.2.2.1:List dy) aq.1.2⟩),(3,⟨some b9,.var (s1.2.2.2.1:bf)⟩),(5,⟨some bc,.b4 (s1.2.2.2.2.1:cJ) [(2,a2 aq.2.1.1 s1.2.2.2.2.2.1.length aq.2.1.2)]⟩),(6,⟨aq.2.1.1,.row 207 (s1.2.2.2.2.2.1:List dy) aq.2.1.2⟩),(8,⟨some aZ,.b4 (s1.2.2.2.2.2.2.1:cJ) [(2,a2 aq.2.2.1 s1.2.2.2.2.2.2.2.length aq.2.2.2)]⟩),(9,⟨aq.2.2.1,.row 207 (s1.2.2.2.2.2.2.2:List dy) aq.2.2.2⟩)]) (fun er=>Exit.exit 0) (fun er aq=> [(32,I.of (er.1)),(33,I.of (er.2.1))]) (fun er aq=> [(1,⟨some cC,.b4 (er.2.2.1:cJ) [(2,a2 aq.1.1 er.2.2.2.1.length aq.1.2)]⟩),(2,⟨aq.1.1,.row 207 (er.2.2.2.1:List dy) aq.1.2⟩),(3,⟨some b9,.var (er.2.2.2.2.1:bf)⟩),(5,⟨some bc,.b4 (er.2.2.2.2.2.1:cJ) [(2,a2 aq.2.1.1 er.2.2.2.2.2.2.1.length aq.2.1.2)]⟩),(6,⟨aq.2.1.1,.row 207 (er.2.2.2.2.2.2.1:List dy) aq.2.1.2⟩),(8,⟨some aZ,.b4 (er.2.2.2.2.2.2.2.1:cJ) [(2,a2 aq.2.2.1 er.2.2.2.2.2.2.2.2.length aq.2.2.2)]⟩),(9,⟨aq.2.2.1,.row 207 (er.2.2.2.2.2.2.2.2:List dy) aq.2.2.2⟩)]) ((none,0),(none,0),(none,0)) (fun s1 r h aq=> ?_) fun aq=> ?_
 ·clear ao
  refine aF ?_
  refine bm eT ?_
  refine bO ?_
  refine cm h (fun h=>?_) fun h=>?_
  ·refine cW ?_
   refine ag.seq ?_
   refine ag.block ?_
   refine aF ?_
   obtain⟨a8,cE,h⟩:=aw h
   refine hU cE Tryz.underlying28 hn ?_
   refine aY (dV hn) ?_
   refine c1 mO fun fm=> ?_
   refine cA 0 hn ?_
   refine b0 ?_
   refine aY (aT mH) ?_
   refine cq 0 kQ mg ?_
   refine aY (eK Tryz.underlying62) ?_
   obtain⟨cw,hV,h⟩:=aw h
   refine ah.P6 Tryz.underlying205 gi Fl rfl (by kernel_rfl) (ab rfl) (ab rfl) hV rfl fun g3=> ?_
   refine aL ?_
   refine b0 ?_
   refine aY (aT mH) ?_
   refine cq 1 kQ mg ?_
   refine aY (eK Tryz.underlying62) ?_
   obtain⟨dg,hW,h⟩:=aw h
   refine ah.P6 Tryz.underlying205 gi Fl rfl (by kernel_rfl) (ab rfl) (ab rfl) hW rfl fun mP=> ?_
   refine aL ?_
   refine bO ?_
   refine aF ?_
   refine aD ?_
   refine bl (pL (i:=1) Tryz.underlying205 (ab rfl) rfl rfl) ?_
   refine aD ?_
   refine aK ?_
   refine ag.block ?_
   obtain⟨aX,ao,h⟩:=aw h
   refine hT (γ:=(Option Nat × Nat) × (Option Nat × Nat)) (δ:=(Option Nat × Nat) × (Option Nat × Nat)) ao [0,1,4,5,6,7,9,30,31,32,33,45] (fun s2 bd=> [(10,I.eq (a2 bd.2.1 s2.2.2.1.length bd.2.2)),(11,I.eq (a2 bd.1.1 s2.2.1.length bd.1.2)),(46,I.of (s2.1))]) (fun s2 bd=> [(0,⟨bd.1.1,.row 4 (s2.2.1:List Bool) bd.1.2⟩),(1,⟨bd.2.1,.row 4 (s2.2.2.1:List Bool) bd.2.2⟩),(6,⟨some b9,.var (s2.2.2.2:bf)⟩)]) (fun l4=>Exit.exit 2) (fun l4 bd=> [(10,I.eq (a2 bd.2.1 l4.2.2.2.1.length bd.2.2)),(11,I.eq (a2 bd.1.1 l4.2.2.1.length bd.1.2)),(46,I.of (l4.1)),(47,I.of (l4.2.1))]) (fun l4 bd=> [(0,⟨bd.1.1,.row 4 (l4.2.2.1:List Bool) bd.1.2⟩),(1,⟨bd.2.1,.row 4 (l4.2.2.2.1:List Bool) bd.2.2⟩),(6,⟨some b9,.var (l4.2.2.2.2:bf)⟩)]) ((mP,dg.length),(g3,cw.length)) (fun s2 r h bd=> ?_) fun bd=> ?_
   ·clear ao
    refine aF ?_
    refine bm eT ?_
    refine bO ?_
    refine cm h (fun h=>?_) fun h=>?_
    ·refine cW ?_
     refine ag.seq ?_
     refine ag.block ?_
     refine aF ?_
     refine aD ?_
     refine aL ?_
     refine aK ?_
     refine ag.cz ?_
     refine aD ?_
     refine aD ?_
     refine aD ?_
     refine aD ?_
     refine aD ?_
     refine ah.bz 6 rfl ?_
     obtain⟨c8,nk,h⟩:=aw h
     refine eQ 1 gq (gl nk) fun ob=> ?_
     refine bm pO ?_
     obtain⟨bY,cX,h⟩:=aw h
     refine bl (lp (i:=2) (k:=bY) (xs:=(s2.2.2.1:List Bool)) Tryz.underlying205 gi (ab rfl) (ab rfl) rfl (cL cX)) ?_
     refine ah.vj (i:=2) (k:=bY) (aN.id Bool) (v:=(true:Bool)) (r:=(en s2.2.2.1 bY true:List Bool)) gi (ab rfl) (fO true) rfl (cL cX).1 rfl rfl ?_
     refine ah.ik (m:=(en s2.2.2.1 bY true).length) 10 rfl (j3 rfl) ?_
     refine ah.ik (m:=(en s2.2.2.1 bY true).length) 49 rfl (j3 rfl) ?_
     obtain⟨cY,g4,h⟩:=aw h
     refine bl (lp (i:=1) (k:=cY) (xs:=(s2.2.1:List Bool)) Tryz.underlying205 gi (ab rfl) (ab rfl) rfl (cL g4)) ?_
     refine ah.vj (i:=1) (k:=cY) (aN.id Bool) (v:=(decide (c8.1 > 0):Bool)) (r:=(en s2.2.1 cY (decide (c8.1 > 0)):List Bool)) gi (ab rfl) (ab rfl) rfl (cL g4).1 rfl rfl ?_
     refine ah.ik (m:=(en s2.2.1 cY (decide (c8.1 > 0))).length) 11 rfl (j3 rfl) ?_
     refine ah.ik (m:=(en s2.2.1 cY (decide (c8.1 > 0))).length) 51 rfl (j3 rfl) ?_
     refine ah.nil ?_
     refine ae.ea ?_
     refine ae.next ?_
     refine ag.cz ?_
     refine bm dI ?_
     refine aD ?_
     refine ah.nil ?_
     refine ae.bz 6 rfl ?_
     refine ae.bz 6 rfl ?_
     refine ae.bz 6 rfl ?_
     refine ae.bz 6 rfl ?_
     refine ae.bz 6 rfl ?_
     refine ae.bz 6 rfl ?_
     obtain rfl:=aI h
     exact gP ((bd.1.1,bd.1.2),(bd.2.1,bd.2.2)) 0
    ·refine ag.exit ?_
     refine ae.exit ?_
     obtain rfl:=aI h
     exact eD ((bd.1.1,bd.1.2),(bd.2.1,bd.2.2)) 0
   ·clear ao
    refine ae.fM ?_
    refine ae.next ?_
    refine aF ?_
    refine aY (aT xS) ?_
    refine bl (ih (i:=11) (q:=0) (β:=cJ) (γ:=dy) vD (ab rfl) rfl rfl) ?_
    refine aY (aT vh) ?_
    refine cq 2 pG bF ?_
    refine aD ?_
    refine ah.m7 (α:=Bool) 1 [63,10] ⟨rfl,rfl,trivial⟩ rfl ?_
    obtain⟨bE,dE,h⟩:=aw h
    refine dF dE (c3 (b:= { dW:=(aE aj a8).bX,rS:=true,rL:=true,cl:=aX.2.2.2.1:dy }) rfl Io r1 (.cons Gr rfl (ab rfl) rfl (.cons Gw rfl (fO true) rfl (.cons Gs rfl (fO true) rfl (.cons Gx rfl (ab rfl) rfl (.nil)))))) ?_
    refine hX [bE] Tryz.underlying202 x9 r1 ?_
    obtain⟨eX,nm,h⟩:=aw h
    refine nq 12 Tryz.underlying202 x9 r1 nm fun oG fC=> ?_
    refine aY (aT xS) ?_
    refine ah.j6 (i:=11) (γ:=dy) (b':=(({ s1.2.2.2.2.2.2.1 with jt:= [] } :cJ):cJ)) (os':= [(2,a2 oG eX.length fC)]) ((aN.id cJ).comp xe) vD (ab rfl) (ab rfl) jc rfl rfl rfl rfl ?_
    refine bO ?_
    refine aF ?_
    refine aD ?_
    refine ah.bz 6 rfl ?_
    obtain⟨fV,p6,h⟩:=aw h
    refine eQ 1 gq (gl p6) fun FV=> ?_
    refine bm pO ?_
    refine aK ?_
    refine ag.freeze (α:=Bool) 1 11 rfl rfl ?_
    obtain⟨bp,ck,h⟩:=aw h
    refine jS (γ:=(Option Nat × Nat)) [0,1,4,5,6,7,9,10,11,30,31,32,33,45,46,47,70] (fun bN=> []) (fun bN=> [(0,⟨some b9,.var (bp.1:bf)⟩),(8,⟨some bc,.b4 (bp.2.1:cJ) [(2,a2 bN.1 bp.2.2.length bN.2)]⟩),(9,⟨bN.1,.row 207 (bp.2.2:List dy) bN.2⟩)]) (fun bN=> ?_) (fun hm ak=> ?_) fun hm ak=> ?_
    ·clear ck
     refine ae.next ?_
     refine aF ?_
     refine aD ?_
     refine ah.bz 0 rfl ?_
     obtain⟨gH,r8,h⟩:=aw h
     refine eQ 1 n2 (nE r8) fun qo=> ?_
     refine aK ?_
     obtain⟨cP,eb,h⟩:=aw h
     refine jS (γ:=(Option Nat × Nat)) [0,1,4,5,6,7,9,10,11,30,31,32,33,45,46,47,70,86] (fun dq=> []) (fun dq=> [(0,⟨some b9,.var (cP.1:bf)⟩),(5,⟨some cC,.b4 (cP.2.1:cJ) [(2,a2 dq.1 cP.2.2.length dq.2)]⟩),(6,⟨dq.1,.row 207 (cP.2.2:List dy) dq.2⟩)]) (fun dq=> ?_) (fun hm ak=> ?_) fun hm ak=> ?_
     ·clear eb
      refine ae.ea ?_
      refine ae.next ?_
      refine ag.cz ?_
      refine bm dI ?_
      refine aD ?_
      refine ah.nil ?_
      refine ae.bz 6 rfl ?_
      refine ae.bz 6 rfl ?_
      refine ae.bz 6 rfl ?_
      refine ae.bz 6 rfl ?_
      refine ae.bz 6 rfl ?_
      refine ae.bz 6 rfl ?_
      obtain rfl:=aI h
      exact gP ((dq.1,dq.2),(bN.1,bN.2),(oG,fC)) 3
     ·have h:=gZ ak eb
      obtain⟨hY,r9,h⟩:=aw h
      obtain⟨gQ,vQ,h⟩:=aw h
      obtain⟨dt,hD,h⟩:=aw h
      obtain⟨h7,sa,h⟩:=aw h
      refine iz [0,1,4,5,6,7,9,10,11,30,31,32,33,45,46,47,70,85,86] ?_
      refine ag.j8 mixed (a6 87 [] [] _ :: a6 88 (0 :: []) (5 :: []) _ :: a6 89 [] [] _ :: a6 90 (2 :: []) (3 :: []) _ :: a6 91 [] [] _ :: ⟨some 92,(4 :: []),(0 :: []),(0 :: []),fun _=>I.of (hY.1),fun hd _=>⟨some b9,.var (hY.2:bf)⟩⟩ :: a6 93 [] [] _ :: ⟨some 94,(5 :: 6 :: []),(0 :: []),(0 :: []),fun _=>I.of (gQ.1),fun hd _=>⟨some b9,.var (gQ.2:bf)⟩⟩ :: a6 95 [] [] _ :: a6 96 (3 :: 5 :: 7 :: 8 :: []) [] _ :: a6 97 (9 :: []) [] _ :: ⟨some 98,(1 :: 10 :: []),(6 :: []),(6 :: []),fun hd=>I.eq (a2 (hd 11 0) h7.length ((hd 11 1).getD 0)),fun hd _=>⟨(hd 11 0),.row 207 (h7:List dy) ((hd 11 1).getD 0)⟩⟩ :: a6 99 [] [] _ :: ⟨none,(1 :: 11 :: 12 :: []),(5 :: []),(5 :: []),fun _=>I.any,fun hd _=>⟨some cC,.b4 (({ s1.2.1 with jt:= [] } :cJ):cJ) [(2,a2 (hd 11 0) h7.length ((hd 11 1).getD 0))]⟩⟩ :: []) _ (0 :: 1 :: 4 :: 5 :: 6 :: 7 :: 9 :: 10 :: 11 :: 30 :: 31 :: 32 :: 33 :: 45 :: 46 :: 47 :: 70 :: 85 :: 86 :: []) rfl rfl (by kernel_rfl) ⟨fe (aT xS),b8 fun hd E' L' aB al=>ih (i:=5) (q:=0) (β:=cJ) (γ:=dy) vD (ab (aB _ _ rfl)) (al 5 _ rfl rfl) rfl,fe (aT vh),n6 3 pG bF,e2,?_,e2,?_,e2,b8 fun hd E' L' aB al=>(c3 (b:= { dW:=(aE aj a8).bX,rS:=hY.1,rL:=gQ.1,cl:=aX.2.2.2.1:dy }) rfl Io r1 (.cons Gr rfl (ab (aB _ _ rfl)) rfl (.cons Gw rfl (ab (aB _ _ rfl)) rfl (.cons Gs rfl (ab (aB _ _ rfl)) rfl (.cons Gx rfl (ab (aB _ _ rfl)) rfl (.nil)))))).as (aI hD),b8 fun hd E' L' aB al=>iI (r:= [dt]) Tryz.underlying202 x9 r1 rfl rfl (.cons (by simp) (ab (aB _ _ rfl)) (.nil)),?_,fe (aT xS),?_,trivial⟩ fun eP=> ?_
      ·intro hd E' L' aB al
       refine ah.bz 0 (al 0 _ rfl rfl) ?_
       refine ah.lP (Lin:= [⟨some b9,.var (gH.2:bf)⟩]) (Lr:=L'.eraseIdx 0) n2 (nE r9) ⟨ab (aB _ _ rfl),trivial⟩ rfl fun jT=> ?_
       refine ah.nil ?_
       refine ae.back 0 (al 0 _ rfl rfl) ?_
       exact ae.fin (dY []) rfl rfl
      ·intro hd E' L' aB al
       refine ah.bz 0 (al 0 _ rfl rfl) ?_
       refine ah.lP (Lin:= [⟨some b9,.var (hY.2:bf)⟩]) (Lr:=L'.eraseIdx 0) n2 (nE vQ) ⟨ab (aB _ _ rfl),trivial⟩ rfl fun aau=> ?_
       refine ah.nil ?_
       refine ae.back 0 (al 0 _ rfl rfl) ?_
       exact ae.fin (dY []) rfl rfl
      ·intro hd E' L' aB al
       refine ah.app (i:=6) Tryz.underlying202 x9 r1 (bytes:=40) (by kernel_rfl) (ab (aB _ _ rfl)) (al 6 _ rfl rfl) (ab (aB _ _ rfl)) sa rfl fun yo pU=> ?_
       refine ah.nil ?_
       exact ae.fin (dY [yo,some pU]) rfl rfl
      ·intro hd E' L' aB al
       refine ah.j6 (i:=5) (γ:=dy) (b':=(({ s1.2.1 with jt:= [] } :cJ):cJ)) (os':= [(2,a2 (hd 11 0) h7.length ((hd 11 1).getD 0))]) ((aN.id cJ).comp xe) vD (ab (aB _ _ rfl)) (ab (aB _ _ rfl)) jc (al 5 _ rfl rfl) rfl rfl rfl ?_
       refine ah.nil ?_
       exact ae.fin (dY []) rfl rfl
      refine ae.dR (L2:= [⟨some b9,.var (gQ.2:bf)⟩,⟨none,.dead⟩,⟨none,.dead⟩,⟨some fm,.var (aE aj a8:bW)⟩,⟨none,.row 207 (([]:List dy):List dy) 0⟩,⟨some cC,.b4 (({ s1.2.1 with jt:= [] } :cJ):cJ) [(2,a2 (eP 11 0) h7.length ((eP 11 1).getD 0))]⟩,⟨(eP 11 0),.row 207 (h7:List dy) ((eP 11 1).getD 0)⟩,⟨none,.row 207 (([]:List dy):List dy) 0⟩,⟨some bc,.b4 (bp.2.1:cJ) [(2,a2 bN.1 bp.2.2.length bN.2)]⟩,⟨bN.1,.row 207 (bp.2.2:List dy) bN.2⟩,⟨none,.row 207 (([]:List dy):List dy) 0⟩,⟨some aZ,.b4 (({ s1.2.2.2.2.2.2.1 with jt:= [] } :cJ):cJ) [(2,a2 oG eX.length fC)]⟩,⟨oG,.row 207 (eX:List dy) fC⟩]) rfl ?_
      refine jC [0,1,4,5,6,7,9,10,11,30,31,32,33,45,46,47,70,85,86,87,89,90,91,92,93,94,95,96,97,98,99] ?_
      obtain rfl:=aI h
      exact dp 0 (hm ((eP 11 0),((eP 11 1).getD 0)))
     ·have h:=g1 ak eb
      refine ag.skip ?_
      obtain rfl:=aI h
      exact dp 0 (hm (aq.1.1,aq.1.2))
    ·have h:=gZ ak ck
     obtain⟨hL,Bq,h⟩:=aw h
     obtain⟨nr,Zg,h⟩:=aw h
     obtain⟨fz,kD,h⟩:=aw h
     obtain⟨ji,Zh,h⟩:=aw h
     refine iz [0,1,4,5,6,7,9,10,11,30,31,32,33,45,46,47,59,61,62,63,64,65,66,67,68,69,70] ?_
     refine ag.j8 mixed (a6 71 [] [] _ :: a6 72 (0 :: []) (8 :: []) _ :: a6 73 [] [] _ :: a6 74 (2 :: []) (3 :: []) _ :: a6 75 [] [] _ :: ⟨some 76,(4 :: []),(0 :: []),(0 :: []),fun _=>I.of (hL.1),fun hd _=>⟨some b9,.var (hL.2:bf)⟩⟩ :: a6 77 (5 :: []) [] _ :: a6 78 [] [] _ :: ⟨some 79,(5 :: 7 :: []),(0 :: []),(0 :: []),fun _=>I.of (nr.1),fun hd _=>⟨some b9,.var (nr.2:bf)⟩⟩ :: a6 80 [] [] _ :: a6 81 (3 :: 6 :: 8 :: 9 :: []) [] _ :: a6 82 (10 :: []) [] _ :: ⟨some 83,(1 :: 11 :: []),(9 :: []),(9 :: []),fun hd=>I.eq (a2 (hd 12 0) ji.length ((hd 12 1).getD 0)),fun hd _=>⟨(hd 12 0),.row 207 (ji:List dy) ((hd 12 1).getD 0)⟩⟩ :: a6 84 [] [] _ :: ⟨none,(1 :: 12 :: 13 :: []),(8 :: []),(8 :: []),fun _=>I.any,fun hd _=>⟨some bc,.b4 (({ s1.2.2.2.2.1 with jt:= [] } :cJ):cJ) [(2,a2 (hd 12 0) ji.length ((hd 12 1).getD 0))]⟩⟩ :: []) _ (0 :: 1 :: 4 :: 5 :: 6 :: 7 :: 9 :: 10 :: 11 :: 30 :: 31 :: 32 :: 33 :: 45 :: 46 :: 47 :: 59 :: 61 :: 62 :: 63 :: 64 :: 65 :: 66 :: 67 :: 68 :: 69 :: 70 :: []) rfl rfl (by kernel_rfl) ⟨fe (aT xS),b8 fun hd E' L' aB al=>ih (i:=8) (q:=0) (β:=cJ) (γ:=dy) vD (ab (aB _ _ rfl)) (al 8 _ rfl rfl) rfl,fe (aT vh),n6 3 pG bF,e2,?_,ur pO,e2,?_,e2,b8 fun hd E' L' aB al=>(c3 (b:= { dW:=(aE aj a8).bX,rS:=decide (hL.1 > 0),rL:=nr.1,cl:=aX.2.2.1:dy }) rfl Io r1 (.cons Gr rfl (ab (aB _ _ rfl)) rfl (.cons Gw rfl (ab (aB _ _ rfl)) rfl (.cons Gs rfl (ab (aB _ _ rfl)) rfl (.cons Gx rfl (ab (aB _ _ rfl)) rfl (.nil)))))).as (aI kD),b8 fun hd E' L' aB al=>iI (r:= [fz]) Tryz.underlying202 x9 r1 rfl rfl (.cons (by simp) (ab (aB _ _ rfl)) (.nil)),?_,fe (aT xS),?_,trivial⟩ fun jh=> ?_
     ·intro hd E' L' aB al
      refine ah.bz 0 (al 0 _ rfl rfl) ?_
      refine ah.lP (Lin:= [⟨some b9,.var (fV.2:bf)⟩]) (Lr:=L'.eraseIdx 0) gq (gl Bq) ⟨ab (aB _ _ rfl),bP 4,trivial⟩ rfl fun lz=> ?_
      refine ah.nil ?_
      refine ae.back 0 (al 0 _ rfl rfl) ?_
      exact ae.fin (dY []) rfl rfl
     ·intro hd E' L' aB al
      refine ah.bz 0 (al 0 _ rfl rfl) ?_
      refine ah.lP (Lin:= [⟨some b9,.var (hL.2:bf)⟩]) (Lr:=L'.eraseIdx 0) n2 (nE Zg) ⟨ab (aB _ _ rfl),trivial⟩ rfl fun aav=> ?_
      refine ah.nil ?_
      refine ae.back 0 (al 0 _ rfl rfl) ?_
      exact ae.fin (dY []) rfl rfl
     ·intro hd E' L' aB al
      refine ah.app (i:=9) Tryz.underlying202 x9 r1 (bytes:=40) (by kernel_rfl) (ab (aB _ _ rfl)) (al 9 _ rfl rfl) (ab (aB _ _ rfl)) Zh rfl fun vW vX=> ?_
      refine ah.nil ?_
      exact ae.fin (dY [vW,some vX]) rfl rfl
     ·intro hd E' L' aB al
      refine ah.j6 (i:=8) (γ:=dy) (b':=(({ s1.2.2.2.2.1 with jt:= [] } :cJ):cJ)) (os':= [(2,a2 (hd 12 0) ji.length ((hd 12 1).getD 0))]) ((aN.id cJ).comp xe) vD (ab (aB _ _ rfl)) (ab (aB _ _ rfl)) jc (al 8 _ rfl rfl) rfl rfl rfl ?_
      refine ah.nil ?_
      exact ae.fin (dY []) rfl rfl
     refine ae.dR (L2:= [⟨some b9,.var (nr.2:bf)⟩,⟨none,.dead⟩,⟨none,.dead⟩,⟨some fm,.var (aE aj a8:bW)⟩,⟨none,.row 207 (([]:List dy):List dy) 0⟩,⟨some cC,.b4 (s1.2.1:cJ) [(2,a2 aq.1.1 s1.2.2.1.length aq.1.2)]⟩,⟨aq.1.1,.row 207 (s1.2.2.1:List dy) aq.1.2⟩,⟨none,.row 207 (([]:List dy):List dy) 0⟩,⟨some bc,.b4 (({ s1.2.2.2.2.1 with jt:= [] } :cJ):cJ) [(2,a2 (jh 12 0) ji.length ((jh 12 1).getD 0))]⟩,⟨(jh 12 0),.row 207 (ji:List dy) ((jh 12 1).getD 0)⟩,⟨none,.row 207 (([]:List dy):List dy) 0⟩,⟨some aZ,.b4 (({ s1.2.2.2.2.2.2.1 with jt:= [] } :cJ):cJ) [(2,a2 oG eX.length fC)]⟩,⟨oG,.row 207 (eX:List dy) fC⟩]) rfl ?_
     refine jC [0,1,4,5,6,7,9,10,11,30,31,32,33,45,46,47,59,61,62,63,64,65,66,67,68,69,70,71,73,74,75,76,77,78,79,80,81,82,83,84] ?_
     obtain rfl:=aI h
     exact dp 0 (hm ((jh 12 0),((jh 12 1).getD 0)))
    ·have h:=g1 ak ck
     refine ag.skip ?_
     obtain rfl:=aI h
     exact dp 0 (hm (aq.2.1.1,aq.2.1.2))
  ·refine ag.exit ?_
   refine ae.exit ?_
   obtain rfl:=aI h
   exact eD ((aq.1.1,aq.1.2),(aq.2.1.1,aq.2.1.2),(aq.2.2.1,aq.2.2.2)) 0
 ·clear ao
  refine ae.fM ?_
  refine ae.next ?_
  refine aF ?_
  refine ah.lT (β:=cJ) (γ:=dy) (b':=(({ av.2.2.2.2.2.2.2.1 with jt:=av.2.2.2.2.2.2.2.2 } :cJ):cJ)) ((aN.id cJ).comp xe) 8 9 0 rfl rfl rfl rfl rfl rfl ?_
  refine ah.pd 8 rfl ?_
  obtain⟨ia,nh,h⟩:=aw h
  refine dF nh (eA (i:=8) (aN.id cJ) (r:=({ av.2.2.2.2.2.2.2.1 with jt:=av.2.2.2.2.2.2.2.2 } :cJ)) vC (ab rfl) rfl rfl rfl) ?_
  refine ah.lT (β:=cJ) (γ:=dy) (b':=(({ av.2.2.2.2.2.1 with jt:=av.2.2.2.2.2.2.1 } :cJ):cJ)) ((aN.id cJ).comp xe) 5 6 0 rfl rfl rfl rfl rfl rfl ?_
  refine ah.pd 5 rfl ?_
  refine cG 5 vC ?_
  refine ah.lT (β:=cJ) (γ:=dy) (b':=(({ av.2.2.1 with jt:=av.2.2.2.1 } :cJ):cJ)) ((aN.id cJ).comp xe) 1 2 0 rfl rfl rfl rfl rfl rfl ?_
  refine ah.pd 1 rfl ?_
  refine cG 1 vC ?_
  obtain⟨g7,ni,h⟩:=aw h
  refine dF ni (iI (r:= [ia,({ av.2.2.2.2.2.1 with jt:=av.2.2.2.2.2.2.1 } :cJ),({ av.2.2.1 with jt:=av.2.2.2.1 } :cJ)]) Tryz.underlying30 vC vB rfl rfl (.cons (by simp) (ab rfl) (.cons (by simp) (ab rfl) (.cons (by simp) (ab rfl) (.nil))))) ?_
  refine aL ?_
  refine aK ?_
  refine ag.ret ?_
  refine ae.bz 3 rfl ?_
  obtain rfl:=aI h
  exact mn ()
theorem KW {aa:bf} {b9:Nat} {r:a3 × bf} (h:xf aa=some r):bM Tryz.prog 16 [I.eq (.pointer (some ⟨b9,0,none⟩))] [⟨some b9,.var (aa:bf)⟩] (δ:=Unit) (fun d=>I.of (r.1)) (fun d=> [⟨some b9,.var (r.2:bf)⟩]):=by
 unfold xf at h
 refine bM.of Tryz.func16 rfl Tryz.ntmps16 rfl fun W A=> ?_
 refine aF ?_
 refine c1 Bx fun aZ=> ?_
 refine b0 ?_
 refine aD ?_
 refine ah.bz 1 rfl ?_
 obtain⟨aG,bo,h⟩:=aw h
 refine eQ 1 gq (gl bo) fun az=> ?_
 refine bm dI ?_
 refine aD ?_
 refine ah.bz 0 rfl ?_
 obtain⟨aJ,cr,h⟩:=aw h
 refine eQ 1 gq (gl cr) fun c7=> ?_
 refine bm dI ?_
 refine bl (qH (b:=({ (default:a3) with Aj:=bq (2 + aG.1),AA:=bq (12 + aJ.1) } :a3)) [5,7] Ms rfl Zi Bx (.cons Rl rfl (ab rfl) rfl (by rfl) (.cons Rx rfl (ab rfl) rfl (by rfl) (.nil)))) ?_
 refine ah.own (α:=fJ) 127 ?_
 refine ah.own (α:=fc) 129 ?_
 refine ah.pa (z:=(default:a3)) [5,7] Ms Bx rfl fun bc=> ?_
 refine ah.own (α:=fJ) 127 ?_
 refine ah.own (α:=fc) 129 ?_
 refine ah.rQ (i:=2) ho (ab rfl) (ab rfl) rfl ?_
 refine b0 ?_
 obtain⟨bE,dE,h⟩:=aw h
 refine dF dE (c3 (b:= { bX:=1,cn:=ByteArray.mk #[105,110,103,114,101,115,115],fq:=16:fx }) rfl r2 pN (.cons pH rfl (bP 1) rfl (.cons rv rfl (dL (ByteArray.mk #[105,110,103,114,101,115,115])) rfl (.cons oZ rfl (bP 16) rfl (.nil))))) ?_
 obtain⟨dt,hD,h⟩:=aw h
 refine dF hD (c3 (b:= { bX:=2,cn:=ByteArray.mk #[101,103,114,101,115,115],fq:=16:fx }) rfl r2 pN (.cons pH rfl (bP 2) rfl (.cons rv rfl (dL (ByteArray.mk #[101,103,114,101,115,115])) rfl (.cons oZ rfl (bP 16) rfl (.nil))))) ?_
 obtain⟨fz,kD,h⟩:=aw h
 refine dF kD (c3 (b:= { bX:=3,cn:=ByteArray.mk #[109,101,116,97],fq:=8:fx }) rfl r2 pN (.cons pH rfl (bP 3) rfl (.cons rv rfl (dL (ByteArray.mk #[109,101,116,97])) rfl (.cons oZ rfl (bP 8) rfl (.nil))))) ?_
 refine hC r2 pN { bX:=4,cn:=ByteArray.mk #[97],fq:=4:fx } (iK pH (iK rv (iK oZ .nil))) ?_
 refine hC r2 pN { bX:=5,cn:=ByteArray.mk #[98],fq:=4:fx } (iK pH (iK rv (iK oZ .nil))) ?_
 obtain⟨ia,nh,h⟩:=aw h
 refine dF nh (c3 (b:= { bX:=6,cn:=ByteArray.mk #[101],fq:=8:fx }) rfl r2 pN (.cons pH rfl (bP 6) rfl (.cons rv rfl (dL (ByteArray.mk #[101])) rfl (.cons oZ rfl (bP 8) rfl (.nil))))) ?_
 obtain⟨g7,ni,h⟩:=aw h
 refine dF ni (c3 (b:= { bX:=7,cn:=ByteArray.mk #[100],fq:=32:fx }) rfl r2 pN (.cons pH rfl (bP 7) rfl (.cons rv rfl (dL (ByteArray.mk #[100])) rfl (.cons oZ rfl (bP 32) rfl (.nil))))) ?_
 obtain⟨jn,p3,h⟩:=aw h
 refine dF p3 (c3 (b:= { bX:=8,cn:=ByteArray.mk #[102],fq:=12:fx }) rfl r2 pN (.cons pH rfl (bP 8) rfl (.cons rv rfl (dL (ByteArray.mk #[102])) rfl (.cons oZ rfl (bP 12) rfl (.nil))))) ?_
 obtain⟨jo,p4,h⟩:=aw h
 refine dF p4 (c3 (b:= { bX:=9,cn:=ByteArray.mk #[103],fq:=4:fx }) rfl r2 pN (.cons pH rfl (bP 9) rfl (.cons rv rfl (dL (ByteArray.mk #[103])) rfl (.cons oZ rfl (bP 4) rfl (.nil))))) ?_
 obtain⟨hN,sn,h⟩:=aw h
 refine dF sn (iI (r:= [bE,dt,fz,{ bX:=4,cn:=ByteArray.mk #[97],fq:=4:fx },{ bX:=5,cn:=ByteArray.mk #[98],fq:=4:fx },ia,g7,jn,jo]) Tryz.underlying24 tw pN rfl rfl (.cons (by simp) (ab rfl) (.cons (by simp) (ab rfl) (.cons (by simp) (ab rfl) (.cons (by simp) (ab rfl) (.cons (by simp) (ab rfl) (.cons (by simp) (ab rfl) (.cons (by simp) (ab rfl) (.cons (by simp) (ab rfl) (.cons (by simp) (ab rfl) (.nil))))))))))) ?_
 refine aY (aT AS) ?_
 obtain⟨l5,wj,h⟩:=aw h
 refine ah.tp (i:=2) ((aN.id a3).comp zn) (v:=(hN:List fx)) (b':=(l5:a3)) yl (ab rfl) (ab rfl) rfl rfl (aI wj) (by rfl) ?_
 refine b0 ?_
 refine hX ([4,5,6]:List Int) Tryz.underlying63 bF jD ?_
 obtain⟨lx,vR,h⟩:=aw h
 refine dF vR (c3 (b:= { bX:=1,cn:=ByteArray.mk #[111,110,101],gV:=([4,5,6]:List Int):jN }) rfl Ip EF (.cons GB rfl (bP 1) rfl (.cons Gt rfl (dL (ByteArray.mk #[111,110,101])) rfl (.cons Gi rfl (ab rfl) rfl (.nil))))) ?_
 refine hX ([7]:List Int) Tryz.underlying63 bF jD ?_
 obtain⟨k1,vS,h⟩:=aw h
 refine dF vS (c3 (b:= { bX:=2,cn:=ByteArray.mk #[116,119,111],gV:=([7]:List Int):jN }) rfl Ip EF (.cons GB rfl (bP 2) rfl (.cons Gt rfl (dL (ByteArray.mk #[116,119,111])) rfl (.cons Gi rfl (ab rfl) rfl (.nil))))) ?_
 refine hX ([8,9]:List Int) Tryz.underlying63 bF jD ?_
 obtain⟨mo,vV,h⟩:=aw h
 refine dF vV (c3 (b:= { bX:=3,cn:=ByteArray.mk #[116,104,114,101,101],gV:=([8,9]:List Int):jN }) rfl Ip EF (.cons GB rfl (bP 3) rfl (.cons Gt rfl (dL (ByteArray.mk #[116,104,114,101,101])) rfl (.cons Gi rfl (ab rfl) rfl (.nil))))) ?_
 refine hX [lx,k1,mo] Tryz.underlying25 Xe EF ?_
 refine aY (aT V4) ?_
 refine ah.tp (i:=2) ((aN.id a3).comp Rr) (v:=([lx,k1,mo]:List jN)) (b':=(({ l5 with te:= [lx,k1,mo] } :a3):a3)) Pw (ab rfl) (ab rfl) rfl rfl rfl (by rfl) ?_
 refine b0 ?_
 refine aD ?_
 refine ah.bz 5 rfl ?_
 obtain⟨bh,e7,h⟩:=aw h
 refine eQ 1 Zj (RR e7) fun dZ=> ?_
 refine aD ?_
 refine ah.bz 0 rfl ?_
 obtain⟨bn,fT,h⟩:=aw h
 refine eQ 1 Zk (RH fT) fun l3=> ?_
 refine aD ?_
 refine ah.bz 0 rfl ?_
 obtain⟨cw,hV,h⟩:=aw h
 refine eQ 1 Zl (RS hV) fun er=> ?_
 refine aY (aT V5) ?_
 obtain⟨k2,Br,h⟩:=aw h
 refine ah.tp (i:=3) ((aN.id a3).comp Ry) (v:=(bh.1:List dK)) (b':=(k2:a3)) Px (ab rfl) (ab rfl) rfl rfl (aI Br) (by rfl) ?_
 refine aY (aT Ny) ?_
 refine ah.tp (i:=3) ((aN.id a3).comp KP) (v:=(bn.1:List dT)) (b':=(({ k2 with dU:=bn.1 } :a3):a3)) IW (ab rfl) (ab rfl) rfl rfl rfl (by rfl) ?_
 refine aY (aT oy) ?_
 obtain⟨ly,Bs,h⟩:=aw h
 refine ah.tp (i:=3) ((aN.id a3).comp om) (v:=(cw.1:List bW)) (b':=(ly:a3)) n1 (ab rfl) (ab rfl) rfl rfl (aI Bs) (by rfl) ?_
 refine b0 ?_
 refine aD ?_
 refine aY (aT oy) ?_
 refine P5 3 om n1 ?_
 refine ah.bz 0 rfl ?_
 obtain⟨dg,hW,h⟩:=aw h
 refine eQ 1 Zm (R2 hW) fun l4=> ?_
 refine aY (aT V6) ?_
 refine ah.tp (i:=3) ((aN.id a3).comp RI) (v:=(dg.1:List cJ)) (b':=(({ ly with ow:=dg.1 } :a3):a3)) Py (ab rfl) (ab rfl) rfl rfl rfl (by rfl) ?_
 refine b0 ?_
 refine hC Bc tB { dW:=1,ig:=1:fJ } (iK zB (iK Gp .nil)) ?_
 refine hC Bc tB { dW:=2,ig:=2:fJ } (iK zB (iK Gp .nil)) ?_
 refine hC Bc tB ({ (default:fJ) with dW:=3 } :fJ) (iK zB .nil) ?_
 refine hC Bc tB { dW:=4,ig:=3:fJ } (iK zB (iK Gp .nil)) ?_
 obtain⟨oI,Bt,h⟩:=aw h
 refine ah.Pt (α:=fJ) (r0:= [{ dW:=1,ig:=1:fJ },{ dW:=2,ig:=2:fJ },({ (default:fJ) with dW:=3 } :fJ),{ dW:=4,ig:=3:fJ }]) (r:=oI) Tryz.underlying29 Iq tB rfl rfl (.cons (by simp) (ab rfl) (.cons (by simp) (ab rfl) (.cons (by simp) (ab rfl) (.cons (by simp) (ab rfl) (.nil))))) (aI Bt) rfl fun g3=> ?_
 refine aY (aT HX) ?_
 refine ah.j6 (i:=4) (γ:=fJ) (b':=(({ ({ ly with ow:=dg.1 } :a3) with nJ:= [] } :a3):a3)) (os':= [(5,a2 g3 oI.length 4),(7,a2 none ([]:List fc).length 0)]) ((aN.id a3).comp Gj) EX (ab rfl) (ab rfl) jc rfl rfl rfl rfl ?_
 refine bO ?_
 refine aF ?_
 refine aD ?_
 refine ah.bz 1 rfl ?_
 obtain⟨c8,nk,h⟩:=aw h
 refine eQ 1 n2 (nE nk) fun ob=> ?_
 refine aK ?_
 obtain⟨bp,ck,h⟩:=aw h
 refine jS (γ:=(Option Nat × Nat)) [0,2,3,51] (fun aq=> []) (fun aq=> [(1,⟨aq.1,.row 127 (bp:List fJ) aq.2⟩),(4,⟨some bc,.b4 (({ ({ ly with ow:=dg.1 } :a3) with nJ:= [] } :a3):a3) [(5,a2 aq.1 bp.length aq.2),(7,a2 none ([]:List fc).length 0)]⟩)]) (fun aq=> ?_) (fun hm ak=> ?_) fun hm ak=> ?_
 ·clear ck
  refine ae.next ?_
  refine ag.seq ?_
  refine aF ?_
  refine aD ?_
  refine ah.bz 0 rfl ?_
  obtain⟨eX,nm,h⟩:=aw h
  refine eQ 1 n2 (nE nm) fun FV=> ?_
  refine aK ?_
  obtain⟨cP,eb,h⟩:=aw h
  refine jS (γ:=(Option Nat × Nat)) [0,2,3,51,59] (fun bd=> []) (fun bd=> [(4,⟨some bc,.b4 (cP.1:a3) [(5,a2 aq.1 bp.length aq.2),(7,a2 bd.1 cP.2.length bd.2)]⟩),(5,⟨bd.1,.row 129 (cP.2:List fc) bd.2⟩)]) (fun bd=> ?_) (fun hm ak=> ?_) fun hm ak=> ?_
  ·clear eb
   refine ae.next ?_
   refine ag.seq ?_
   refine aF ?_
   refine aD ?_
   refine ah.bz 0 rfl ?_
   obtain⟨fV,p6,h⟩:=aw h
   refine eQ 1 n2 (nE p6) fun qo=> ?_
   refine aD ?_
   refine ey (aT oy) ?_
   refine ep (fun hb=>D6 (i:=4) ((aN.id a3).comp om) (r:=cP.1.b7) n1 (cb rfl hb) rfl rfl rfl (by rfl)) ?_
   obtain⟨a8,cE,h⟩:=aw h
   refine ep (fun hb=>qU (k:=a8) Tryz.underlying28 hn (cb rfl hb) (bP 2) (cL (fE cE hb))) ?_
   refine ep (fun hb=>EG kQ mH (cb rfl hb) rfl rfl) ?_
   refine ey (dV mg) ?_
   refine ey (eK Tryz.underlying62) ?_
   refine kE gN ?_
   refine jB ?_
   refine aK ?_
   obtain⟨ff,gG,h⟩:=aw h
   refine jS (γ:=(Option Nat × Nat)) [0,2,3,51,59,76] (fun bN=> []) (fun bN=> [(4,⟨some bc,.b4 (ff.1:a3) [(5,a2 aq.1 bp.length aq.2),(7,a2 bN.1 ff.2.length bN.2)]⟩),(5,⟨bN.1,.row 129 (ff.2:List fc) bN.2⟩)]) (fun bN=> ?_) (fun hm ak=> ?_) fun hm ak=> ?_
   ·clear gG
    refine ae.next ?_
    refine ag.seq ?_
    refine aF ?_
    refine aD ?_
    refine ah.bz 0 rfl ?_
    obtain⟨gH,r8,h⟩:=aw h
    refine eQ 1 n2 (nE r8) fun jT=> ?_
    refine aD ?_
    refine ey (aT oy) ?_
    refine ep (fun hb=>D6 (i:=4) ((aN.id a3).comp om) (r:=ff.1.b7) n1 (cb rfl hb) rfl rfl rfl (by rfl)) ?_
    obtain⟨bY,cX,h⟩:=aw h
    refine ep (fun hb=>qU (k:=bY) Tryz.underlying28 hn (cb rfl hb) (bP 3) (cL (fE cX hb))) ?_
    refine ep (fun hb=>EG kQ mH (cb rfl hb) rfl rfl) ?_
    refine ey (dV mg) ?_
    refine ey (eK Tryz.underlying62) ?_
    refine kE gN ?_
    refine jB ?_
    refine aK ?_
    obtain⟨pA,BT,h⟩:=aw h
    refine jS (γ:=(Option Nat × Nat)) [0,2,3,51,59,76,93] (fun dq=> []) (fun dq=> [(4,⟨some bc,.b4 (pA.1:a3) [(5,a2 aq.1 bp.length aq.2),(7,a2 dq.1 pA.2.length dq.2)]⟩),(5,⟨dq.1,.row 129 (pA.2:List fc) dq.2⟩)]) (fun dq=> ?_) (fun hm ak=> ?_) fun hm ak=> ?_
    ·clear BT
     refine ae.next ?_
     refine aF ?_
     refine ah.lT (β:=a3) (γ:=fJ) (b':=(({ pA.1 with nJ:=bp } :a3):a3)) ((aN.id a3).comp Gj) 4 1 0 rfl rfl rfl rfl rfl rfl ?_
     refine ah.lT (β:=a3) (γ:=fc) (b':=(({ ({ pA.1 with nJ:=bp } :a3) with oA:=pA.2 } :a3):a3)) ((aN.id a3).comp Dc) 4 5 0 rfl rfl rfl rfl rfl rfl ?_
     refine ah.pd 4 rfl ?_
     obtain⟨pn,Bu,h⟩:=aw h
     refine dF Bu (eA (i:=4) (aN.id a3) (r:=({ ({ pA.1 with nJ:=bp } :a3) with oA:=pA.2 } :a3)) ho (ab rfl) rfl rfl rfl) ?_
     refine cA 7 ho ?_
     refine aK ?_
     refine ag.ret ?_
     refine ae.bz 0 rfl ?_
     obtain rfl:=aI h
     exact ae.fi () (.cons_cons _ (List.nil_sublist _)) rfl rfl (ju (i:=7) ho rfl rfl)
    ·have h:=gZ ak BT
     refine ag.cz ?_
     refine aY (aT xZ) ?_
     refine bl (ih (i:=4) (q:=1) (β:=a3) (γ:=fc) vY (ab rfl) rfl rfl) ?_
     obtain⟨nn,I0,h⟩:=aw h
     refine dF I0 (c3 (b:=({ (default:fc) with dW:=4,vE:=1,pI:=1 } :fc)) rfl EH qW (.cons Ds rfl (bP 4) rfl (.cons K7 rfl (bP 1) rfl (.cons Dd rfl (bP 1) rfl (.nil))))) ?_
     obtain⟨so,Bv,h⟩:=aw h
     refine dF Bv (c3 (b:=({ (default:fc) with dW:=4,kR:=5,pI:=1 } :fc)) rfl EH qW (.cons Ds rfl (bP 4) rfl (.cons K0 rfl (bP 5) rfl (.cons Dd rfl (bP 1) rfl (.nil))))) ?_
     refine hX [nn,so] Tryz.underlying31 ya qW ?_
     obtain⟨hY,r9,h⟩:=aw h
     refine nq 5 Tryz.underlying31 ya qW r9 fun mP fC=> ?_
     refine aY (aT xZ) ?_
     refine ah.j6 (i:=4) (γ:=fc) (b':=(({ ff.1 with oA:= [] } :a3):a3)) (os':= [(5,a2 aq.1 bp.length aq.2),(7,a2 mP hY.length fC)]) ((aN.id a3).comp Dc) vY (ab rfl) (ab rfl) jc rfl rfl rfl rfl ?_
     refine ah.nil ?_
     obtain rfl:=aI h
     exact dp 0 (hm (mP,fC))
    ·have h:=g1 ak BT
     refine ag.skip ?_
     obtain rfl:=aI h
     exact dp 0 (hm (bN.1,bN.2))
   ·have h:=gZ ak gG
    refine ag.cz ?_
    refine aY (aT xZ) ?_
    refine bl (ih (i:=4) (q:=1) (β:=a3) (γ:=fc) vY (ab rfl) rfl rfl) ?_
    obtain⟨q7,yn,h⟩:=aw h
    refine dF yn (c3 (b:=({ (default:fc) with dW:=3,vE:=2,pI:=1 } :fc)) rfl EH qW (.cons Ds rfl (bP 3) rfl (.cons K7 rfl (bP 2) rfl (.cons Dd rfl (bP 1) rfl (.nil))))) ?_
    refine hX [q7] Tryz.underlying31 ya qW ?_
    obtain⟨gQ,vQ,h⟩:=aw h
    refine nq 5 Tryz.underlying31 ya qW vQ fun oG pU=> ?_
    refine aY (aT xZ) ?_
    refine ah.j6 (i:=4) (γ:=fc) (b':=(({ cP.1 with oA:= [] } :a3):a3)) (os':= [(5,a2 aq.1 bp.length aq.2),(7,a2 oG gQ.length pU)]) ((aN.id a3).comp Dc) vY (ab rfl) (ab rfl) jc rfl rfl rfl rfl ?_
    refine ah.nil ?_
    obtain rfl:=aI h
    exact dp 0 (hm (oG,pU))
   ·have h:=g1 ak gG
    refine ag.skip ?_
    obtain rfl:=aI h
    exact dp 0 (hm (bd.1,bd.2))
  ·have h:=gZ ak eb
   refine ag.cz ?_
   refine aY (aT xZ) ?_
   refine bl (ih (i:=4) (q:=1) (β:=a3) (γ:=fc) vY (ab rfl) rfl rfl) ?_
   obtain⟨Jo,Zn,h⟩:=aw h
   refine dF Zn (c3 (b:=({ (default:fc) with dW:=2,kR:=4,pI:=1 } :fc)) rfl EH qW (.cons Ds rfl (bP 2) rfl (.cons K0 rfl (bP 4) rfl (.cons Dd rfl (bP 1) rfl (.nil))))) ?_
   refine hX [Jo] Tryz.underlying31 ya qW ?_
   obtain⟨h7,sa,h⟩:=aw h
   refine nq 5 Tryz.underlying31 ya qW sa fun yo vX=> ?_
   refine aY (aT xZ) ?_
   refine ah.j6 (i:=4) (γ:=fc) (b':=(({ ({ ({ ly with ow:=dg.1 } :a3) with nJ:= [] } :a3) with oA:= [] } :a3):a3)) (os':= [(5,a2 aq.1 bp.length aq.2),(7,a2 yo h7.length vX)]) ((aN.id a3).comp Dc) vY (ab rfl) (ab rfl) jc rfl rfl rfl rfl ?_
   refine ah.nil ?_
   obtain rfl:=aI h
   exact dp 0 (hm (yo,vX))
  ·have h:=g1 ak eb
   refine ag.skip ?_
   obtain rfl:=aI h
   exact dp 0 (hm (none,0))
 ·have h:=gZ ak ck
  refine ag.cz ?_
  refine aY (aT HX) ?_
  refine bl (ih (i:=4) (q:=0) (β:=a3) (γ:=fJ) EX (ab rfl) rfl rfl) ?_
  refine hC Bc tB ({ (default:fJ) with dW:=1 } :fJ) (iK zB .nil) ?_
  refine hX [({ (default:fJ) with dW:=1 } :fJ)] Tryz.underlying29 Iq tB ?_
  obtain⟨hL,Bq,h⟩:=aw h
  refine nq 1 Tryz.underlying29 Iq tB Bq fun vW Pz=> ?_
  refine aY (aT HX) ?_
  refine ah.j6 (i:=4) (γ:=fJ) (b':=(({ ({ ly with ow:=dg.1 } :a3) with nJ:= [] } :a3):a3)) (os':= [(5,a2 vW hL.length Pz),(7,a2 none ([]:List fc).length 0)]) ((aN.id a3).comp Gj) EX (ab rfl) (ab rfl) jc rfl rfl rfl rfl ?_
  refine ah.nil ?_
  obtain rfl:=aI h
  exact dp 0 (hm (vW,Pz))
 ·have h:=g1 ak ck
  refine ag.skip ?_
  obtain rfl:=aI h
  exact dp 0 (hm (g3,4))
theorem S6 {aa:ar} {aj:ar} {r:ar} (h:Ag aa aj=some r):bK Tryz.prog 193 [I.of (aa),I.of (aj)] (I.of (r)):=by
 unfold Ag at h
 refine bK.of Tryz.func193 rfl Tryz.ntmps193 rfl fun W A=> ?_
 refine aF ?_
 refine cj fun aZ=> ?_
 refine cj fun bc=> ?_
 refine c1 ek fun cC=> ?_
 refine b0 ?_
 refine aY (aT j5) ?_
 refine cq 2 hx eC ?_
 refine aY (aT j5) ?_
 refine cq 1 hx eC ?_
 refine bm M1 ?_
 refine aY (aT h4) ?_
 refine cq 2 ef eC ?_
 refine aY (aT h4) ?_
 refine cq 1 ef eC ?_
 refine bm M1 ?_
 obtain⟨bE,dE,h⟩:=aw h
 refine dF dE (c3 (b:= { cV:=aa.cV ^^^ aj.cV,bG:=aa.bG ^^^ aj.bG:ar }) rfl ha ek (.cons hx rfl (ab rfl) rfl (.cons ef rfl (ab rfl) rfl (.nil)))) ?_
 refine cA 0 bQ ?_
 refine aK ?_
 refine ag.ret ?_
 obtain rfl:=aI h
 exact ae.jg rfl (hK 0 bQ)
theorem Ah {aa:ar} {aj:ar} {r:ar} (h:s9 aa aj=some r):bK Tryz.prog 148 [I.of (aa),I.of (aj)] (I.of (r)):=by
 unfold s9 at h
 refine bK.of Tryz.func148 rfl Tryz.ntmps148 rfl fun W A=> ?_
 refine aF ?_
 refine cj fun aZ=> ?_
 refine cj fun bc=> ?_
 refine c1 ek fun cC=> ?_
 refine b0 ?_
 refine aY (aT j5) ?_
 refine cq 2 hx eC ?_
 refine aY (aT j5) ?_
 refine cq 1 hx eC ?_
 refine bm qI ?_
 refine aY (aT h4) ?_
 refine cq 2 ef eC ?_
 refine aY (aT h4) ?_
 refine cq 1 ef eC ?_
 refine bm qI ?_
 obtain⟨bE,dE,h⟩:=aw h
 refine dF dE (c3 (b:= { cV:=aa.cV &&& aj.cV,bG:=aa.bG &&& aj.bG:ar }) rfl ha ek (.cons hx rfl (ab rfl) rfl (.cons ef rfl (ab rfl) rfl (.nil)))) ?_
 refine cA 0 bQ ?_
 refine aK ?_
 refine ag.ret ?_
 obtain rfl:=aI h
 exact ae.jg rfl (hK 0 bQ)
theorem Du {aa:Ref} {aj:ar} {aP:Int} {r:Int × ar × Ref} (h:xp aa aj aP=some r):bK Tryz.prog 250 [I.of (aa),I.of (aj),I.of (aP)] (I.gF 255 [I.ptr r.1,I.ptr r.2.1,I.ptr r.2.2]):=by
 unfold xp at h
 refine bK.of Tryz.func250 rfl Tryz.ntmps250 rfl fun W A=> ?_
 refine aF ?_
 refine cj fun aZ=> ?_
 refine cj fun bc=> ?_
 refine cj fun cC=> ?_
 refine bl (eB (HR .nilFunc)) ?_
 refine b0 ?_
 refine ah.share (α:=Int) 0 5 rfl rfl ?_
 refine ah.share (α:=ar) 1 4 rfl rfl ?_
 refine ah.share (α:=Ref) 2 3 rfl rfl ?_
 refine bl (Oa (f:=255) (τs:= [I.ptr aP,I.ptr aj,I.ptr aa]) ⟨ab rfl,ab rfl,ab rfl,trivial⟩) ?_
 refine aL ?_
 refine aK ?_
 refine ag.ret ?_
 obtain rfl:=aI h
 exact cR
theorem Rm {aa:List bV} {r:(List bV)} (h:C3 aa=some r):bK Tryz.prog 161 [I.of (aa)] (I.of (r)):=by
 unfold C3 at h
 refine bK.of Tryz.func161 rfl Tryz.ntmps161 rfl fun W A=> ?_
 refine aF ?_
 refine bl (eB (look_nil (α:=bV))) ?_
 refine bO ?_
 refine aF ?_
 refine aD ?_
 refine bl (Of Tryz.underlying47 (ab rfl)) ?_
 refine aK ?_
 refine ag.Og (ab rfl) (fun an=> ?_) ?_
 ·subst an; replace h:=L3 h; subst h
  have h:some ([]:List bV)=some []:=rfl
  refine aF ?_
  refine bl (eB (look_nil (α:=bV))) ?_
  refine aK ?_
  refine ag.ret ?_
  refine ae.ret ?_
  replace h:=aI h
  clear h
  exact cR
 ·refine cW ?_
  refine aF ?_
  refine ah.q2 (α:=bV) (r:=([]:List bV)) Tryz.underlying47 fr mN rfl rfl (.nil) rfl fun g3=> ?_
  refine aD ?_
  obtain⟨aG,bo,h⟩:=aw h
  refine nq 0 Tryz.underlying47 fr mN bo fun mP fC=> ?_
  refine aL ?_
  refine aK ?_
  refine ag.ret ?_
  refine ae.m7 (α:=bV) 0 [2,7] ⟨rfl,rfl,trivial⟩ rfl ?_
  obtain rfl:=aI h
  exact cR
theorem Rn {aa:List ar} {r:(List ar)} (h:C4 aa=some r):bK Tryz.prog 162 [I.of (aa)] (I.of (r)):=by
 unfold C4 at h
 refine bK.of Tryz.func162 rfl Tryz.ntmps162 rfl fun W A=> ?_
 refine aF ?_
 refine bl (eB (look_nil (α:=ar))) ?_
 refine bO ?_
 refine aF ?_
 refine aD ?_
 refine bl (Of Tryz.underlying48 (ab rfl)) ?_
 refine aK ?_
 refine ag.Og (ab rfl) (fun an=> ?_) ?_
 ·subst an; replace h:=L3 h; subst h
  have h:some ([]:List ar)=some []:=rfl
  refine aF ?_
  refine bl (eB (look_nil (α:=ar))) ?_
  refine aK ?_
  refine ag.ret ?_
  refine ae.ret ?_
  replace h:=aI h
  clear h
  exact cR
 ·refine cW ?_
  refine aF ?_
  refine ah.q2 (α:=ar) (r:=([]:List ar)) Tryz.underlying48 bQ ek rfl rfl (.nil) rfl fun g3=> ?_
  refine aD ?_
  obtain⟨aG,bo,h⟩:=aw h
  refine nq 0 Tryz.underlying48 bQ ek bo fun mP fC=> ?_
  refine aL ?_
  refine aK ?_
  refine ag.ret ?_
  refine ae.m7 (α:=ar) 0 [2,7] ⟨rfl,rfl,trivial⟩ rfl ?_
  obtain rfl:=aI h
  exact cR
theorem Ro {aa:List bV} {aj:List bV} {r:Bool} (h:zj aa aj=some r):bK Tryz.prog 270 [I.of (aa),I.of (aj)] (I.of (r)):=by
 unfold zj at h
 refine bK.of Tryz.func270 rfl Tryz.ntmps270 rfl fun W A=> ?_
 refine aF ?_
 refine aL ?_
 refine bO ?_
 refine aF ?_
 refine aD ?_
 refine aY (eK Tryz.underlying47) ?_
 refine aD ?_
 refine aY (eK Tryz.underlying47) ?_
 refine bm qV ?_
 refine aK ?_
 refine cm h (fun h=>?_) fun h=>?_
 ·refine aF ?_
  refine aL ?_
  refine aK ?_
  refine ag.ret ?_
  refine ae.ret ?_
  obtain rfl:=aI h
  exact cR
 ·refine cW ?_
  refine ag.seq ?_
  refine aF ?_
  refine aD ?_
  refine aY (eK Tryz.underlying47) ?_
  refine aD ?_
  refine aK ?_
  refine ag.block ?_
  obtain⟨av,ao,h⟩:=aw h
  refine hT (γ:=Unit) (δ:=Unit) ao [0,1,4,10,12] (fun s1 aq=> [(13,I.of (s1))]) (fun s1 aq=> []) (fun az=>Sum.elim (fun az=>Exit.exit 0) (fun az=>Exit.ret) az) (fun az aq=>Sum.elim (fun az=> [(13,I.of (az.1)),(14,I.of (az.2))]) (fun az=> [(5,I.of (az.1)),(13,I.of (az.2.1)),(14,I.of (az.2.2.1)),(24,I.of (az.2.2.2))]) az) (fun az aq=>Sum.elim (fun az=> []) (fun az=> []) az) () (fun s1 r h aq=> ?_) fun aq=> ?_
  ·clear ao
   refine aF ?_
   refine bm eT ?_
   refine bO ?_
   refine cm h (fun h=>?_) fun h=>?_
   ·refine cW ?_
    refine ag.seq ?_
    refine ag.block ?_
    refine aF ?_
    refine aD ?_
    refine aL ?_
    refine bO ?_
    obtain⟨a8,cE,h⟩:=aw h
    obtain⟨bY,cX,h⟩:=aw h
    refine ag.draw mixed 9 [some 16,some 17,some 18,some 19,some 20,some 21,some 22,some 23,some 24] [[],[],[0,1],[2],[],[],[4,5],[6],[3,7]] [.val _,.val _,.val _,.val _,.val _,.val _,.val _,.val _,.val _] [false,false,false,false,false,false,false,false,false] (by kernel_rfl) rfl rfl rfl (fun da=>⟨cZ,cZ,nj cE Tryz.underlying47 fr,H1 (dV fr),cZ,cZ,nj cX Tryz.underlying47 fr,H1 (dV fr),iC (Ex Oh rfl Oi rfl),trivial⟩) fun da=> ?_
    refine aK ?_
    refine cm h (fun h=>?_) fun h=>?_
    ·refine aF ?_
     refine aL ?_
     refine aK ?_
     refine ag.ret ?_
     refine ae.dn ?_
     refine ae.ret ?_
     obtain rfl:=aI h
     exact eD () 0
    ·refine ag.skip ?_
     refine ae.ea ?_
     refine ae.next ?_
     refine ag.cz ?_
     refine bm dI ?_
     refine aD ?_
     refine ah.nil ?_
     obtain rfl:=aI h
     exact gP () 0
   ·refine ag.exit ?_
    refine ae.exit ?_
    obtain rfl:=aI h
    exact eD () 0
  ·clear ao
   rcases av with av | av
   ·simp only [Sum.elim_inl] at h
    refine ae.fM ?_
    refine ae.next ?_
    refine aF ?_
    refine aL ?_
    refine aK ?_
    refine ag.ret ?_
    obtain rfl:=aI h
    exact cR
   ·simp only [Sum.elim_inr] at h
    refine ae.dn ?_
    refine ae.ret ?_
    obtain rfl:=aI h
    exact cR
theorem Si {hp:aS Cell} {aa:Ref} {aj:Vector ar 4} {aP:Int} {r:Bool × (aS Cell)} (h:Dt hp aa aj aP=some r):bM Tryz.prog 233 [I.of (aa),I.of (aj),I.of (aP)] ([] ++ aV hp) (δ:=Unit) (fun d=>I.of (r.1)) (fun d=> [] ++ aV r.2):=by
 unfold Dt at h
 refine bM.of Tryz.func233 rfl Tryz.ntmps233 rfl fun W A=> ?_
 refine aF ?_
 refine cj fun aZ=> ?_
 refine aL ?_
 refine bO ?_
 refine aF ?_
 refine aD ?_
 refine bl (mE Tryz.underlying163 (ab rfl)) ?_
 refine aK ?_
 refine cm h (fun h=>?_) fun h=>?_
 ·refine aF ?_
  refine aL ?_
  refine aK ?_
  refine ag.ret ?_
  refine ae.ret ?_
  obtain rfl:=aI h
  exact ae.fi () (.cons _ (.refl _)) rfl rfl (dv rfl)
 ·refine cW ?_
  refine ag.seq ?_
  refine ag.seq ?_
  obtain⟨ca,dh,h⟩:=aw h
  obtain⟨bC,dP,h⟩:=aw h
  obtain⟨b2,eZ,h⟩:=aw h
  obtain⟨cf,fk,h⟩:=aw h
  obtain⟨bE,dE,h⟩:=aw h
  refine ag.draw mixed 10 [some 12,some 13,some 14,some 15,some 16,some 17,some 11,some 18,some 19,some 7] [[],[0],[1],[2],[],[3,4],[5],[6],[6],[7]] [.val _,.val _,.val _,.val _,.val _,.val _,.val _,.val _,.val _,.val _] [false,false,false,false,false,false,false,false,false,false] (by kernel_rfl) rfl rfl rfl (fun da=>⟨cZ,dO fun L' al=>dD (eg (ab rfl) dh),H1 (aT D2),dO fun L' al=>fA ((aN.id m5).comp zx) (r:=bC.oD) A5 (ab rfl) (kc (fun i e q=>al i e q rfl) (eM (n:=1) rfl (tn dP) rfl)) rfl rfl,fy 0 jx,dO fun L' al=>Ha (r:=bE) Tryz.underlying222 Ey jD (l7 (ab rfl) eZ) (ab rfl) (kc (fun i e q=>al i e q rfl) (eM (n:=1) rfl (qO fk) rfl)) (aI dE),cZ,yB,yB,wU,trivial⟩) fun da=> ?_
  refine aL ?_
  refine b0 ?_
  refine aD ?_
  refine aK ?_
  refine cm h (fun h=>?_) fun h=>?_
  ·refine aF ?_
   refine aL ?_
   refine aK ?_
   refine ag.ret ?_
   refine ae.ret ?_
   obtain rfl:=aI h
   exact ae.fi () (.cons _ (.refl _)) rfl rfl (dv rfl)
  ·refine cW ?_
   refine ag.seq ?_
   refine ag.draw mixed 6 [some 21,some 22,some 23,some 24,some 25,some 26] [[],[0],[1],[2],[],[]] [.val _,.val _,.val _,.val _,.val _,.val _] [false,false,false,false,false,false] (by kernel_rfl) rfl rfl rfl (fun kg=>⟨cZ,dO fun L' al=>dD (eg (ab rfl) dh),H1 (aT D2),dO fun L' al=>fA ((aN.id m5).comp zx) (r:=bC.oD) A5 (ab rfl) (kc (fun i e q=>al i e q rfl) (eM (n:=1) rfl (tn dP) rfl)) rfl rfl,fy 0 jx,cZ,trivial⟩) fun kg=> ?_
   obtain⟨cS,kz,h⟩:=aw h
   refine ah.Ir (k':=Cell.n0 (gO cf aj aP)) 1 rfl (by first | exact .inl rfl | exact .inr rfl) Tryz.underlying222 Ey (l7 (ab rfl) eZ) (ab rfl) (ab rfl) (qO fk) rfl rfl rfl (aI kz) ?_
   refine b0 ?_
   refine aL ?_
   refine aK ?_
   refine ag.ret ?_
   obtain rfl:=aI h
   exact ae.fi () (.cons _ (.refl _)) rfl rfl (dv rfl)
theorem R4 {hp:aS Cell} {aa:jM} {aj:bu} {r:Int × Bool} (h:zM hp aa aj=some r):bM Tryz.prog 227 [I.of (aa),I.of (aj)] ([] ++ aV hp) (δ:=Unit) (fun _=>I.ed [I.of (r.1),I.of (r.2)]) (fun _=> [] ++ aV hp):=by
 unfold zM at h
 refine bM.of Tryz.func227 rfl Tryz.ntmps227 rfl fun W A=> ?_
 refine aF ?_
 refine cj fun aZ=> ?_
 refine cj fun bc=> ?_
 refine aL ?_
 refine aL ?_
 refine bO ?_
 obtain⟨aG,bo,h⟩:=aw h
 obtain⟨aJ,cr,h⟩:=aw h
 refine iz [0,1,2,3] ?_
 refine ag.pP 2 mixed (a6 6 [] [] _ :: a6 7 (0 :: []) (1 :: []) _ :: a6 8 [] (0 :: []) _ :: a6 9 (2 :: []) [] _ :: ⟨some 10,(1 :: 3 :: []),[],[],fun _=>I.ed [I.of (aJ.1),I.of (aJ.2)],fun _ _=>⟨none,.dead⟩⟩ :: a6 11 (4 :: []) [] _ :: a6 12 (4 :: []) [] _ :: a6 4 (5 :: []) [] _ :: a6 5 (6 :: []) [] _ :: []) _ (0 :: 1 :: 2 :: 3 :: []) rfl rfl (by kernel_rfl) (by kernel_rfl) ⟨ct.q (fe (aT D4)),ct.q (n6 1 zG A8),ct.q (lW 0 hf),ct.q (b8 fun hd E' L' aB al=>iG EI (Dx bo) ⟨ab (aB _ _ rfl),trivial⟩),?_,ct.q (b8 fun hd E' L' aB al=>lq (ab (aB _ _ rfl)) rfl),ct.q (b8 fun hd E' L' aB al=>lq (ab (aB _ _ rfl)) rfl),ct.q (b8 fun hd E' L' aB al=>eB (ab (aB _ _ rfl))),ct.q (b8 fun hd E' L' aB al=>eB (ab (aB _ _ rfl))),trivial⟩ fun eP=> ?_
 ·intro hd E' L' aB al de
  refine ah.iM (fG.jd 2 (de.trans rfl) Ij (GD cr) ⟨ab (aB _ _ rfl),ab (aB _ _ rfl),trivial⟩) rfl rfl rfl ?_
  refine ah.nil ?_
  exact ae.fin (dY []) rfl rfl
 refine ae.dR (L2:=(⟨some bc,.var (aj:bu)⟩ :: ⟨some aZ,.var (aa:jM)⟩ :: aV hp)) rfl ?_
 refine jC [0,1,2,3,4,5,6,7,8,9,10,11,12] ?_
 refine ae.next ?_
 refine ag.ret ?_
 obtain rfl:=aI h
 exact ae.ky () (.cons _ (.cons _ (.refl _))) rfl rfl (dv rfl) (dv rfl)
theorem Gg {aa:gz} {aj:bu} {r:(Vector ar 4) × ar × Int} (h:uD aa aj=some r):bK Tryz.prog 239 [I.of (aa),I.of (aj)] (I.ed [I.of (r.1),I.of (r.2.1),I.of (r.2.2)]):=by
 unfold uD at h
 refine bK.of Tryz.func239 rfl Tryz.ntmps239 rfl fun W A=> ?_
 refine aF ?_
 refine cj fun aZ=> ?_
 refine cj fun bc=> ?_
 refine c1 vy fun cC=> ?_
 refine c1 ek fun fm=> ?_
 refine aL ?_
 refine bO ?_
 obtain⟨aG,bo,h⟩:=aw h
 obtain⟨aJ,cr,h⟩:=aw h
 refine ag.draw mixed 10 [some 10,some 11,some 12,some 13,some 9,some 14,some 15,some 7,some 8,none] [[],[],[1],[0,2],[3],[4],[4],[],[],[5,7]] [.val _,.val _,.val _,.val _,.val _,.val _,.val _,.new (.var (default:Vector ar 4)),.new (.var (default:ar)),.mS 7 (.var (aJ.1:Vector ar 4))] [false,false,false,false,false,false,false,false,false,true] (by kernel_rfl) rfl rfl rfl (fun da=>⟨fy 3 Bd,fy 2 hf,fl EI (Dx bo),fl Oj (KR cr),cZ,yB,yB,Az vy,Az ek,⟨rfl,_,rfl,fun L' q hq=>vi (i:=q) (aN.id (Vector ar 4)) (v:=(aJ.1:Vector ar 4)) (b':=(aJ.1:Vector ar 4)) j7 (ab rfl) (ab rfl) hq rfl rfl⟩,trivial⟩) fun da=> ?_
 refine cA 1 bQ ?_
 refine bO ?_
 refine aF ?_
 refine aY (aT D3) ?_
 refine cq 5 zk bF ?_
 refine aY (aT lk) ?_
 refine cq 4 lh kY ?_
 refine aY (eK Tryz.underlying47) ?_
 refine bm kT ?_
 refine aK ?_
 refine cm h (fun h=>?_) fun h=>?_
 ·refine ag.seq ?_
  refine ag.draw mixed 3 [some 22,some 23,none] [[],[],[0]] [.val _,.val _,.k0 3 (.var (aJ.1:Vector ar 4))] [false,false,true] (by kernel_rfl) rfl rfl rfl (fun kg=>⟨fy 0 j7,fy 1 bQ,⟨_,_,rfl,fun L' al=>vi (i:=3) (aN.id (Vector ar 4)) (v:=(aJ.1:Vector ar 4)) (b':=(aJ.1:Vector ar 4)) j7 (ab rfl) (ab rfl) (al _ _ rfl) rfl rfl⟩,trivial⟩) fun kg=> ?_
  refine cA 2 bQ ?_
  refine aL ?_
  refine aK ?_
  refine ag.ret ?_
  refine ae.ret ?_
  obtain rfl:=aI h
  exact ae.PA rfl (hK 3 j7) (hK 2 bQ) (vZ rfl)
 ·refine cW ?_
  refine ag.seq ?_
  obtain⟨a8,cE,h⟩:=aw h
  refine ag.draw mixed 11 [some 24,some 25,some 26,some 27,some 28,some 29,some 30,some 31,some 32,none,none] [[],[],[],[2],[],[4],[3,5],[6],[7],[0],[1]] [.val _,.val _,.val _,.val _,.val _,.val _,.val _,.val _,.val _,.k0 3 (.var (aJ.1:Vector ar 4)),.k0 2 (.var (aJ.2:ar))] [false,false,false,false,false,false,false,false,false,true,true] (by kernel_rfl) rfl rfl rfl (fun Fm=>⟨fy 0 j7,fy 1 bQ,H1 (aT lk),dz 4 lh kY,H1 (aT D3),dz 5 zk bF,nj cE Tryz.underlying47 fr,tY m3 o8,H1 (dV bF),⟨_,_,rfl,fun L' al=>vi (i:=3) (aN.id (Vector ar 4)) (v:=(aJ.1:Vector ar 4)) (b':=(aJ.1:Vector ar 4)) j7 (ab rfl) (ab rfl) (al _ _ rfl) rfl rfl⟩,⟨_,_,rfl,fun L' al=>vi (i:=2) (aN.id ar) (v:=(aJ.2:ar)) (b':=(aJ.2:ar)) bQ (ab rfl) (ab rfl) (al _ _ rfl) rfl rfl⟩,trivial⟩) fun Fm=> ?_
  refine aL ?_
  refine aK ?_
  refine ag.ret ?_
  obtain rfl:=aI h
  exact ae.PA rfl (hK 3 j7) (hK 2 bQ) (vZ rfl)
theorem GN {aa:Int} {r:ar} (h:uM aa=some r):bK Tryz.prog 188 [I.of (aa)] (I.of (r)):=by
 unfold uM at h
 refine bK.of Tryz.func188 rfl Tryz.ntmps188 rfl fun W A=> ?_
 refine aF ?_
 refine c1 ek fun aZ=> ?_
 refine b0 ?_
 obtain⟨bE,dE,h⟩:=aw h
 refine dF dE (c3 (b:= { cV:=18446744073709551615#64,bG:=18446744073709551615#64:ar }) rfl ha ek (.cons hx rfl (fK 18446744073709551615 rfl) rfl (.cons ef rfl (fK 18446744073709551615 rfl) rfl (.nil)))) ?_
 refine aD ?_
 obtain⟨aG,bo,h⟩:=aw h
 refine e6 Ok (Lh bo) ?_
 refine bm ix ?_
 obtain⟨aJ,cr,h⟩:=aw h
 refine e6 Ol (Lp cr) ?_
 refine cA 0 bQ ?_
 refine aK ?_
 refine ag.ret ?_
 obtain rfl:=aI h
 exact ae.jg rfl (hK 0 bQ)
theorem LB {aa:ar} {aj:Int} {r:Bool} (h:uR aa aj=some r):bK Tryz.prog 196 [I.of (aa),I.of (aj)] (I.of (r)):=by
 unfold uR at h
 refine bK.of Tryz.func196 rfl Tryz.ntmps196 rfl fun W A=> ?_
 refine aF ?_
 refine cj fun aZ=> ?_
 refine aL ?_
 refine b0 ?_
 refine aD ?_
 refine bm kT ?_
 refine aD ?_
 refine ey cM ?_
 refine kE eT ?_
 refine jB ?_
 refine aD ?_
 refine ep (fun hb=>eA (i:=0) (aN.id ar) (r:=aa) bQ (ab rfl) rfl rfl rfl) ?_
 refine ey cM ?_
 obtain⟨aG,bo,h⟩:=aw h
 refine ep (fun hb=>iG Ol (Lp (fE bo hb)) ⟨cb rfl hb,cb rfl hb,trivial⟩) ?_
 refine ep (fun hb=>Hv ef Nz eC rfl (cb rfl hb) rfl rfl) ?_
 refine ep (fun hb=>qI (cb rfl hb) (fK 1 rfl)) ?_
 refine ep (fun hb=>xQ (cb rfl hb) (fK 1 rfl)) ?_
 obtain⟨bE,dE,h⟩:=aw h
 refine dF dE (pc (ab rfl) (ab rfl) (fun h=>h)) ?_
 refine aL ?_
 refine aK ?_
 refine ag.ret ?_
 obtain rfl:=aI h
 exact cR
theorem S7 {aa:bu} {r:bu} (h:DE aa=some r):bK Tryz.prog 122 [I.of (aa)] (I.of (r)):=by
 unfold DE at h
 refine bK.of Tryz.func122 rfl Tryz.ntmps122 rfl fun W A=> ?_
 refine aF ?_
 refine cj fun aZ=> ?_
 refine c1 EW fun bc=> ?_
 refine bO ?_
 obtain⟨aG,bo,h⟩:=aw h
 obtain⟨aJ,cr,h⟩:=aw h
 refine ag.draw mixed 7 [some 3,some 4,some 5,some 6,some 7,some 8,some 9] [[],[0],[1],[],[3],[4],[]] [.val _,.val _,.val _,.val _,.val _,.val _,.val _] [false,false,false,false,false,false,false] (by kernel_rfl) rfl rfl rfl (fun da=>⟨H1 (aT lk),dz 1 lh kY,fl Xf (Rm bo),H1 (aT tq),dz 1 s0 sb,fl Xg (Rn cr),H1 (aT lk),trivial⟩) fun da=> ?_
 refine sm 1 lh kY ?_
 refine aY (aT tq) ?_
 obtain⟨bE,dE,h⟩:=aw h
 refine Fi 1 s0 sb (hb:=by exact dE) ?_
 refine b0 ?_
 refine cG 1 hf ?_
 refine cA 0 hf ?_
 refine aK ?_
 refine ag.ret ?_
 obtain rfl:=aI h
 exact ae.jg rfl (hK 0 hf)
theorem Sp {aa:bu} {aj:bu} {r:Bool} (h:zX aa aj=some r):bK Tryz.prog 265 [I.of (aa),I.of (aj)] (I.of (r)):=by
 unfold zX at h
 refine bK.of Tryz.func265 rfl Tryz.ntmps265 rfl fun W A=> ?_
 refine aF ?_
 refine cj fun aZ=> ?_
 refine cj fun bc=> ?_
 refine aL ?_
 refine b0 ?_
 refine aY (aT vk) ?_
 refine cq 1 sX bF ?_
 refine aY (aT vk) ?_
 refine cq 0 sX bF ?_
 refine bm gN ?_
 refine aD ?_
 refine ey (aT lk) ?_
 refine ep (fun hb=>eA (i:=1) ((aN.id bu).comp lh) (r:=aa.bZ) kY (cb rfl hb) rfl rfl rfl) ?_
 refine ey (aT lk) ?_
 refine ep (fun hb=>eA (i:=0) ((aN.id bu).comp lh) (r:=aj.bZ) kY (cb rfl hb) rfl rfl rfl) ?_
 obtain⟨aG,bo,h⟩:=aw h
 refine ep (fun hb=>iG Xh (Ro (fE bo hb)) ⟨cb rfl hb,cb rfl hb,trivial⟩) ?_
 refine jB ?_
 refine aD ?_
 refine ey (aT rR) ?_
 refine ep (fun hb=>eA (i:=1) ((aN.id bu).comp ru) (r:=aa.hI) bF (cb rfl hb) rfl rfl rfl) ?_
 refine ey (aT rR) ?_
 refine ep (fun hb=>eA (i:=0) ((aN.id bu).comp ru) (r:=aj.hI) bF (cb rfl hb) rfl rfl rfl) ?_
 refine kE gN ?_
 refine jB ?_
 refine aL ?_
 refine aK ?_
 refine ag.ret ?_
 obtain rfl:=aI h
 exact cR
theorem Sc {hp:aS Cell} {aa:jM} {aj:aA} {r:(aS Cell)} (h:zP hp aa aj=some r):bM Tryz.prog 229 [I.of (aa),I.of (aj)] ([] ++ aV hp) (δ:=Unit) (fun d=>I.ed []) (fun d=> [] ++ aV r):=by
 unfold zP at h
 refine bM.of Tryz.func229 rfl Tryz.ntmps229 rfl fun W A=> ?_
 refine aF ?_
 refine cj fun aZ=> ?_
 refine cj fun bc=> ?_
 refine aK ?_
 obtain⟨aG,bo,h⟩:=aw h
 refine ag.draw mixed 7 [some 4,some 5,some 6,some 7,some 8,some 9,some 10] [[],[0],[],[2],[3],[],[5]] [.val _,.val _,.val _,.val _,.val _,.val _,.val _] [false,false,false,false,false,false,false] (by kernel_rfl) rfl rfl rfl (fun da=>⟨H1 (aT D4),dz 1 zG A8,H1 (aT ll),dz 0 kq hf,fl EI (Dx bo),H1 (aT nR),dz 0 mD bF,trivial⟩) fun da=> ?_
 obtain⟨aJ,cr,h⟩:=aw h
 refine ah.iR 2 0 rfl Xi (Si cr) rfl rfl ⟨ab rfl,ab rfl,ab rfl,trivial⟩ rfl fun az=> ?_
 refine ah.dR (L2:=(⟨some bc,.var (aj:aA)⟩ :: ⟨some aZ,.var (aa:jM)⟩ :: aV aJ.2)) rfl ?_
 refine ah.nil ?_
 refine ae.nd ?_
 obtain rfl:=aI h
 exact ae.kU () (.cons _ (.cons _ (.refl _))) rfl rfl
theorem Ld {aa:Int} {aj:Int} {r:ar} (h:xt aa aj=some r):bK Tryz.prog 189 [I.of (aa),I.of (aj)] (I.of (r)):=by
 unfold xt at h
 refine bK.of Tryz.func189 rfl Tryz.ntmps189 rfl fun W A=> ?_
 refine aF ?_
 refine c1 ek fun aZ=> ?_
 refine b0 ?_
 refine aD ?_
 obtain⟨aG,bo,h⟩:=aw h
 refine e6 Ok (Lh bo) ?_
 refine aL ?_
 refine b0 ?_
 refine aD ?_
 refine bm Ew ?_
 refine aD ?_
 refine bm A4 ?_
 refine aL ?_
 refine b0 ?_
 refine aD ?_
 obtain⟨aJ,cr,h⟩:=aw h
 refine e6 Is (GN cr) ?_
 refine aD ?_
 refine aD ?_
 refine bm ix ?_
 obtain⟨bh,e7,h⟩:=aw h
 refine e6 Is (GN e7) ?_
 obtain⟨bn,fT,h⟩:=aw h
 refine e6 Xj (S6 fT) ?_
 refine cA 0 bQ ?_
 refine aK ?_
 refine ag.ret ?_
 obtain rfl:=aI h
 exact ae.jg rfl (hK 0 bQ)
theorem RT {aj:Int} {aP:ar} {bR:Ref} :AT Tryz.prog 255 [I.ptr aj,I.ptr aP,I.ptr bR] (fun v:Int=>I.of v) (fun {σ ε} hq step cc=>uE (σ:=σ) (ε:=ε) aj aP bR hq step cc):=by
 refine AT.of Tryz.func255 rfl Tryz.ntmps255 rfl ?_
 intro σ ε γ Ls Lx hq jY ns step cc g0 R h W A u uu
 replace h:uE aj aP bR hq step cc R:=h
 unfold uE at h
 refine aF ?_
 refine aY (dV bF) ?_
 refine aD ?_
 refine aK ?_
 refine ag.block ?_
 refine ag.x0 (σ:=Int × (σ)) (ε:=(Int × Bool × (σ)) ⊕ (Int × Int × Int × Bool × Bool × Bool × (ε))) (γ:=γ) (δ:=γ) h (fun s1 aq=> [(0,I.eq u),(1,I.ptr aj),(2,I.ptr aP),(3,I.ptr bR),(7,I.of (aj)),(8,I.of (s1.1))]) (fun s1 aq=>(Ls s1.2 aq)) (fun az=>Sum.elim (fun az=>Exit.exit 0) (fun az=>Exit.ret) az) (fun az aq=>Sum.elim (fun az=> [(0,I.eq u),(1,I.ptr aj),(2,I.ptr aP),(3,I.ptr bR),(7,I.of (aj)),(8,I.of (az.1)),(9,I.of (az.2.1))]) (fun az=> [(0,I.eq u),(1,I.ptr aj),(2,I.ptr aP),(3,I.ptr bR),(5,I.of (az.1)),(6,I.of (az.2.1)),(7,I.of (aj)),(8,I.of (az.2.2.1)),(9,I.of (az.2.2.2.1)),(19,I.of (az.2.2.2.2.1)),(23,I.of (az.2.2.2.2.2.1))]) az) (fun az aq=>Sum.elim (fun az=>(Ls az.2.2 aq)) (fun az=>(Lx az.2.2.2.2.2.2 aq)) az) g0 rfl (.same rfl (.same rfl (.same rfl (.same rfl (.same rfl (.same rfl .nil)))))) (fun s1 R h aq=> ?_) (fun av h aq=> ?_)
 ·refine aF ?_
  refine bm eT ?_
  refine bO ?_
  refine ag.cond (ab rfl) (fun ak=> ?_) (fun ak=> ?_)
  ·replace h:=mF ak h
   refine cW ?_
   refine ag.seq ?_
   refine ag.block ?_
   refine aF ?_
   refine aD ?_
   refine aL ?_
   refine b0 ?_
   refine aL ?_
   refine bO ?_
   refine ag.seq ?_
   obtain⟨ca,dh,h⟩:=ax.cv h
   obtain⟨bC,dP,h⟩:=ax.cv h
   obtain⟨aG,bo,h⟩:=ax.cv h
   refine ag.draw mixed 9 [some 11,some 12,some 13,some 14,some 15,some 16,some 17,some 18,some 19] [[],[],[1],[2],[3],[4],[],[5,6],[0,7]] [.val _,.val _,.val _,.val _,.val _,.val _,.val _,.val _,.val _] [false,false,false,false,false,false,false,false,false] (by kernel_rfl) rfl rfl rfl (fun da=>⟨H1 (dV bQ),H1 (dV Om),dO fun L' al=>dD (eg (ab rfl) dh),H1 (aT va),dO fun L' al=>fA ((aN.id fv).comp sY) (r:=bC.fw) bF (ab rfl) (kc (fun i e q=>al i e q rfl) (On (Ls:=Ls) (s:=s1.2) (g:=aq) 0 rfl ns (mb dP) rfl)) rfl rfl,iC ix,cZ,iC ix,fl Oo (LB bo),trivial⟩) fun da=> ?_
   refine aK ?_
   obtain⟨bp,ck,h⟩:=ax.cv h
   refine ag.cy (γ:=Unit) (fun bd=> [(0,I.eq u),(1,I.ptr aj),(2,I.ptr aP),(3,I.ptr bR),(5,I.of (s1.1)),(6,I.of (bp)),(7,I.of (aj)),(8,I.of (s1.1)),(9,I.of (decide (s1.1 < aj))),(19,I.of (aG))]) (fun bd=>(Ls s1.2 aq)) (ab rfl) (fun bd=> ?_) (fun hm ak=> ?_) (fun hm ak=> ?_)
   ·clear ck
    refine ae.next ?_
    refine aF ?_
    refine aD ?_
    refine aD ?_
    refine ah.V7 (Lin:= []) (Ls:=Ls) (Lx:=Lx) (step:=step) (s:=s1.2) (gg:=aq) rfl uu rfl (ab rfl) h rfl (fun s2 h bN=> ?_) (fun c7 h bN=> ?_)
    ·simp only [Sum.elim_inl] at h
     refine ah.dR (L2:=(Ls s2 bN)) rfl ?_
     refine aY hP ?_
     refine aK ?_
     refine ag.rY (ab rfl) (by first | rfl | (rw [hb]; rfl)) ?_
     refine ag.skip ?_
     refine ae.ea ?_
     refine ae.next ?_
     refine ag.cz ?_
     refine bm dI ?_
     refine aD ?_
     refine ah.nil ?_
     exact ae.x1 h bN 0 rfl (.same rfl (.same rfl (.same rfl (.same rfl (.same rfl (.same rfl .nil))))))
    ·simp only [Sum.elim_inr] at h
     refine ah.dR (L2:=(Lx c7 bN)) rfl ?_
     refine aY hP ?_
     refine aK ?_
     refine ag.It (ab rfl) (by first | rfl | (rw [hb]; rfl)) ?_
     refine ag.ret ?_
     refine ae.dn ?_
     refine ae.ret ?_
     exact ae.rT h bN 0 rfl (by simp) rfl (.same rfl (.same rfl (.same rfl (.same rfl (.same rfl (.same rfl (.same rfl (.same rfl (.same rfl (.same rfl (.same rfl .nil)))))))))))
   ·have h:=gZ ak ck
    refine ag.cz ?_
    refine aL ?_
    refine ah.nil ?_
    obtain rfl:=aI h
    exact dp 0 (hm ())
   ·have h:=g1 ak ck
    refine ag.skip ?_
    obtain rfl:=aI h
    exact dp 0 (hm ())
  ·replace h:=mG ak h
   refine ag.exit ?_
   refine ae.exit ?_
   exact ae.rT h aq 0 rfl (by simp) rfl (.same rfl (.same rfl (.same rfl (.same rfl (.same rfl (.same rfl (.same rfl .nil)))))))
 ·rcases av with av | av
  ·simp only [Sum.elim_inl] at h
   refine ae.fM ?_
   refine ae.nd ?_
   exact ae.kU (⟨⟨(.inl av.2.2:σ ⊕ ε),h⟩,aq⟩: {r // _} × _) (.refl _) rfl rfl
  ·simp only [Sum.elim_inr] at h
   refine ae.dn ?_
   exact ae.kU (⟨⟨(.inr av.2.2.2.2.2.2:σ ⊕ ε),h⟩,aq⟩: {r // _} × _) (.refl _) rfl rfl
theorem Gq {hp:aS Cell} {aj:Int} {aP:ar} {bR:Ref} :AU Tryz.prog 255 [I.ptr aj,I.ptr aP,I.ptr bR] hp (fun v:Int=>I.of v) (fun {σ ε} =>pF (σ:=σ) (ε:=ε) hp aj aP bR):=by
 refine AU.of Tryz.func255 rfl Tryz.ntmps255 rfl ?_
 intro σ ε γ Ls Lx jY ns step cc g0 r h W A u uu
 replace h:pF hp aj aP bR step cc=some r:=h
 unfold pF at h
 refine aF ?_
 refine aY (dV bF) ?_
 refine aD ?_
 refine aK ?_
 refine ag.block ?_
 obtain⟨av,ao,h⟩:=aw h
 refine ag.vF (σ:=Int × (σ)) (ε:=(Int × Bool × (σ)) ⊕ (Int × Int × Int × Bool × Bool × Bool × (ε))) (γ:=γ) (δ:=γ) ao (fun s1 aq=> [(0,I.eq u),(1,I.ptr aj),(2,I.ptr aP),(3,I.ptr bR),(7,I.of (aj)),(8,I.of (s1.1))]) (fun s1 aq=>(Ls s1.2 aq)) (fun az=>Sum.elim (fun az=>Exit.exit 0) (fun az=>Exit.ret) az) (fun az aq=>Sum.elim (fun az=> [(0,I.eq u),(1,I.ptr aj),(2,I.ptr aP),(3,I.ptr bR),(7,I.of (aj)),(8,I.of (az.1)),(9,I.of (az.2.1))]) (fun az=> [(0,I.eq u),(1,I.ptr aj),(2,I.ptr aP),(3,I.ptr bR),(5,I.of (az.1)),(6,I.of (az.2.1)),(7,I.of (aj)),(8,I.of (az.2.2.1)),(9,I.of (az.2.2.2.1)),(19,I.of (az.2.2.2.2.1)),(23,I.of (az.2.2.2.2.2.1))]) az) (fun az aq=>Sum.elim (fun az=>(Ls az.2.2 aq)) (fun az=>(Lx az.2.2.2.2.2.2 aq)) az) g0 rfl (.same rfl (.same rfl (.same rfl (.same rfl (.same rfl (.same rfl .nil)))))) (fun s1 r h aq=> ?_) (fun aq=> ?_)
 ·clear ao
  refine aF ?_
  refine bm eT ?_
  refine bO ?_
  refine cm h (fun h=>?_) fun h=>?_
  ·refine cW ?_
   refine ag.seq ?_
   refine ag.block ?_
   refine aF ?_
   refine aD ?_
   refine aL ?_
   refine b0 ?_
   refine aL ?_
   refine bO ?_
   refine ag.seq ?_
   obtain⟨ca,dh,h⟩:=aw h
   obtain⟨bC,dP,h⟩:=aw h
   obtain⟨aG,bo,h⟩:=aw h
   refine ag.draw mixed 9 [some 11,some 12,some 13,some 14,some 15,some 16,some 17,some 18,some 19] [[],[],[1],[2],[3],[4],[],[5,6],[0,7]] [.val _,.val _,.val _,.val _,.val _,.val _,.val _,.val _,.val _] [false,false,false,false,false,false,false,false,false] (by kernel_rfl) rfl rfl rfl (fun da=>⟨H1 (dV bQ),H1 (dV Om),dO fun L' al=>dD (eg (ab rfl) dh),H1 (aT va),dO fun L' al=>fA ((aN.id fv).comp sY) (r:=bC.fw) bF (ab rfl) (kc (fun i e q=>al i e q rfl) (Xk (Ls:=Ls) (s:=s1.2) (g:=aq) 0 rfl ns (mb dP) rfl)) rfl rfl,iC ix,cZ,iC ix,fl Oo (LB bo),trivial⟩) fun da=> ?_
   refine aK ?_
   obtain⟨bp,ck,h⟩:=aw h
   refine ag.cy (γ:=Unit) (fun bd=> [(0,I.eq u),(1,I.ptr aj),(2,I.ptr aP),(3,I.ptr bR),(5,I.of (s1.1)),(6,I.of (bp)),(7,I.of (aj)),(8,I.of (s1.1)),(9,I.of (decide (s1.1 < aj))),(19,I.of (aG))]) (fun bd=>(Ls s1.2 aq)) (ab rfl) (fun bd=> ?_) (fun hm ak=> ?_) (fun hm ak=> ?_)
   ·clear ck
    refine ae.next ?_
    refine aF ?_
    refine aD ?_
    refine aD ?_
    obtain⟨aJ,cr,h⟩:=aw h
    refine ah.yield (Lin:= []) (Ls:=Ls) (Lx:=Lx) (step:=step) (s:=s1.2) (gg:=aq) rfl uu rfl (ab rfl) cr rfl (fun s2 aR bN=> ?_) (fun c7 aR bN=> ?_)
    ·subst aR; simp only [Sum.elim_inl] at h
     refine ah.dR (L2:=(Ls s2 bN)) rfl ?_
     refine aY hP ?_
     refine aK ?_
     refine ag.rY (ab rfl) (by first | rfl | (rw [hb]; rfl)) ?_
     refine ag.skip ?_
     refine ae.ea ?_
     refine ae.next ?_
     refine ag.cz ?_
     refine bm dI ?_
     refine aD ?_
     refine ah.nil ?_
     obtain rfl:=aI h
     exact gP bN 0
    ·subst aR; simp only [Sum.elim_inr] at h
     refine ah.dR (L2:=(Lx c7 bN)) rfl ?_
     refine aY hP ?_
     refine aK ?_
     refine ag.It (ab rfl) (by first | rfl | (rw [hb]; rfl)) ?_
     refine ag.ret ?_
     refine ae.dn ?_
     refine ae.ret ?_
     obtain rfl:=aI h
     exact eD bN 0
   ·have h:=gZ ak ck
    refine ag.cz ?_
    refine aL ?_
    refine ah.nil ?_
    obtain rfl:=aI h
    exact dp 0 (hm ())
   ·have h:=g1 ak ck
    refine ag.skip ?_
    obtain rfl:=aI h
    exact dp 0 (hm ())
  ·refine ag.exit ?_
   refine ae.exit ?_
   obtain rfl:=aI h
   exact eD aq 0
 ·clear ao
  rcases av with av | av
  ·simp only [Sum.elim_inl] at h
   refine ae.fM ?_
   refine ae.nd ?_
   obtain rfl:=aI h
   exact ae.kU aq (.refl _) rfl rfl
  ·simp only [Sum.elim_inr] at h
   refine ae.dn ?_
   obtain rfl:=aI h
   exact ae.kU aq (.refl _) rfl rfl
theorem xu {aa:aA} {r:aA} (h:nF aa=some r):bK Tryz.prog 87 [I.of (aa)] (I.of (r)):=by
 unfold nF at h
 refine bK.of Tryz.func87 rfl Tryz.ntmps87 rfl fun W A=> ?_
 refine aF ?_
 refine cj fun aZ=> ?_
 refine c1 gh fun bc=> ?_
 refine b0 ?_
 refine aY (aT ll) ?_
 refine cq 1 kq hf ?_
 obtain⟨aG,bo,h⟩:=aw h
 refine e6 Xl (S7 bo) ?_
 refine aY (aT ll) ?_
 refine sm 1 kq hf ?_
 refine b0 ?_
 refine cG 1 cg ?_
 refine cA 0 cg ?_
 refine aK ?_
 refine ag.ret ?_
 obtain rfl:=aI h
 exact ae.jg rfl (hK 0 cg)
theorem GJ {aa:List Int} {r:Int} (h:rC aa=some r):bK Tryz.prog 133 [I.of (aa)] (I.of (r)):=by
 unfold rC at h
 refine bK.of Tryz.func133 rfl Tryz.ntmps133 rfl fun W A=> ?_
 refine aF ?_
 refine aL ?_
 refine bO ?_
 refine aF ?_
 refine aD ?_
 refine aY (eK Tryz.underlying63) ?_
 refine aD ?_
 refine aK ?_
 refine ag.block ?_
 obtain⟨av,ao,h⟩:=aw h
 refine hT (γ:=Unit) (δ:=Unit) ao [0,5,6] (fun s1 aq=> [(2,I.of (0:Int)),(7,I.of (s1))]) (fun s1 aq=> []) (fun az=>Sum.elim (fun az=>Exit.exit 0) (fun az=>Exit.ret) az) (fun az aq=>Sum.elim (fun az=> [(2,I.of (0:Int)),(7,I.of (az.1)),(8,I.of (az.2))]) (fun az=> [(2,I.of (az.1)),(4,I.of (az.2.1)),(7,I.of (az.2.2.1)),(8,I.of (az.2.2.2.1)),(12,I.of (az.2.2.2.2))]) az) (fun az aq=>Sum.elim (fun az=> []) (fun az=> []) az) () (fun s1 r h aq=> ?_) fun aq=> ?_
 ·clear ao
  refine aF ?_
  refine bm eT ?_
  refine bO ?_
  refine cm h (fun h=>?_) fun h=>?_
  ·refine cW ?_
   refine ag.seq ?_
   refine ag.block ?_
   refine aF ?_
   obtain⟨a8,cE,h⟩:=aw h
   refine hU cE Tryz.underlying63 bF ?_
   refine aY (dV bF) ?_
   refine aL ?_
   refine b0 ?_
   refine aD ?_
   refine bm qV ?_
   refine aK ?_
   refine cm h (fun h=>?_) fun h=>?_
   ·refine aF ?_
    refine aD ?_
    refine aL ?_
    refine aK ?_
    refine ag.ret ?_
    refine ae.dn ?_
    refine ae.ret ?_
    obtain rfl:=aI h
    exact eD () 0
   ·refine ag.skip ?_
    refine ae.ea ?_
    refine ae.next ?_
    refine ag.cz ?_
    refine bm dI ?_
    refine aD ?_
    refine ah.nil ?_
    obtain rfl:=aI h
    exact gP () 0
  ·refine ag.exit ?_
   refine ae.exit ?_
   obtain rfl:=aI h
   exact eD () 0
 ·clear ao
  rcases av with av | av
  ·simp only [Sum.elim_inl] at h
   refine ae.fM ?_
   refine ae.next ?_
   refine aF ?_
   refine aL ?_
   refine aK ?_
   refine ag.ret ?_
   obtain rfl:=aI h
   exact cR
  ·simp only [Sum.elim_inr] at h
   refine ae.dn ?_
   refine ae.ret ?_
   obtain rfl:=aI h
   exact cR
end Go.Proofs.YtmnggbjcnoffeaaGreat
