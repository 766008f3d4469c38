/-
  Each function meets its functional program. Conditions: none.
-/
import Derived.Test.YtmnggbjcnoffeaaGreatMd
namespace Go.Proofs.YtmnggbjcnoffeaaGreat
open Go Gv
set_option linter.unusedVariables false
set_option linter.unusedSimpArgs false
set_option maxRecDepth 100000
set_option maxHeartbeats 2000000
theorem EW {aa:List (BitVec 8)} {ai:Int} {r:bI} (h:tz aa ai=some r):cG Tryz.prog 15 [I.of (aa),I.of (ai)] [] (δ:=Nat) (fun d=>I.eq (.pointer (some ⟨d,0,none⟩))) (fun d=> [⟨some d,.var (r:bI)⟩]):=by
 unfold tz at h
 refine cG.of Tryz.func15 rfl Tryz.ntmps15 rfl fun W A=> ?_
 refine aA ?_
 refine bh (eC (F4 (.pointer none))) ?_
 refine bE ?_
 refine ax ?_
 refine ax ?_
 refine aY (er Tryz.underlying22) ?_
 refine ax ?_
 refine a5 uf ?_
 obtain⟨aD,bp,h⟩:=ar h
 refine bh (LQ Tryz.underlying22 iy (ad rfl) .none (.some (ad rfl)) bp) ?_
 refine hH VE VF ({ (default:bI) with ef:=aD } :bI) (iY BG .nil) ?_
 refine ca fun bf=> ?_
 refine aH ?_
 refine aJ ?_
 refine ag.ret ?_
 refine ae.cd 0 rfl ?_
 obtain rfl:=aG h
 exact k6 bf
theorem Rb {aa:bI} {cO:Nat} {r:Bool} (h:BH aa=some r):cG Tryz.prog 26 [I.eq (.pointer (some ⟨cO,0,none⟩))] [⟨some cO,.var (aa:bI)⟩] (δ:=Unit) (fun d=>I.of (r)) (fun d=> [⟨some cO,.var (aa:bI)⟩]):=by
 unfold BH at h
 refine cG.of Tryz.func26 rfl Tryz.ntmps26 rfl fun W A=> ?_
 refine aA ?_
 refine aH ?_
 refine bx ?_
 refine ag.draw mixed 10 [some 3,some 4,some 5,some 6,some 7,some 8,some 9,some 10,some 11,some 12] [[],[0],[1],[2],[],[4],[5],[6],[7],[3,8]] [.val _,.val _,.val _,.val _,.val _,.val _,.val _,.val _,.val _,.val _] [false,false,false,false,false,false,false,false,false,false] (by kernel_rfl) rfl rfl rfl (fun c5=>⟨cw,H1 fV,H1 (a2 yP),dN 0 xN bM,cw,H1 fV,H1 (a2 FD),dN 0 BG Dg,H1 (er Tryz.underlying22),lq dd,trivial⟩) fun c5=> ?_
 refine aH ?_
 refine aJ ?_
 refine ag.ret ?_
 refine ae.cd 0 rfl ?_
 obtain rfl:=aG h
 exact k6 ()
theorem Kn {aa:Int} {ai:Int} {r:Int} (h:r1 aa ai=some r):bn Tryz.prog 25 [I.of (aa),I.of (ai)] (I.of (r)):=by
 unfold r1 at h
 refine bn.of Tryz.func25 rfl Tryz.ntmps25 rfl fun W A=> ?_
 refine aA ?_
 refine aH ?_
 refine bx ?_
 refine aA ?_
 refine ax ?_
 refine a5 dd ?_
 refine aJ ?_
 refine b0 h (fun h=>?_) fun h=>?_
 ·refine aA ?_
  refine aH ?_
  refine aJ ?_
  refine ag.ret ?_
  refine ae.ret ?_
  obtain rfl:=aG h
  exact c3
 ·refine cn ?_
  refine aA ?_
  refine ax ?_
  refine ax ?_
  obtain⟨aD,bp,h⟩:=ar h
  refine bh (ze (ad rfl) (ad rfl) (yC bp)) ?_
  refine ax ?_
  refine a5 cL ?_
  refine ax ?_
  obtain⟨aM,b9,h⟩:=ar h
  refine bh (ze (ad rfl) (ad rfl) (yC b9)) ?_
  refine aH ?_
  refine aJ ?_
  refine ag.ret ?_
  obtain rfl:=aG h
  exact c3
theorem QX {aa:bX} {ai:Int} {r:Bool} (h:Bx aa ai=some r):bn Tryz.prog 119 [I.of (aa),I.ptr ai] (I.of (r)):=by
 unfold Bx at h
 refine bn.of Tryz.func119 rfl Tryz.ntmps119 rfl fun W A=> ?_
 refine aA ?_
 refine ca fun bf=> ?_
 refine aH ?_
 refine bE ?_
 refine aY (a2 tQ) ?_
 refine b5 0 oN bM ?_
 refine aY (cK bM) ?_
 refine a5 fW ?_
 refine aH ?_
 refine aJ ?_
 refine ag.ret ?_
 obtain rfl:=aG h
 exact c3
theorem Qp {aa:List bX} {ai:bX→Option Bool} {r:Int} (h:xu aa ai=some r):bn Tryz.prog 118 [I.of (aa),I.o9 Tryz.prog ai] (I.of (r)):=by
 unfold xu at h
 refine bn.of Tryz.func118 rfl Tryz.ntmps118 rfl fun W A=> ?_
 refine aA ?_
 refine aH ?_
 refine bx ?_
 refine aA ?_
 refine ax ?_
 refine aY (er Tryz.underlying28) ?_
 refine ax ?_
 refine aJ ?_
 refine ag.block ?_
 obtain⟨ay,al,h⟩:=ar h
 refine eD (γ:=Unit) (δ:=Unit) al [0,1,7] (fun s1 au=> [(4,I.of (0:Int)),(8,I.of (s1))]) (fun s1 au=> []) (fun az=>Sum.elim (fun az=>Exit.exit 0) (fun az=>Exit.ret) az) (fun az au=>Sum.elim (fun az=> [(4,I.of (0:Int)),(8,I.of (az.1)),(9,I.of (az.2))]) (fun az=> [(4,I.of (az.1)),(5,I.of (az.2.1)),(8,I.of (az.2.2.1)),(9,I.of (az.2.2.2.1)),(16,I.of (az.2.2.2.2))]) az) (fun az au=>Sum.elim (fun az=> []) (fun az=> []) az) () (fun s1 r h au=> ?_) fun au=> ?_
 ·clear al
  refine aA ?_
  refine a5 dd ?_
  refine bx ?_
  refine b0 h (fun h=>?_) fun h=>?_
  ·refine cn ?_
   refine ag.seq ?_
   refine ag.block ?_
   refine aA ?_
   refine ax ?_
   refine aH ?_
   refine bE ?_
   refine ax ?_
   refine ax ?_
   refine ax ?_
   obtain⟨aV,b4,h⟩:=ar h
   refine fq b4 Tryz.underlying28 fO ?_
   refine aY (cK fO) ?_
   obtain⟨aD,bp,h⟩:=ar h
   refine bh (v3 (ad rfl) (ad rfl) bp) ?_
   refine aJ ?_
   refine b0 h (fun h=>?_) fun h=>?_
   ·refine aA ?_
    refine ax ?_
    refine aH ?_
    refine aJ ?_
    refine ag.ret ?_
    refine ae.dQ ?_
    refine ae.ret ?_
    obtain rfl:=aG h
    exact c6 () 0
   ·refine ag.skip ?_
    refine ae.db ?_
    refine ae.next ?_
    refine ag.b1 ?_
    refine a5 cL ?_
    refine ax ?_
    refine ak.nil ?_
    obtain rfl:=aG h
    exact dO () 0
  ·refine ag.exit ?_
   refine ae.exit ?_
   obtain rfl:=aG h
   exact c6 () 0
 ·clear al
  rcases ay with ay | ay
  ·simp only [Sum.elim_inl] at h
   refine ae.dD ?_
   refine ae.next ?_
   refine aA ?_
   refine aH ?_
   refine aJ ?_
   refine ag.ret ?_
   obtain rfl:=aG h
   exact c3
  ·simp only [Sum.elim_inr] at h
   refine ae.dQ ?_
   refine ae.ret ?_
   obtain rfl:=aG h
   exact c3
theorem RN {aa:bX} {r:Int × Int} (h:vH aa=some r):bn Tryz.prog 83 [I.of (aa)] (I.eI [I.of (r.1),I.of (r.2)]):=by
 unfold vH at h
 refine bn.of Tryz.func83 rfl Tryz.ntmps83 rfl fun W A=> ?_
 refine aA ?_
 refine ca fun bf=> ?_
 refine aH ?_
 refine aH ?_
 refine bE ?_
 refine aH ?_
 refine aH ?_
 refine bx ?_
 refine aA ?_
 refine aY (a2 kl) ?_
 refine b5 0 iP jW ?_
 refine aY (er Tryz.underlying62) ?_
 refine ax ?_
 refine aJ ?_
 refine ag.block ?_
 obtain⟨ay,al,h⟩:=ar h
 refine eD (γ:=Unit) (δ:=Unit) al [0,1,2,3,9,10] (fun s1 au=> [(4,I.of (s1.1)),(5,I.of (s1.2.1)),(11,I.of (s1.2.2))]) (fun s1 au=> []) (fun az=>Exit.exit 0) (fun az au=> [(4,I.of (az.1)),(5,I.of (az.2.1)),(11,I.of (az.2.2.1)),(12,I.of (az.2.2.2))]) (fun az au=> []) () (fun s1 r h au=> ?_) fun au=> ?_
 ·clear al
  refine aA ?_
  refine a5 dd ?_
  refine bx ?_
  refine b0 h (fun h=>?_) fun h=>?_
  ·refine cn ?_
   refine ag.seq ?_
   refine ag.block ?_
   refine aA ?_
   refine ax ?_
   obtain⟨aV,b4,h⟩:=ar h
   refine fq b4 Tryz.underlying62 hP ?_
   refine aY (cK hP) ?_
   refine ch iU fun bw=> ?_
   refine aH ?_
   refine bS 0 hP ?_
   refine bE ?_
   refine aY (a2 od) ?_
   refine b5 0 jR bM ?_
   refine aJ ?_
   refine ag.block ?_
   refine aA ?_
   refine a5 fW ?_
   refine aH ?_
   refine aJ ?_
   obtain⟨bJ,cB,h⟩:=ar h
   refine hQ (γ:=Unit) [0,1,2,3,6,7,9,10,11,12,17,18] (fun aT=> [(4,I.of (bJ.1)),(5,I.of (bJ.2))]) (fun aT=> []) (fun aT=> ?_) (fun hm ao=> ?_) fun hm ao=> ?_
   ·clear cB
    refine ae.db ?_
    refine ae.db ?_
    refine ae.next ?_
    refine ag.b1 ?_
    refine a5 cL ?_
    refine ax ?_
    refine ak.nil ?_
    obtain rfl:=aG h
    exact dO () 1
   ·have h:=gK ao cB
    refine ag.skip ?_
    obtain rfl:=aG h
    exact dj 0 (hm ())
   ·have h:=gL ao cB
    refine aA ?_
    refine a5 fW ?_
    refine aH ?_
    refine aJ ?_
    obtain⟨cy,dE,h⟩:=ar h
    refine hQ (γ:=Unit) [0,1,2,3,6,7,9,10,11,12,17,18,20] (fun bq=> [(4,I.of (cy.1)),(5,I.of (cy.2))]) (fun bq=> []) (fun bq=> ?_) (fun hm ao=> ?_) fun hm ao=> ?_
    ·clear dE
     obtain rfl:=aG h
     exact dj 0 (hm ())
    ·have h:=gK ao dE
     refine ag.b1 ?_
     refine ax ?_
     refine a5 wC ?_
     refine ax ?_
     refine aH ?_
     refine aH ?_
     refine ak.nil ?_
     obtain rfl:=aG h
     exact dj 0 (hm ())
    ·have h:=gL ao dE
     refine ag.b1 ?_
     refine aH ?_
     refine ak.nil ?_
     obtain rfl:=aG h
     exact dj 0 (hm ())
  ·refine ag.exit ?_
   refine ae.exit ?_
   obtain rfl:=aG h
   exact c6 () 0
 ·clear al
  refine ae.dD ?_
  refine ae.next ?_
  refine aA ?_
  refine ax ?_
  refine ax ?_
  refine aH ?_
  refine aH ?_
  refine aJ ?_
  refine ag.ret ?_
  obtain rfl:=aG h
  exact pa
theorem Sh {hp:bg Cell} {Q:Ref × (bg Cell)→Prop} (h:B0 hp Q):cG Tryz.prog 84 [] ([] ++ bz hp) (δ:= {r:Ref × (bg Cell) // Q r} × Unit) (fun d=>I.of (d.1.1.1)) (fun d=> [] ++ bz d.1.1.2):=by
 unfold B0 at h
 refine cG.of Tryz.func84 rfl Tryz.ntmps84 rfl fun W A=> ?_
 refine aA ?_
 refine bh (eC (r2)) ?_
 refine bE ?_
 refine ak.F5 (α:=Vector aw 4) (β:=Int) 0 rfl (Cell.o4 ([]:List ((Vector aw 4) × Int))) (fun _=>rfl) rfl fun eL uL=> ?_
 replace h:=aK.se h eL uL
 refine hH VG VH { oY:=(⟨some eL.1⟩:gp):mK } (iY Bt .nil) ?_
 refine ak.zz 0 rfl (Cell.wP ({ oY:=(⟨some eL.1⟩:gp):mK })) (fun _=>rfl) (ad rfl) rfl fun eR z2=> ?_
 replace h:=aK.se h eR z2
 refine aH ?_
 refine aJ ?_
 refine ag.ret ?_
 exact ae.ha (⟨⟨((some eR.1:Ref),eR.2),h⟩,()⟩: {r // _} × _) (.refl _) rfl rfl (gf rfl)
theorem QY {aa:fj} {ai:Int} {r:Bool} (h:By aa ai=some r):bn Tryz.prog 121 [I.of (aa),I.ptr ai] (I.of (r)):=by
 unfold By at h
 refine bn.of Tryz.func121 rfl Tryz.ntmps121 rfl fun W A=> ?_
 refine aA ?_
 refine ca fun bf=> ?_
 refine aH ?_
 refine bE ?_
 refine aY (a2 FE) ?_
 refine b5 0 n4 bM ?_
 refine aY (cK bM) ?_
 refine a5 fW ?_
 refine aH ?_
 refine aJ ?_
 refine ag.ret ?_
 obtain rfl:=aG h
 exact c3
end Go.Proofs.YtmnggbjcnoffeaaGreat
namespace Go.Proofs.YtmnggbjcnoffeaaGreat
open Go Gv
set_option linter.unusedVariables false
set_option linter.unusedSimpArgs false
set_option maxRecDepth 100000
set_option maxHeartbeats 2000000
theorem R5 {aa:Vector (BitVec 8) 512} {ai:Vector (BitVec 8) 512} {r:(Vector (BitVec 8) 512) × Bool} (h:yo aa ai=some r):bn Tryz.prog 173 [I.of (aa),I.of (ai)] (I.eI [I.of (r.1),I.of (r.2)]):=by
 unfold yo at h
 refine bn.of Tryz.func173 rfl Tryz.ntmps173 rfl fun W A=> ?_
 refine aA ?_
 refine ca fun bf=> ?_
 refine ca fun bw=> ?_
 refine ch iS fun cz=> ?_
 refine aH ?_
 refine bx ?_
 refine aA ?_
 refine ax ?_
 refine aJ ?_
 refine ag.block ?_
 obtain⟨ay,al,h⟩:=ar h
 refine eD (γ:=Unit) (δ:=Unit) al [0,1,2,3,4,5] (fun s1 au=> [(7,I.of (s1.1))]) (fun s1 au=> [(2,⟨some bf,.var (s1.2:Vector (BitVec 8) 512)⟩)]) (fun az=>Sum.elim (fun az=>Exit.exit 0) (fun az=>Exit.ret) az) (fun az au=>Sum.elim (fun az=> [(7,I.of (az.1)),(8,I.of (az.2.1))]) (fun az=> [(6,I.of (az.1)),(7,I.of (az.2.1)),(8,I.of (az.2.2.1)),(10,I.of (az.2.2.2.1)),(20,I.of (az.2.2.2.2.1))]) az) (fun az au=>Sum.elim (fun az=> [(2,⟨some bf,.var (az.2.2:Vector (BitVec 8) 512)⟩)]) (fun az=> [(2,⟨some bf,.var (az.2.2.2.2.2:Vector (BitVec 8) 512)⟩)]) az) () (fun s1 r h au=> ?_) fun au=> ?_
 ·clear al
  refine aA ?_
  refine a5 dd ?_
  refine bx ?_
  refine b0 h (fun h=>?_) fun h=>?_
  ·refine cn ?_
   refine ag.seq ?_
   refine ag.block ?_
   refine aA ?_
   refine ax ?_
   refine aH ?_
   refine aJ ?_
   refine ag.block ?_
   refine aA ?_
   refine ax ?_
   obtain⟨aV,b4,h⟩:=ar h
   refine bh (dc (k:=aV) jE (ad rfl) (ad rfl) (bC b4)) ?_
   refine b5 2 ((aI.id (Vector (BitVec 8) 512)).comp (aI.idx (α:=BitVec 8) 512 aV (bC b4).1)) iy ?_
   refine bh (F6 (ad rfl) (nn 2 rfl)) ?_
   refine aH ?_
   refine aJ ?_
   refine b0 h (fun h=>?_) fun h=>?_
   ·refine ag.b1 ?_
    refine ax ?_
    refine ax ?_
    obtain⟨bu,cD,h⟩:=ar h
    refine bh (dc (k:=bu) jE (ad rfl) (ad rfl) (bC cD)) ?_
    refine b5 1 ((aI.id (Vector (BitVec 8) 512)).comp (aI.idx (α:=BitVec 8) 512 bu (bC cD).1)) iy ?_
    obtain⟨cb,eu,h⟩:=ar h
    refine bh (dc (k:=cb) jE (ad rfl) (ad rfl) (bC eu)) ?_
    refine jt 2 ((aI.id (Vector (BitVec 8) 512)).comp (aI.idx (α:=BitVec 8) 512 cb (bC eu).1)) iy ?_
    refine ak.nil ?_
    refine ae.db ?_
    refine ae.db ?_
    refine ae.next ?_
    refine ag.b1 ?_
    refine a5 cL ?_
    refine ax ?_
    refine ak.nil ?_
    obtain rfl:=aG h
    exact dO () 0
   ·refine ag.seq ?_
    obtain⟨du,hx,h⟩:=ar h
    obtain⟨dA,ij,h⟩:=ar h
    obtain⟨eM,ju,h⟩:=ar h
    refine ag.draw mixed 13 [some 21,some 22,some 23,some 24,some 25,some 26,some 27,some 28,some 29,some 30,some 31,some 32,some 33] [[],[0],[1],[2],[3],[4],[4,5],[4,6],[4],[4,8],[4,9],[4,7,10],[4,11]] [.val _,.val _,.val _,.val _,.val _,.val _,.val _,.val _,.val _,.val _,.val _,.val _,.val _] [false,false,false,false,false,false,false,false,false,false,false,false,false] (by kernel_rfl) rfl rfl rfl (fun c5=>⟨cw,df fun aC av=>dc (k:=du) jE (ad rfl) (ad rfl) (bC hx),dN 1 ((aI.id (Vector (BitVec 8) 512)).comp (aI.idx (α:=BitVec 8) 512 du (bC hx).1)) iy,df fun aC av=>tS (ad rfl) (nn 2 rfl),cw,ew fun aC av=>fun hb=>cN (ad rfl),ew fun aC av=>fun hb=>dc (k:=dA) jE (ad rfl) (ct rfl hb) (bC (fE ij hb)),ew fun aC av=>fun hb=>fb (i:=2) ((aI.id (Vector (BitVec 8) 512)).comp (aI.idx (α:=BitVec 8) 512 dA (bC (fE ij hb)).1)) (r:=bd s1.2 dA) iy (ct rfl hb) (av _ _ rfl rfl) rfl rfl,ew fun aC av=>fun hb=>cN (ad rfl),ew fun aC av=>fun hb=>dc (k:=eM) jE (ad rfl) (ct rfl hb) (bC (fE ju hb)),ew fun aC av=>fun hb=>fb (i:=1) ((aI.id (Vector (BitVec 8) 512)).comp (aI.idx (α:=BitVec 8) 512 eM (bC (fE ju hb)).1)) (r:=bd ai eM) iy (ct rfl hb) (av _ _ rfl rfl) rfl rfl,ew fun aC av=>fun hb=>tS (ct rfl hb) (ct rfl hb),df fun aC av=>oh (ad rfl) (ad rfl) (fun h=>h),trivial⟩) fun c5=> ?_
    refine aH ?_
    refine aJ ?_
    refine b0 h (fun h=>?_) fun h=>?_
    ·refine aA ?_
     refine bh (oQ (b:=(default:Vector (BitVec 8) 512)) (sz:=1) rfl Tryz.underlying181 (by kernel_rfl) iS (.nil)) ?_
     refine bS 0 ej ?_
     refine aH ?_
     refine aJ ?_
     refine ag.ret ?_
     refine ae.dQ ?_
     refine ae.dQ ?_
     refine ae.ret ?_
     obtain rfl:=aG h
     exact c6 () 0
    ·refine ag.skip ?_
     refine ae.db ?_
     refine ae.db ?_
     refine ae.next ?_
     refine ag.b1 ?_
     refine a5 cL ?_
     refine ax ?_
     refine ak.nil ?_
     obtain rfl:=aG h
     exact dO () 0
  ·refine ag.exit ?_
   refine ae.exit ?_
   obtain rfl:=aG h
   exact c6 () 0
 ·clear al
  rcases ay with ay | ay
  ·simp only [Sum.elim_inl] at h
   refine ae.dD ?_
   refine ae.next ?_
   refine aA ?_
   refine bY 2 ej ?_
   refine bS 0 ej ?_
   refine aH ?_
   refine aJ ?_
   refine ag.ret ?_
   obtain rfl:=aG h
   exact ae.mr rfl (dF 0 ej) (fw rfl)
  ·simp only [Sum.elim_inr] at h
   refine ae.dQ ?_
   refine ae.ret ?_
   obtain rfl:=aG h
   exact ae.mr rfl (dF 0 ej) (fw rfl)
theorem RO {aa:Vector (BitVec 8) 512} {ai:Vector (BitVec 8) 512} {r:Bool} (h:ye aa ai=some r):bn Tryz.prog 174 [I.of (aa),I.of (ai)] (I.of (r)):=by
 unfold ye at h
 refine bn.of Tryz.func174 rfl Tryz.ntmps174 rfl fun W A=> ?_
 refine aA ?_
 refine ca fun bf=> ?_
 refine ca fun bw=> ?_
 refine aH ?_
 refine bx ?_
 refine aA ?_
 refine ax ?_
 refine aJ ?_
 refine ag.block ?_
 obtain⟨ay,al,h⟩:=ar h
 refine eD (γ:=Unit) (δ:=Unit) al [0,1,2,3,4] (fun s1 au=> [(6,I.of (s1))]) (fun s1 au=> []) (fun az=>Sum.elim (fun az=>Exit.exit 0) (fun az=>Exit.ret) az) (fun az au=>Sum.elim (fun az=> [(6,I.of (az.1)),(7,I.of (az.2))]) (fun az=> [(5,I.of (az.1)),(6,I.of (az.2.1)),(7,I.of (az.2.2.1)),(21,I.of (az.2.2.2))]) az) (fun az au=>Sum.elim (fun az=> []) (fun az=> []) az) () (fun s1 r h au=> ?_) fun au=> ?_
 ·clear al
  refine aA ?_
  refine a5 dd ?_
  refine bx ?_
  refine b0 h (fun h=>?_) fun h=>?_
  ·refine cn ?_
   refine ag.seq ?_
   refine ag.block ?_
   refine aA ?_
   refine ax ?_
   refine aH ?_
   refine bx ?_
   obtain⟨aV,b4,h⟩:=ar h
   obtain⟨bu,cD,h⟩:=ar h
   obtain⟨cb,eu,h⟩:=ar h
   refine ag.draw mixed 13 [some 9,some 10,some 11,some 12,some 13,some 14,some 15,some 16,some 17,some 18,some 19,some 20,some 21] [[],[0],[1],[2],[3],[4],[4,5],[4,6],[4],[4,8],[4,9],[4,7,10],[4,11]] [.val _,.val _,.val _,.val _,.val _,.val _,.val _,.val _,.val _,.val _,.val _,.val _,.val _] [false,false,false,false,false,false,false,false,false,false,false,false,false] (by kernel_rfl) rfl rfl rfl (fun c5=>⟨cw,df fun aC av=>dc (k:=aV) jE (ad rfl) (ad rfl) (bC b4),dN 0 ((aI.id (Vector (BitVec 8) 512)).comp (aI.idx (α:=BitVec 8) 512 aV (bC b4).1)) iy,df fun aC av=>tS (ad rfl) (nn 2 rfl),cw,ew fun aC av=>fun hb=>cN (ad rfl),ew fun aC av=>fun hb=>dc (k:=bu) jE (ad rfl) (ct rfl hb) (bC (fE cD hb)),ew fun aC av=>fun hb=>fb (i:=1) ((aI.id (Vector (BitVec 8) 512)).comp (aI.idx (α:=BitVec 8) 512 bu (bC (fE cD hb)).1)) (r:=bd aa bu) iy (ct rfl hb) (av _ _ rfl rfl) rfl rfl,ew fun aC av=>fun hb=>cN (ad rfl),ew fun aC av=>fun hb=>dc (k:=cb) jE (ad rfl) (ct rfl hb) (bC (fE eu hb)),ew fun aC av=>fun hb=>fb (i:=0) ((aI.id (Vector (BitVec 8) 512)).comp (aI.idx (α:=BitVec 8) 512 cb (bC (fE eu hb)).1)) (r:=bd ai cb) iy (ct rfl hb) (av _ _ rfl rfl) rfl rfl,ew fun aC av=>fun hb=>tS (ct rfl hb) (ct rfl hb),df fun aC av=>oh (ad rfl) (ad rfl) (fun h=>h),trivial⟩) fun c5=> ?_
   refine aJ ?_
   refine b0 h (fun h=>?_) fun h=>?_
   ·refine aA ?_
    refine aH ?_
    refine aJ ?_
    refine ag.ret ?_
    refine ae.dQ ?_
    refine ae.ret ?_
    obtain rfl:=aG h
    exact c6 () 0
   ·refine ag.skip ?_
    refine ae.db ?_
    refine ae.next ?_
    refine ag.b1 ?_
    refine a5 cL ?_
    refine ax ?_
    refine ak.nil ?_
    obtain rfl:=aG h
    exact dO () 0
  ·refine ag.exit ?_
   refine ae.exit ?_
   obtain rfl:=aG h
   exact c6 () 0
 ·clear al
  rcases ay with ay | ay
  ·simp only [Sum.elim_inl] at h
   refine ae.dD ?_
   refine ae.next ?_
   refine aA ?_
   refine aH ?_
   refine aJ ?_
   refine ag.ret ?_
   obtain rfl:=aG h
   exact c3
  ·simp only [Sum.elim_inr] at h
   refine ae.dQ ?_
   refine ae.ret ?_
   obtain rfl:=aG h
   exact c3
theorem gz {aa:bI} {ai:Int} {cO:Nat} {r:Int × bI} (h:fM aa ai=some r):cG Tryz.prog 32 [I.eq (.pointer (some ⟨cO,0,none⟩)),I.of (ai)] [⟨some cO,.var (aa:bI)⟩] (δ:=Unit) (fun d=>I.of (r.1)) (fun d=> [⟨some cO,.var (r.2:bI)⟩]):=by
 unfold fM at h
 refine cG.of Tryz.func32 rfl Tryz.ntmps32 rfl fun W A=> ?_
 refine aA ?_
 refine aH ?_
 refine bx ?_
 refine aA ?_
 refine ax ?_
 obtain⟨aD,bp,h⟩:=ar h
 refine ak.qd (jx.call [0] Oo (Rb bp) ⟨ad rfl,trivial⟩ rfl ⟨rfl,trivial⟩ rfl) rfl rfl rfl ?_
 refine aY iT ?_
 refine ax ?_
 refine eg cN ?_
 refine k7 dd ?_
 refine pb ?_
 refine aJ ?_
 refine b0 h (fun h=>?_) fun h=>?_
 ·refine aA ?_
  refine aH ?_
  refine aJ ?_
  refine ag.ret ?_
  refine ae.ret ?_
  refine ae.cd 0 rfl ?_
  obtain rfl:=aG h
  exact k6 ()
 ·refine cn ?_
  refine aA ?_
  refine ax ?_
  refine aY fV ?_
  refine aY (a2 yP) ?_
  refine b5 0 xN bM ?_
  refine a5 cL ?_
  refine aY fV ?_
  refine aY (a2 yP) ?_
  refine jt 0 xN bM ?_
  refine bx ?_
  obtain⟨aV,b4,h⟩:=ar h
  obtain⟨aM,b9,h⟩:=ar h
  refine ag.draw mixed 14 [some 19,some 20,some 21,some 22,some 23,some 24,some 25,some 26,some 27,some 28,some 29,some 30,some 31,some 32] [[],[0],[1],[2],[],[4],[5],[6],[7],[3,8],[9],[10],[],[11,12]] [.val _,.val _,.val _,.val _,.val _,.val _,.val _,.val _,.val _,.val _,.val _,.val _,.val _,.val _] [false,false,false,false,false,false,false,false,false,false,false,false,false,false] (by kernel_rfl) rfl rfl rfl (fun c5=>⟨cw,H1 fV,H1 (a2 FD),dN 0 BG Dg,cw,H1 fV,H1 (a2 yP),dN 0 xN bM,lq jn,j0 b4 Tryz.underlying22 iy,H1 (cK iy),H1 (VI Tryz.underlying5 Tryz.underlying3),cw,df fun aC av=>ze (ad rfl) (ad rfl) (yC b9),trivial⟩) fun c5=> ?_
  refine aH ?_
  refine aJ ?_
  refine ag.ret ?_
  refine ae.cd 0 rfl ?_
  obtain rfl:=aG h
  exact k6 ()
end Go.Proofs.YtmnggbjcnoffeaaGreat
namespace Go.Proofs.YtmnggbjcnoffeaaGreat
open Go Gv
set_option linter.unusedVariables false
set_option linter.unusedSimpArgs false
set_option maxRecDepth 100000
set_option maxHeartbeats 2000000
theorem J8 {aa:List Int} {ai:Int} {r:Int} (h:vL aa ai=some r):bn Tryz.prog 141 [I.of (aa),I.of (ai)] (I.of (r)):=by
 unfold vL at h
 refine bn.of Tryz.func141 rfl Tryz.ntmps141 rfl fun W A=> ?_
 refine aA ?_
 refine aH ?_
 refine bx ?_
 refine aA ?_
 refine ax ?_
 refine aY (er Tryz.underlying63) ?_
 refine ax ?_
 refine aJ ?_
 refine ag.block ?_
 obtain⟨ay,al,h⟩:=ar h
 refine eD (γ:=Unit) (δ:=Unit) al [0,1,7,8] (fun s1 au=> [(4,I.of (0:Int)),(9,I.of (s1))]) (fun s1 au=> []) (fun az=>Sum.elim (fun az=>Exit.exit 0) (fun az=>Exit.ret) az) (fun az au=>Sum.elim (fun az=> [(4,I.of (0:Int)),(9,I.of (az.1)),(10,I.of (az.2))]) (fun az=> [(4,I.of (az.1)),(5,I.of (az.2.1)),(6,I.of (az.2.2.1)),(9,I.of (az.2.2.2.1)),(10,I.of (az.2.2.2.2.1)),(16,I.of (az.2.2.2.2.2))]) az) (fun az au=>Sum.elim (fun az=> []) (fun az=> []) az) () (fun s1 r h au=> ?_) fun au=> ?_
 ·clear al
  refine aA ?_
  refine a5 dd ?_
  refine bx ?_
  refine b0 h (fun h=>?_) fun h=>?_
  ·refine cn ?_
   refine ag.seq ?_
   refine ag.block ?_
   refine aA ?_
   refine ax ?_
   obtain⟨aV,b4,h⟩:=ar h
   refine fq b4 Tryz.underlying63 bM ?_
   refine aY (cK bM) ?_
   refine aH ?_
   refine aH ?_
   refine bE ?_
   refine ax ?_
   refine ax ?_
   refine a5 fW ?_
   refine aJ ?_
   refine b0 h (fun h=>?_) fun h=>?_
   ·refine aA ?_
    refine ax ?_
    refine aH ?_
    refine aJ ?_
    refine ag.ret ?_
    refine ae.dQ ?_
    refine ae.ret ?_
    obtain rfl:=aG h
    exact c6 () 0
   ·refine ag.skip ?_
    refine ae.db ?_
    refine ae.next ?_
    refine ag.b1 ?_
    refine a5 cL ?_
    refine ax ?_
    refine ak.nil ?_
    obtain rfl:=aG h
    exact dO () 0
  ·refine ag.exit ?_
   refine ae.exit ?_
   obtain rfl:=aG h
   exact c6 () 0
 ·clear al
  rcases ay with ay | ay
  ·simp only [Sum.elim_inl] at h
   refine ae.dD ?_
   refine ae.next ?_
   refine aA ?_
   refine aH ?_
   refine aJ ?_
   refine ag.ret ?_
   obtain rfl:=aG h
   exact c3
  ·simp only [Sum.elim_inr] at h
   refine ae.dQ ?_
   refine ae.ret ?_
   obtain rfl:=aG h
   exact c3
theorem J9 {aa:Int} {r:Int} (h:rV aa=some r):bn Tryz.prog 198 [I.of (aa)] (I.of (r)):=by
 unfold rV at h
 refine bn.of Tryz.func198 rfl Tryz.ntmps198 rfl fun W A=> ?_
 refine aA ?_
 refine aH ?_
 refine bE ?_
 refine ax ?_
 refine a5 uf ?_
 refine a5 wC ?_
 refine aH ?_
 refine aJ ?_
 refine ag.ret ?_
 obtain rfl:=aG h
 exact c3
theorem EU {aa:Vector Bool 128} {r:aw} (h:tw aa=some r):bn Tryz.prog 175 [I.of (aa)] (I.of (r)):=by
 unfold tw at h
 refine bn.of Tryz.func175 rfl Tryz.ntmps175 rfl fun W A=> ?_
 refine aA ?_
 refine ca fun bf=> ?_
 refine ch dY fun bw=> ?_
 refine bE ?_
 refine ch dY fun cz=> ?_
 refine bx ?_
 refine aA ?_
 refine aH ?_
 refine aJ ?_
 refine ag.block ?_
 obtain⟨ay,al,h⟩:=ar h
 refine eD (γ:=Unit) (δ:=Unit) al [0,1,2,3] (fun s1 au=> [(4,I.of (s1.1))]) (fun s1 au=> [(0,⟨some cz,.var (s1.2:aw)⟩)]) (fun az=>Exit.exit 0) (fun az au=> [(4,I.of (az.1)),(6,I.of (az.2.1))]) (fun az au=> [(0,⟨some cz,.var (az.2.2:aw)⟩)]) () (fun s1 r h au=> ?_) fun au=> ?_
 ·clear al
  refine ag.seq ?_
  refine aA ?_
  refine ax ?_
  refine a5 dd ?_
  refine aJ ?_
  refine b0 h (fun h=>?_) fun h=>?_
  ·refine cn ?_
   refine ag.seq ?_
   refine ag.block ?_
   refine ag.seq ?_
   refine aA ?_
   refine ax ?_
   obtain⟨aV,b4,h⟩:=ar h
   refine bh (dc (k:=aV) qQ (ad rfl) (ad rfl) (bC b4)) ?_
   refine b5 2 ((aI.id (Vector Bool 128)).comp (aI.idx (α:=Bool) 128 aV (bC b4).1)) hR ?_
   refine aJ ?_
   obtain⟨bJ,cB,h⟩:=ar h
   refine hQ (γ:=Unit) [0,1,2,3,4,6,11] (fun aT=> []) (fun aT=> [(0,⟨some cz,.var (bJ:aw)⟩)]) (fun aT=> ?_) (fun hm ao=> ?_) fun hm ao=> ?_
   ·clear cB
    refine ae.next ?_
    refine aA ?_
    refine ax ?_
    refine a5 cL ?_
    obtain⟨bu,cD,h⟩:=ar h
    refine bh (dc (k:=bu) qQ (ad rfl) (ad rfl) (bC cD)) ?_
    refine b5 2 ((aI.id (Vector Bool 128)).comp (aI.idx (α:=Bool) 128 bu (bC cD).1)) hR ?_
    refine aJ ?_
    obtain⟨cy,dE,h⟩:=ar h
    refine hQ (γ:=Unit) [0,1,2,3,4,6,11,22] (fun bq=> []) (fun bq=> [(0,⟨some cz,.var (cy:aw)⟩)]) (fun bq=> ?_) (fun hm ao=> ?_) fun hm ao=> ?_
    ·clear dE
     refine ae.db ?_
     refine ae.next ?_
     refine ag.b1 ?_
     refine ax ?_
     refine a5 cL ?_
     refine aH ?_
     refine ak.nil ?_
     obtain rfl:=aG h
     exact dO () 0
    ·have h:=gK ao dE
     refine ag.b1 ?_
     refine aY (a2 mm) ?_
     refine b5 0 h9 fx ?_
     refine ax ?_
     refine aY (ic Tryz.underlying3 Tryz.underlying130) ?_
     refine bh (mQ (gJ 1 rfl) (ad rfl)) ?_
     refine a5 sh ?_
     refine aY (a2 mm) ?_
     obtain⟨bN,dg,h⟩:=ar h
     refine sP 0 h9 fx (hb:=by exact dg) ?_
     refine ak.nil ?_
     obtain rfl:=aG h
     exact dj 0 (hm ())
    ·have h:=gL ao dE
     refine ag.skip ?_
     obtain rfl:=aG h
     exact dj 0 (hm ())
   ·have h:=gK ao cB
    refine ag.b1 ?_
    refine aY (a2 jD) ?_
    refine b5 0 eO fx ?_
    refine ax ?_
    refine aY (ic Tryz.underlying3 Tryz.underlying130) ?_
    refine bh (mQ (gJ 1 rfl) (ad rfl)) ?_
    refine a5 sh ?_
    refine aY (a2 jD) ?_
    obtain⟨c7,gG,h⟩:=ar h
    refine sP 0 eO fx (hb:=by exact gG) ?_
    refine ak.nil ?_
    obtain rfl:=aG h
    exact dj 0 (hm ())
   ·have h:=gL ao cB
    refine ag.skip ?_
    obtain rfl:=aG h
    exact dj 0 (hm ())
  ·refine ag.exit ?_
   refine ae.exit ?_
   obtain rfl:=aG h
   exact c6 () 0
 ·clear al
  refine ae.dD ?_
  refine ae.next ?_
  refine aA ?_
  refine bY 0 bT ?_
  refine bS 1 bT ?_
  refine aJ ?_
  refine ag.ret ?_
  obtain rfl:=aG h
  exact ae.gh rfl (dF 1 bT)
theorem Kh {aa:aw} {r:(Vector Bool 128)} (h:vN aa=some r):bn Tryz.prog 143 [I.of (aa)] (I.of (r)):=by
 unfold vN at h
 refine bn.of Tryz.func143 rfl Tryz.ntmps143 rfl fun W A=> ?_
 refine aA ?_
 refine ca fun bf=> ?_
 refine ch ug fun bw=> ?_
 refine bE ?_
 refine ch ug fun cz=> ?_
 refine bx ?_
 refine aA ?_
 refine aH ?_
 refine aJ ?_
 refine ag.block ?_
 obtain⟨ay,al,h⟩:=ar h
 refine eD (γ:=Unit) (δ:=Unit) al [0,1,2,3] (fun s1 au=> [(4,I.of (s1.1))]) (fun s1 au=> [(0,⟨some cz,.var (s1.2:Vector Bool 128)⟩)]) (fun az=>Exit.exit 0) (fun az au=> [(4,I.of (az.1)),(6,I.of (az.2.1))]) (fun az au=> [(0,⟨some cz,.var (az.2.2:Vector Bool 128)⟩)]) () (fun s1 r h au=> ?_) fun au=> ?_
 ·clear al
  refine ag.seq ?_
  refine aA ?_
  refine ax ?_
  refine a5 dd ?_
  refine aJ ?_
  refine b0 h (fun h=>?_) fun h=>?_
  ·refine cn ?_
   refine ag.seq ?_
   refine ag.block ?_
   obtain⟨aV,b4,h⟩:=ar h
   obtain⟨bN,dg,h⟩:=ar h
   refine ag.draw mixed 19 ((some 9) :: (some 10) :: (some 11) :: (some 12) :: (some 13) :: (some 14) :: (some 15) :: (some 16) :: (some 17) :: (some 18) :: (some 19) :: (some 20) :: (some 21) :: (some 22) :: (some 23) :: (some 24) :: (some 25) :: (some 26) :: none :: []) ([] :: [] :: [1] :: [] :: [3] :: [] :: [5] :: [4,6] :: [7] :: [8] :: [] :: [10] :: [] :: [12] :: [11,13] :: [14] :: [15] :: [0] :: [9,17] :: []) (.val _ :: .val _ :: .val _ :: .val _ :: .val _ :: .val _ :: .val _ :: .val _ :: .val _ :: .val _ :: .val _ :: .val _ :: .val _ :: .val _ :: .val _ :: .val _ :: .val _ :: .val _ :: .jJ 0 (.var (bN:Vector Bool 128)) :: []) (false :: false :: false :: false :: false :: false :: false :: false :: false :: false :: false :: false :: false :: false :: false :: false :: false :: false :: true :: []) (by kernel_rfl) rfl rfl rfl (fun c5=>⟨cw,cw,lq cL,H1 (a2 jD),dN 2 eO fx,cw,H1 (ic Tryz.underlying3 Tryz.underlying130),lq tI,df fun aC av=>qA (ad rfl) (gJ 1 rfl),df fun aC av=>yQ (ad rfl) (gJ 1 rfl),H1 (a2 mm),dN 2 h9 fx,cw,H1 (ic Tryz.underlying3 Tryz.underlying130),lq tI,df fun aC av=>qA (ad rfl) (gJ 1 rfl),df fun aC av=>yQ (ad rfl) (gJ 1 rfl),df fun aC av=>dc (k:=aV) qQ (ad rfl) (ad rfl) (bC b4),⟨_,_,rfl,fun aC av=>oU (i:=0) ((aI.id (Vector Bool 128)).comp (aI.idx (α:=Bool) 128 aV (bC b4).1)) (v:=(((aa.b7 >>> (BitVec.ofInt 64 s1.1).toNat) &&& (1#64)) ==(1#64):Bool)) (b':=(bN:Vector Bool 128)) hR (ad rfl) (ad rfl) (av _ _ rfl) rfl (aG dg)⟩,trivial⟩) fun c5=> ?_
   obtain⟨bu,cD,h⟩:=ar h
   refine bh (dc (k:=bu) qQ (ad rfl) (ad rfl) (bC cD)) ?_
   obtain⟨c7,gG,h⟩:=ar h
   refine sP 0 ((aI.id (Vector Bool 128)).comp (aI.idx (α:=Bool) 128 bu (bC cD).1)) hR (hb:=by exact gG) ?_
   refine ak.nil ?_
   refine ae.db ?_
   refine ae.next ?_
   refine ag.b1 ?_
   refine ax ?_
   refine a5 cL ?_
   refine aH ?_
   refine ak.nil ?_
   obtain rfl:=aG h
   exact dO () 0
  ·refine ag.exit ?_
   refine ae.exit ?_
   obtain rfl:=aG h
   exact c6 () 0
 ·clear al
  refine ae.dD ?_
  refine ae.next ?_
  refine aA ?_
  refine bY 0 sn ?_
  refine bS 1 sn ?_
  refine aJ ?_
  refine ag.ret ?_
  obtain rfl:=aG h
  exact ae.gh rfl (dF 1 sn)
end Go.Proofs.YtmnggbjcnoffeaaGreat
namespace Go.Proofs.YtmnggbjcnoffeaaGreat
open Go Gv
set_option linter.unusedVariables false
set_option linter.unusedSimpArgs false
set_option maxRecDepth 100000
set_option maxHeartbeats 2000000
theorem RV {aa:Vector (BitVec 8) 512} {r:(Vector aw 4)} (h:yj aa=some r):bn Tryz.prog 130 [I.of (aa)] (I.of (r)):=by
 unfold yj at h
 refine bn.of Tryz.func130 rfl Tryz.ntmps130 rfl fun W A=> ?_
 refine aA ?_
 refine ca fun bf=> ?_
 refine ch iV fun bw=> ?_
 refine bE ?_
 refine ch iV fun cz=> ?_
 refine bx ?_
 refine aA ?_
 refine ax ?_
 refine aJ ?_
 refine ag.block ?_
 obtain⟨ay,al,h⟩:=ar h
 refine eD (γ:=Unit) (δ:=Unit) al [0,1,2,3] (fun s1 au=> [(7,I.of (s1.1))]) (fun s1 au=> [(0,⟨some cz,.var (s1.2:Vector aw 4)⟩)]) (fun az=>Exit.exit 0) (fun az au=> [(7,I.of (az.1)),(8,I.of (az.2.1))]) (fun az au=> [(0,⟨some cz,.var (az.2.2:Vector aw 4)⟩)]) () (fun s1 r h au=> ?_) fun au=> ?_
 ·clear al
  refine aA ?_
  refine a5 dd ?_
  refine bx ?_
  refine b0 h (fun h=>?_) fun h=>?_
  ·refine cn ?_
   refine ag.seq ?_
   refine ag.block ?_
   refine aA ?_
   refine ax ?_
   refine aH ?_
   refine bE ?_
   refine ch ug fun ff=> ?_
   refine bx ?_
   refine aA ?_
   refine ax ?_
   refine aJ ?_
   refine ag.block ?_
   obtain⟨aS,al,h⟩:=ar h
   refine eD (γ:=Unit) (δ:=Unit) al [0,1,2,3,4,5,7,8] (fun s2 aT=> [(10,I.of (s2.1))]) (fun s2 aT=> [(0,⟨some ff,.var (s2.2:Vector Bool 128)⟩)]) (fun ck=>Exit.exit 2) (fun ck aT=> [(10,I.of (ck.1)),(11,I.of (ck.2.1))]) (fun ck aT=> [(0,⟨some ff,.var (ck.2.2:Vector Bool 128)⟩)]) () (fun s2 r h aT=> ?_) fun aT=> ?_
   ·clear al
    refine aA ?_
    refine a5 dd ?_
    refine bx ?_
    refine b0 h (fun h=>?_) fun h=>?_
    ·refine cn ?_
     refine ag.seq ?_
     refine ag.block ?_
     refine aA ?_
     refine ax ?_
     refine aH ?_
     refine aJ ?_
     refine ag.b1 ?_
     refine ax ?_
     refine ax ?_
     refine a5 Gz ?_
     refine a5 cL ?_
     refine ax ?_
     refine a5 jn ?_
     obtain⟨aV,b4,h⟩:=ar h
     refine bh (dc (k:=aV) jE (ad rfl) (ad rfl) (bC b4)) ?_
     refine b5 3 ((aI.id (Vector (BitVec 8) 512)).comp (aI.idx (α:=BitVec 8) 512 aV (bC b4).1)) iy ?_
     refine bh (F6 (ad rfl) (nn 1 rfl)) ?_
     obtain⟨bu,cD,h⟩:=ar h
     refine bh (dc (k:=bu) qQ (ad rfl) (ad rfl) (bC cD)) ?_
     refine jt 0 ((aI.id (Vector Bool 128)).comp (aI.idx (α:=Bool) 128 bu (bC cD).1)) hR ?_
     refine ak.nil ?_
     refine ae.db ?_
     refine ae.next ?_
     refine ag.b1 ?_
     refine a5 cL ?_
     refine ax ?_
     refine ak.nil ?_
     obtain rfl:=aG h
     exact dO () 0
    ·refine ag.exit ?_
     refine ae.exit ?_
     obtain rfl:=aG h
     exact c6 () 0
   ·clear al
    refine ae.dD ?_
    refine ae.next ?_
    refine ag.b1 ?_
    refine ax ?_
    refine bY 0 sn ?_
    obtain⟨aD,bp,h⟩:=ar h
    refine cH GA (EU bp) ?_
    obtain⟨cb,eu,h⟩:=ar h
    refine bh (dc (k:=cb) gq (ad rfl) (ad rfl) (bC eu)) ?_
    refine jt 1 ((aI.id (Vector aw 4)).comp (aI.idx (α:=aw) 4 cb (bC eu).1)) bT ?_
    refine ak.nil ?_
    refine ae.db ?_
    refine ae.next ?_
    refine ag.b1 ?_
    refine a5 cL ?_
    refine ax ?_
    refine ak.nil ?_
    obtain rfl:=aG h
    exact dO () 1
  ·refine ag.exit ?_
   refine ae.exit ?_
   obtain rfl:=aG h
   exact c6 () 0
 ·clear al
  refine ae.dD ?_
  refine ae.next ?_
  refine aA ?_
  refine bY 0 dR ?_
  refine bS 1 dR ?_
  refine aJ ?_
  refine ag.ret ?_
  obtain rfl:=aG h
  exact ae.gh rfl (dF 1 dR)
theorem mJ {aa:bI} {cO:Nat} {r:Bool × bI} (h:kW aa=some r):cG Tryz.prog 55 [I.eq (.pointer (some ⟨cO,0,none⟩))] [⟨some cO,.var (aa:bI)⟩] (δ:=Unit) (fun d=>I.of (r.1)) (fun d=> [⟨some cO,.var (r.2:bI)⟩]):=by
 unfold kW at h
 refine cG.of Tryz.func55 rfl Tryz.ntmps55 rfl fun W A=> ?_
 refine aA ?_
 refine aH ?_
 refine bE ?_
 refine ax ?_
 refine ak.cd 0 rfl ?_
 obtain⟨aD,bp,h⟩:=ar h
 refine eT 1 gD (gz bp) fun az=> ?_
 refine a5 fW ?_
 refine aH ?_
 refine aJ ?_
 refine ag.ret ?_
 refine ae.cd 0 rfl ?_
 obtain rfl:=aG h
 exact k6 ()
end Go.Proofs.YtmnggbjcnoffeaaGreat
namespace Go.Proofs.YtmnggbjcnoffeaaGreat
open Go Gv
set_option linter.unusedVariables false
set_option linter.unusedSimpArgs false
set_option maxRecDepth 100000
set_option maxHeartbeats 2000000
theorem QO {aa:bI} {cO:Nat} {r:(List dy) × bI} (h:xF aa=some r):cG Tryz.prog 68 [I.eq (.pointer (some ⟨cO,0,none⟩))] [⟨some cO,.var (aa:bI)⟩] (δ:=Unit) (fun d=>I.of (r.1)) (fun d=> [⟨some cO,.var (r.2:bI)⟩]):=by
 unfold xF at h
 refine cG.of Tryz.func68 rfl Tryz.ntmps68 rfl fun W A=> ?_
 refine aA ?_
 refine bh (eC (look_nil (α:=dy))) ?_
 refine bE ?_
 refine fQ ([0,0,65535,3]:List Int) Tryz.underlying63 bM h3 ?_
 refine aH ?_
 refine bE ?_
 refine ax ?_
 refine ax ?_
 refine ak.cd 0 rfl ?_
 obtain⟨aD,bp,h⟩:=ar h
 refine eT 1 gD (gz bp) fun az=> ?_
 obtain⟨aV,b4,h⟩:=ar h
 refine fq b4 Tryz.underlying63 bM ?_
 refine aY (cK bM) ?_
 refine bh (pH (b:=({ (default:dy) with bU:=1,hW:=1,mM:=4,g4:=aB ([0,0,65535,3]:List Int) aV } :dy)) [3] LR rfl GB so (.cons BM rfl (bF 1) rfl (by rfl) (.cons Ew rfl (bF 1) rfl (by rfl) (.cons JD rfl (bF 4) rfl (by rfl) (.cons Et rfl (ad rfl) rfl (by rfl) (.nil)))))) ?_
 refine ak.own (α:=gm) 195 ?_
 refine ak.oV (z:=(default:dy)) [3] LR so rfl fun bf=> ?_
 refine ak.own (α:=gm) 195 ?_
 refine ak.qH (i:=1) pO (ad rfl) (ad rfl) rfl ?_
 refine bE ?_
 refine bh (cU (b:=({ (default:aw) with b7:=1#64 } :aw)) rfl hv dY (.cons eO rfl (gJ 1 rfl) rfl (.nil))) ?_
 refine bh (cU (b:=({ (default:aw) with b7:=15#64 } :aw)) rfl hv dY (.cons eO rfl (gJ 15 rfl) rfl (.nil))) ?_
 obtain⟨bN,dg,h⟩:=ar h
 refine dm dg (cU (b:= { bW:=({ (default:aw) with b7:=1#64 } :aw),bR:=({ (default:aw) with b7:=15#64 } :aw),oW:=2:gm }) rfl CT sq (.cons Bz rfl (ad rfl) rfl (.cons BI rfl (ad rfl) rfl (.cons BJ rfl (bF 2) rfl (.nil))))) ?_
 refine bh (cU (b:=({ (default:aw) with b7:=2#64 } :aw)) rfl hv dY (.cons eO rfl (gJ 2 rfl) rfl (.nil))) ?_
 refine bh (cU (b:=({ (default:aw) with b7:=3#64 } :aw)) rfl hv dY (.cons eO rfl (gJ 3 rfl) rfl (.nil))) ?_
 obtain⟨c7,gG,h⟩:=ar h
 refine dm gG (cU (b:= { bW:=({ (default:aw) with b7:=2#64 } :aw),bR:=({ (default:aw) with b7:=3#64 } :aw),oW:=3:gm }) rfl CT sq (.cons Bz rfl (ad rfl) rfl (.cons BI rfl (ad rfl) rfl (.cons BJ rfl (bF 3) rfl (.nil))))) ?_
 refine ak.pV (α:=gm) (r:= [bN,c7]) Tryz.underlying191 CU sq rfl rfl (.cons (by simp) (ad rfl) (.cons (by simp) (ad rfl) (.nil))) rfl fun gE=> ?_
 refine aY (a2 Cr) ?_
 refine ak.jm (i:=2) (γ:=gm) (b':=(({ ({ (default:dy) with bU:=1,hW:=1,mM:=4,g4:=aB ([0,0,65535,3]:List Int) aV } :dy) with n9:= [] } :dy):dy)) (os':= [(3,aZ gE [bN,c7].length 2)]) ((aI.id dy).comp Bu) zf (ad rfl) (ad rfl) iu rfl rfl rfl rfl ?_
 refine bx ?_
 refine aA ?_
 refine ax ?_
 refine ak.cd 4 rfl ?_
 obtain⟨aM,b9,h⟩:=ar h
 refine eT 1 m2 (mJ b9) fun ck=> ?_
 refine aJ ?_
 obtain⟨bJ,cB,h⟩:=ar h
 refine hQ (γ:=(Option Nat × Nat)) [0,2,3,4,23] (fun au=> []) (fun au=> [(0,⟨some cO,.var (bJ.1:bI)⟩),(1,⟨au.1,.row 195 (bJ.2:List gm) au.2⟩),(3,⟨some bf,.cC (({ ({ (default:dy) with bU:=1,hW:=1,mM:=4,g4:=aB ([0,0,65535,3]:List Int) aV } :dy) with n9:= [] } :dy):dy) [(3,aZ au.1 bJ.2.length au.2)]⟩)]) (fun au=> ?_) (fun hm ao=> ?_) fun hm ao=> ?_
 ·clear cB
  refine ae.next ?_
  refine aA ?_
  refine ax ?_
  refine ax ?_
  refine ak.cd 0 rfl ?_
  obtain⟨a8,dP,h⟩:=ar h
  refine eT 1 gD (gz dP) fun fS=> ?_
  obtain⟨bu,cD,h⟩:=ar h
  refine fq cD Tryz.underlying63 bM ?_
  refine aY (cK bM) ?_
  obtain⟨fA,j1,h⟩:=ar h
  refine dm j1 (cU (b:=({ (default:dy) with bU:=2,hW:=2,g4:=aB ([0,0,65535,3]:List Int) bu } :dy)) rfl GB so (.cons BM rfl (bF 2) rfl (.cons Ew rfl (bF 2) rfl (.cons Et rfl (ad rfl) rfl (.nil))))) ?_
  refine ch so fun bw=> ?_
  refine bS 0 pO ?_
  refine bE ?_
  obtain⟨hj,k8,h⟩:=ar h
  refine dm k8 (cU (b:=({ (default:dy) with bU:=3,hW:=3,mM:=9,g4:=0 } :dy)) rfl GB so (.cons BM rfl (bF 3) rfl (.cons Ew rfl (bF 3) rfl (.cons JD rfl (bF 9) rfl (.cons Et rfl (bF 0) rfl (.nil)))))) ?_
  refine ch so fun cz=> ?_
  refine bS 0 pO ?_
  refine bx ?_
  refine aA ?_
  refine ax ?_
  refine ak.cd 2 rfl ?_
  obtain⟨br,eW,h⟩:=ar h
  refine eT 1 gD (gz eW) fun je=> ?_
  refine a5 fW ?_
  refine aJ ?_
  obtain⟨cy,dE,h⟩:=ar h
  refine hQ (γ:=Unit) [0,2,3,4,5,6,23,50] (fun aT=> []) (fun aT=> [(0,⟨some cO,.var (cy.1:bI)⟩),(1,⟨some cz,.var (cy.2:dy)⟩)]) (fun aT=> ?_) (fun hm ao=> ?_) fun hm ao=> ?_
  ·clear dE
   refine ae.next ?_
   refine aA ?_
   refine ak.iW (β:=dy) (γ:=gm) (b':=(({ ({ (default:dy) with bU:=1,hW:=1,mM:=4,g4:=aB ([0,0,65535,3]:List Int) aV } :dy) with n9:=bJ.2 } :dy):dy)) ((aI.id dy).comp Bu) 5 3 0 rfl rfl rfl rfl rfl rfl ?_
   refine ak.nx 5 rfl ?_
   obtain⟨hk,nH,h⟩:=ar h
   refine dm nH (fb (i:=5) (aI.id dy) (r:=({ ({ (default:dy) with bU:=1,hW:=1,mM:=4,g4:=aB ([0,0,65535,3]:List Int) aV } :dy) with n9:=bJ.2 } :dy)) pO (ad rfl) rfl rfl rfl) ?_
   refine bY 2 pO ?_
   refine bY 1 pO ?_
   refine fQ [hk,fA,cy.2] Tryz.underlying26 pO so ?_
   refine aH ?_
   refine aJ ?_
   refine ag.ret ?_
   refine ae.cd 0 rfl ?_
   obtain rfl:=aG h
   exact k6 ()
  ·have h:=gK ao dE
   refine ag.b1 ?_
   refine bh (cU (b:=({ (default:aw) with b7:=5#64 } :aw)) rfl hv dY (.cons eO rfl (gJ 5 rfl) rfl (.nil))) ?_
   refine bh (cU (b:=({ (default:aw) with b7:=15#64 } :aw)) rfl hv dY (.cons eO rfl (gJ 15 rfl) rfl (.nil))) ?_
   refine ax ?_
   refine ak.cd 0 rfl ?_
   obtain⟨cj,gH,h⟩:=ar h
   refine eT 1 gD (gz gH) fun ey=> ?_
   refine a5 cL ?_
   obtain⟨kc,rf,h⟩:=ar h
   refine dm rf (cU (b:= { bW:=({ (default:aw) with b7:=5#64 } :aw),bR:=({ (default:aw) with b7:=15#64 } :aw),oW:=bm (1 + cj.1):gm }) rfl CT sq (.cons Bz rfl (ad rfl) rfl (.cons BI rfl (ad rfl) rfl (.cons BJ rfl (ad rfl) rfl (.nil))))) ?_
   refine fQ [kc] Tryz.underlying191 CU sq ?_
   refine aY (a2 Cr) ?_
   refine jt 1 Bu zf ?_
   refine ak.nil ?_
   obtain rfl:=aG h
   exact dj 0 (hm ())
  ·have h:=gL ao dE
   refine ag.skip ?_
   obtain rfl:=aG h
   exact dj 0 (hm ())
 ·have h:=gK ao cB
  obtain⟨cM,hh,h⟩:=ar h
  obtain⟨jM,rh,h⟩:=ar h
  obtain⟨dv,kM,h⟩:=ar h
  obtain⟨cb,eu,h⟩:=ar h
  obtain⟨hB,ri,h⟩:=ar h
  obtain⟨eU,k9,h⟩:=ar h
  refine lI [0,2,3,4,7,8,9,10,11,12,13,14,15,16,17,18,19,20,21,22,23] ?_
  refine ag.kn mixed (bt 24 [] [] _ :: bt 25 (0 :: []) (3 :: []) _ :: bt 26 [] [] _ :: ⟨some 27,(2 :: []),(0 :: []),(0 :: []),fun _=>I.of (cM.1),fun hd _=>⟨some cO,.var (cM.2:bI)⟩⟩ :: bt 28 (3 :: []) [] _ :: bt 29 (4 :: []) [] _ :: bt 30 (5 :: []) [] _ :: bt 31 [] [] _ :: bt 32 [] [] _ :: bt 33 [] [] _ :: ⟨some 34,(3 :: 9 :: []),(0 :: []),(0 :: []),fun _=>I.of (dv.1),fun hd _=>⟨some cO,.var (dv.2:bI)⟩⟩ :: bt 35 (8 :: 10 :: []) [] _ :: bt 36 (11 :: []) [] _ :: bt 37 (6 :: 7 :: 12 :: []) [] _ :: bt 38 (13 :: []) [] _ :: ⟨some 39,(1 :: 14 :: []),(1 :: []),(1 :: []),fun hd=>I.eq (aZ (hd 15 0) eU.length ((hd 15 1).getD 0)),fun hd _=>⟨(hd 15 0),.row 195 (eU:List gm) ((hd 15 1).getD 0)⟩⟩ :: bt 40 [] [] _ :: ⟨none,(1 :: 15 :: 16 :: []),(3 :: []),(3 :: []),fun _=>I.any,fun hd _=>⟨some bf,.cC (({ ({ (default:dy) with bU:=1,hW:=1,mM:=4,g4:=aB ([0,0,65535,3]:List Int) aV } :dy) with n9:= [] } :dy):dy) [(3,aZ (hd 15 0) eU.length ((hd 15 1).getD 0))]⟩⟩ :: []) _ (0 :: 2 :: 3 :: 4 :: 7 :: 8 :: 9 :: 10 :: 11 :: 12 :: 13 :: 14 :: 15 :: 16 :: 17 :: 18 :: 19 :: 20 :: 21 :: 22 :: 23 :: []) rfl rfl (by kernel_rfl) ⟨ga (a2 Cr),c2 fun hd E' aC aL av=>iR (i:=3) (q:=0) (β:=dy) (γ:=gm) zf (ad (aL _ _ rfl)) (av 3 _ rfl rfl) rfl,gb,?_,xf Gz,ga (ic Tryz.underlying3 Tryz.underlying41),c2 fun hd E' aC aL av=>(cU (b:=({ (default:aw) with b7:=BitVec.ofInt 64 (bm (8 * cM.1)) } :aw)) rfl hv dY (.cons eO rfl (ad (aL _ _ rfl)) rfl (.nil))).as (aG rh),c2 fun hd E' aC aL av=>cU (b:=({ (default:aw) with b7:=8#64 } :aw)) rfl hv dY (.cons eO rfl (gJ 8 rfl) rfl (.nil)),gb,gb,?_,c2 fun hd E' aC aL av=>oZ (k:=cb) Tryz.underlying63 bM (ad (aL _ _ rfl)) (ad (aL _ _ rfl)) (bC eu),ga (cK bM),c2 fun hd E' aC aL av=>(cU (b:= { bW:=jM,bR:=({ (default:aw) with b7:=8#64 } :aw),oW:=aB ([0,0,65535,3]:List Int) cb:gm }) rfl CT sq (.cons Bz rfl (ad (aL _ _ rfl)) rfl (.cons BI rfl (ad (aL _ _ rfl)) rfl (.cons BJ rfl (ad (aL _ _ rfl)) rfl (.nil))))).as (aG ri),c2 fun hd E' aC aL av=>jU (r:= [hB]) Tryz.underlying191 CU sq rfl rfl (.cons (by simp) (ad (aL _ _ rfl)) (.nil)),?_,ga (a2 Cr),?_,trivial⟩ fun gO=> ?_
  ·intro hd E' aC aL av
   refine ak.cd 0 (av 0 _ rfl rfl) ?_
   refine ak.lX (Lin:= [⟨some cO,.var (aM.2:bI)⟩]) (Lr:=aC.eraseIdx 0) gD (gz hh) ⟨ad (aL _ _ rfl),bF 2,trivial⟩ rfl fun jf=> ?_
   refine ak.nil ?_
   refine ae.back 0 (av 0 _ rfl rfl) ?_
   exact ae.fin (fI []) rfl rfl
  ·intro hd E' aC aL av
   refine ak.cd 0 (av 0 _ rfl rfl) ?_
   refine ak.lX (Lin:= [⟨some cO,.var (cM.2:bI)⟩]) (Lr:=aC.eraseIdx 0) gD (gz kM) ⟨ad (aL _ _ rfl),bF 4,trivial⟩ rfl fun Ed=> ?_
   refine ak.nil ?_
   refine ae.back 0 (av 0 _ rfl rfl) ?_
   exact ae.fin (fI []) rfl rfl
  ·intro hd E' aC aL av
   refine ak.app (i:=1) Tryz.underlying191 CU sq (bytes:=40) (by kernel_rfl) (ad (aL _ _ rfl)) (av 1 _ rfl rfl) (ad (aL _ _ rfl)) k9 rfl fun kq e2=> ?_
   refine ak.nil ?_
   exact ae.fin (fI [kq,some e2]) rfl rfl
  ·intro hd E' aC aL av
   refine ak.jm (i:=3) (γ:=gm) (b':=(({ ({ (default:dy) with bU:=1,hW:=1,mM:=4,g4:=aB ([0,0,65535,3]:List Int) aV } :dy) with n9:= [] } :dy):dy)) (os':= [(3,aZ (hd 15 0) eU.length ((hd 15 1).getD 0))]) ((aI.id dy).comp Bu) zf (ad (aL _ _ rfl)) (ad (aL _ _ rfl)) iu (av 3 _ rfl rfl) rfl rfl rfl ?_
   refine ak.nil ?_
   exact ae.fin (fI []) rfl rfl
  refine ae.gu (L2:= [⟨some cO,.var (dv.2:bI)⟩,⟨(gO 15 0),.row 195 (eU:List gm) ((gO 15 1).getD 0)⟩,⟨none,.row 195 (([]:List gm):List gm) 0⟩,⟨some bf,.cC (({ ({ (default:dy) with bU:=1,hW:=1,mM:=4,g4:=aB ([0,0,65535,3]:List Int) aV } :dy) with n9:= [] } :dy):dy) [(3,aZ (gO 15 0) eU.length ((gO 15 1).getD 0))]⟩,⟨none,.row 195 (([]:List gm):List gm) 0⟩]) rfl ?_
  refine l8 [0,2,3,4,7,8,9,10,11,12,13,14,15,16,17,18,19,21,22,23,24,26,27,28,29,30,31,32,33,34,35,36,37,38,39,40] ?_
  obtain rfl:=aG h
  exact dj 0 (hm ((gO 15 0),((gO 15 1).getD 0)))
 ·have h:=gL ao cB
  refine ag.skip ?_
  obtain rfl:=aG h
  exact dj 0 (hm (gE,2))
end Go.Proofs.YtmnggbjcnoffeaaGreat
namespace Go.Proofs.YtmnggbjcnoffeaaGreat
open Go Gv
set_option linter.unusedVariables false
set_option linter.unusedSimpArgs false
set_option maxRecDepth 100000
set_option maxHeartbeats 2000000
theorem QG {aa:bI} {cO:Nat} {r:(List dL) × bI} (h:xC aa=some r):cG Tryz.prog 69 [I.eq (.pointer (some ⟨cO,0,none⟩))] [⟨some cO,.var (aa:bI)⟩] (δ:=Unit) (fun d=>I.of (r.1)) (fun d=> [⟨some cO,.var (r.2:bI)⟩]):=by
 unfold xC at h
 refine cG.of Tryz.func69 rfl Tryz.ntmps69 rfl fun W A=> ?_
 refine aA ?_
 refine bh (eC (look_nil (α:=dL))) ?_
 refine bE ?_
 refine hH CV zg ({ (default:fC) with cS:=3 } :fC) (iY Bp .nil) ?_
 refine ch zg fun bf=> ?_
 refine bS 0 CW ?_
 refine bx ?_
 obtain⟨bN,dg,h⟩:=ar h
 obtain⟨c7,gG,h⟩:=ar h
 obtain⟨fA,j1,h⟩:=ar h
 obtain⟨hj,k8,h⟩:=ar h
 obtain⟨hk,nH,h⟩:=ar h
 obtain⟨kc,rf,h⟩:=ar h
 obtain⟨jM,rh,h⟩:=ar h
 obtain⟨hB,ri,h⟩:=ar h
 obtain⟨lr,uM,h⟩:=ar h
 obtain⟨kN,ux,h⟩:=ar h
 obtain⟨ks,uy,h⟩:=ar h
 obtain⟨lJ,uz,h⟩:=ar h
 obtain⟨kt,zA,h⟩:=ar h
 obtain⟨aD,bp,h⟩:=ar h
 obtain⟨kO,zB,h⟩:=ar h
 obtain⟨aM,b9,h⟩:=ar h
 obtain⟨nI,zC,h⟩:=ar h
 obtain⟨oC,zD,h⟩:=ar h
 obtain⟨mx,Hh,h⟩:=ar h
 refine ag.q1 1 ?_
 refine lI [0,2,3,5] ?_
 refine ag.kn mixed (bt 6 [] [] _ :: bt 7 [] [] _ :: bt 8 (1 :: []) [] _ :: bt 9 (2 :: []) [] _ :: bt 10 [] [] _ :: bt 11 (4 :: []) [] _ :: bt 12 [] (0 :: []) _ :: bt 13 (6 :: []) [] _ :: bt 14 (7 :: []) [] _ :: bt 15 (5 :: 8 :: []) [] _ :: bt 16 [] [] _ :: bt 17 (10 :: []) [] _ :: bt 18 [] (0 :: []) _ :: bt 19 (12 :: []) [] _ :: bt 20 [] [] _ :: bt 21 (14 :: []) [] _ :: bt 22 (13 :: 15 :: []) [] _ :: bt 23 (11 :: 16 :: []) [] _ :: bt 24 [] [] _ :: bt 25 [] [] _ :: bt 26 (18 :: 19 :: []) [] _ :: bt 27 [] [] _ :: bt 28 [] (0 :: []) _ :: bt 29 (22 :: []) [] _ :: bt 30 [] [] _ :: bt 31 (24 :: []) [] _ :: bt 32 (21 :: 23 :: 25 :: []) [] _ :: bt 33 (20 :: 26 :: []) [] _ :: bt 34 [] [] _ :: ⟨some 35,(28 :: []),(1 :: []),(1 :: []),fun _=>I.of (aD.1),fun hd _=>⟨some cO,.var (aD.2:bI)⟩⟩ :: bt 36 (29 :: []) [] _ :: bt 37 (30 :: []) [] _ :: bt 38 [] [] _ :: ⟨some 39,(29 :: 32 :: []),(1 :: []),(1 :: []),fun _=>I.of (aM.1),fun hd _=>⟨some cO,.var (aM.2:bI)⟩⟩ :: bt 40 (33 :: []) [] _ :: bt 41 (34 :: []) [] _ :: bt 42 (35 :: []) [] _ :: bt 43 (36 :: []) [] _ :: bt 44 (31 :: 37 :: []) [] _ :: bt 45 (38 :: []) [] _ :: ⟨some 46,(0 :: 3 :: 9 :: 17 :: 27 :: 39 :: []),(2 :: []),(2 :: []),fun hd=>I.eq (aZ (hd 40 0) [bN,c7,hk,hB,kt,mx].length 6),fun hd _=>⟨(hd 40 0),.row 148 ([bN,c7,hk,hB,kt,mx]:List dL) 6⟩⟩ :: ⟨some 4,(40 :: []),[],[],fun hd=>I.eq (aZ (hd 40 0) [bN,c7,hk,hB,kt,mx].length 6),fun _ _=>⟨none,.dead⟩⟩ :: []) _ (0 :: 2 :: 3 :: 5 :: []) rfl rfl (by kernel_rfl) ⟨c2 fun hd E' aC aL av=>(cU (b:=({ (default:dL) with bU:=1,cm:=ByteArray.mk #[110,111,112] } :dL)) rfl uh o0 (.cons rP rfl (bF 1) rfl (.cons vp rfl (dC (ByteArray.mk #[110,111,112])) rfl (.nil)))).as (aG dg),c2 fun hd E' aC aL av=>cU (b:=({ (default:eY) with hY:=6 } :eY)) rfl qR mV (.cons qn rfl (bF 6) rfl (.nil)),c2 fun hd E' aC aL av=>jU (r:= [({ (default:eY) with hY:=6 } :eY)]) Tryz.underlying146 zh mV rfl rfl (.cons (by simp) (ad (aL _ _ rfl)) (.nil)),c2 fun hd E' aC aL av=>(cU (b:=({ (default:dL) with bU:=2,cm:=ByteArray.mk #[100,114,111,112],nr:= [({ (default:eY) with hY:=6 } :eY)] } :dL)) rfl uh o0 (.cons rP rfl (bF 2) rfl (.cons vp rfl (dC (ByteArray.mk #[100,114,111,112])) rfl (.cons xG rfl (ad (aL _ _ rfl)) rfl (.nil))))).as (aG gG),c2 fun hd E' aC aL av=>(cU (b:= { cm:=ByteArray.mk #[112,111,114,116],e7:=16:ia }) rfl CX sr (.cons BA rfl (dC (ByteArray.mk #[112,111,114,116])) rfl (.cons xO rfl (bF 16) rfl (.nil)))).as (aG j1),c2 fun hd E' aC aL av=>jU (r:= [fA]) Tryz.underlying145 wD sr rfl rfl (.cons (by simp) (ad (aL _ _ rfl)) (.nil)),p3 0 CW,c2 fun hd E' aC aL av=>(cU (b:=({ (default:eY) with hY:=7,ko:=({ (default:fC) with cS:=3 } :fC) } :eY)) rfl qR mV (.cons qn rfl (bF 7) rfl (.cons vv rfl (ad (aL _ _ rfl)) rfl (.nil)))).as (aG k8),c2 fun hd E' aC aL av=>jU (r:= [hj]) Tryz.underlying146 zh mV rfl rfl (.cons (by simp) (ad (aL _ _ rfl)) (.nil)),c2 fun hd E' aC aL av=>(cU (b:=({ (default:dL) with bU:=3,cm:=ByteArray.mk #[102,111,114,119,97,114,100],jS:= [fA],nr:= [hj] } :dL)) rfl uh o0 (.cons rP rfl (bF 3) rfl (.cons vp rfl (dC (ByteArray.mk #[102,111,114,119,97,114,100])) rfl (.cons Bl rfl (ad (aL _ _ rfl)) rfl (.cons xG rfl (ad (aL _ _ rfl)) rfl (.nil)))))).as (aG nH),c2 fun hd E' aC aL av=>cU (b:= { cm:=ByteArray.mk #[120],e7:=4:ia }) rfl CX sr (.cons BA rfl (dC (ByteArray.mk #[120])) rfl (.cons xO rfl (bF 4) rfl (.nil))),c2 fun hd E' aC aL av=>jU (r:= [{ cm:=ByteArray.mk #[120],e7:=4:ia }]) Tryz.underlying145 wD sr rfl rfl (.cons (by simp) (ad (aL _ _ rfl)) (.nil)),p3 0 CW,c2 fun hd E' aC aL av=>(cU (b:= { hY:=1,jo:=5,ko:=({ (default:fC) with cS:=3 } :fC):eY }) rfl qR mV (.cons qn rfl (bF 1) rfl (.cons tp rfl (bF 5) rfl (.cons vv rfl (ad (aL _ _ rfl)) rfl (.nil))))).as (aG rf),c2 fun hd E' aC aL av=>(cU (b:=({ (default:fC) with cS:=2,uN:=5 } :fC)) rfl CV zg (.cons Bp rfl (bF 2) rfl (.cons JI rfl (bF 5) rfl (.nil)))).as (aG rh),c2 fun hd E' aC aL av=>cU (b:= { hY:=2,jo:=3,ko:=jM:eY }) rfl qR mV (.cons qn rfl (bF 2) rfl (.cons tp rfl (bF 3) rfl (.cons vv rfl (ad (aL _ _ rfl)) rfl (.nil)))),c2 fun hd E' aC aL av=>jU (r:= [kc,{ hY:=2,jo:=3,ko:=jM:eY }]) Tryz.underlying146 zh mV rfl rfl (.cons (by simp) (ad (aL _ _ rfl)) (.cons (by simp) (ad (aL _ _ rfl)) (.nil))),c2 fun hd E' aC aL av=>(cU (b:=({ (default:dL) with bU:=4,cm:=ByteArray.mk #[116,97,103],jS:= [{ cm:=ByteArray.mk #[120],e7:=4:ia }],nr:= [kc,{ hY:=2,jo:=3,ko:=jM:eY }] } :dL)) rfl uh o0 (.cons rP rfl (bF 4) rfl (.cons vp rfl (dC (ByteArray.mk #[116,97,103])) rfl (.cons Bl rfl (ad (aL _ _ rfl)) rfl (.cons xG rfl (ad (aL _ _ rfl)) rfl (.nil)))))).as (aG ri),c2 fun hd E' aC aL av=>cU (b:= { cm:=ByteArray.mk #[120],e7:=4:ia }) rfl CX sr (.cons BA rfl (dC (ByteArray.mk #[120])) rfl (.cons xO rfl (bF 4) rfl (.nil))),c2 fun hd E' aC aL av=>cU (b:= { cm:=ByteArray.mk #[121],e7:=12:ia }) rfl CX sr (.cons BA rfl (dC (ByteArray.mk #[121])) rfl (.cons xO rfl (bF 12) rfl (.nil))),c2 fun hd E' aC aL av=>(jU (r:= [{ cm:=ByteArray.mk #[120],e7:=4:ia },{ cm:=ByteArray.mk #[121],e7:=12:ia }]) Tryz.underlying145 wD sr rfl rfl (.cons (by simp) (ad (aL _ _ rfl)) (.cons (by simp) (ad (aL _ _ rfl)) (.nil)))).as (aG uM),c2 fun hd E' aC aL av=>cU (b:=({ (default:eY) with hY:=4,jo:=3 } :eY)) rfl qR mV (.cons qn rfl (bF 4) rfl (.cons tp rfl (bF 3) rfl (.nil))),p3 0 CW,c2 fun hd E' aC aL av=>(cU (b:= { hY:=1,jo:=9,ko:=({ (default:fC) with cS:=3 } :fC):eY }) rfl qR mV (.cons qn rfl (bF 1) rfl (.cons tp rfl (bF 9) rfl (.cons vv rfl (ad (aL _ _ rfl)) rfl (.nil))))).as (aG ux),c2 fun hd E' aC aL av=>(cU (b:=({ (default:fC) with cS:=3,uN:=1 } :fC)) rfl CV zg (.cons Bp rfl (bF 3) rfl (.cons JI rfl (bF 1) rfl (.nil)))).as (aG uy),c2 fun hd E' aC aL av=>cU (b:= { hY:=3,jo:=8,ko:=ks:eY }) rfl qR mV (.cons qn rfl (bF 3) rfl (.cons tp rfl (bF 8) rfl (.cons vv rfl (ad (aL _ _ rfl)) rfl (.nil)))),c2 fun hd E' aC aL av=>(jU (r:= [({ (default:eY) with hY:=4,jo:=3 } :eY),kN,{ hY:=3,jo:=8,ko:=ks:eY }]) Tryz.underlying146 zh mV rfl rfl (.cons (by simp) (ad (aL _ _ rfl)) (.cons (by simp) (ad (aL _ _ rfl)) (.cons (by simp) (ad (aL _ _ rfl)) (.nil))))).as (aG uz),c2 fun hd E' aC aL av=>(cU (b:=({ (default:dL) with bU:=5,cm:=ByteArray.mk #[119,114,97,112],jS:=lr,nr:=lJ } :dL)) rfl uh o0 (.cons rP rfl (bF 5) rfl (.cons vp rfl (dC (ByteArray.mk #[119,114,97,112])) rfl (.cons Bl rfl (ad (aL _ _ rfl)) rfl (.cons xG rfl (ad (aL _ _ rfl)) rfl (.nil)))))).as (aG zA),gb,?_,xf cL,c2 fun hd E' aC aL av=>(cU (b:=({ (default:eY) with hY:=5,jo:=bm (2 + aD.1) } :eY)) rfl qR mV (.cons qn rfl (bF 5) rfl (.cons tp rfl (ad (aL _ _ rfl)) rfl (.nil)))).as (aG zB),gb,?_,ga (ic Tryz.underlying3 Tryz.underlying41),c2 fun hd E' aC aL av=>(cU (b:=({ (default:aw) with b7:=BitVec.ofInt 64 aM.1 } :aw)) rfl hv dY (.cons eO rfl (ad (aL _ _ rfl)) rfl (.nil))).as (aG zC),c2 fun hd E' aC aL av=>(cU (b:=({ (default:fC) with cS:=1,bW:=nI } :fC)) rfl CV zg (.cons Bp rfl (bF 1) rfl (.cons Qz rfl (ad (aL _ _ rfl)) rfl (.nil)))).as (aG zD),c2 fun hd E' aC aL av=>cU (b:= { hY:=2,jo:=6,ko:=oC:eY }) rfl qR mV (.cons qn rfl (bF 2) rfl (.cons tp rfl (bF 6) rfl (.cons vv rfl (ad (aL _ _ rfl)) rfl (.nil)))),c2 fun hd E' aC aL av=>jU (r:= [kO,{ hY:=2,jo:=6,ko:=oC:eY }]) Tryz.underlying146 zh mV rfl rfl (.cons (by simp) (ad (aL _ _ rfl)) (.cons (by simp) (ad (aL _ _ rfl)) (.nil))),c2 fun hd E' aC aL av=>(cU (b:=({ (default:dL) with bU:=6,cm:=ByteArray.mk #[115,116,114,105,112],nr:= [kO,{ hY:=2,jo:=6,ko:=oC:eY }] } :dL)) rfl uh o0 (.cons rP rfl (bF 6) rfl (.cons vp rfl (dC (ByteArray.mk #[115,116,114,105,112])) rfl (.cons xG rfl (ad (aL _ _ rfl)) rfl (.nil))))).as (aG Hh),?_,?_,trivial⟩ fun gO=> ?_
 ·intro hd E' aC aL av
  refine ak.cd 1 (av 1 _ rfl rfl) ?_
  refine ak.lX (Lin:= [⟨some cO,.var (aa:bI)⟩]) (Lr:=aC.eraseIdx 1) gD (gz bp) ⟨ad (aL _ _ rfl),bF 2,trivial⟩ rfl fun az=> ?_
  refine ak.nil ?_
  refine ae.back 1 (av 1 _ rfl rfl) ?_
  exact ae.fin (fI []) rfl rfl
 ·intro hd E' aC aL av
  refine ak.cd 1 (av 1 _ rfl rfl) ?_
  refine ak.lX (Lin:= [⟨some cO,.var (aD.2:bI)⟩]) (Lr:=aC.eraseIdx 1) gD (gz b9) ⟨ad (aL _ _ rfl),bF 256,trivial⟩ rfl fun ck=> ?_
  refine ak.nil ?_
  refine ae.back 1 (av 1 _ rfl rfl) ?_
  exact ae.fin (fI []) rfl rfl
 ·intro hd E' aC aL av
  refine ak.pV (α:=dL) (r:= [bN,c7,hk,hB,kt,mx]) Tryz.underlying27 mW o0 rfl rfl (.cons (by simp) (ad (aL _ _ rfl)) (.cons (by simp) (ad (aL _ _ rfl)) (.cons (by simp) (ad (aL _ _ rfl)) (.cons (by simp) (ad (aL _ _ rfl)) (.cons (by simp) (ad (aL _ _ rfl)) (.cons (by simp) (ad (aL _ _ rfl)) (.nil))))))) rfl fun gE=> ?_
  refine ak.nil ?_
  refine ae.place 2 (av 2 _ rfl rfl) ?_
  exact ae.fin (fI [gE]) rfl rfl
 ·intro hd E' aC aL av
  refine bh (eC (ad (aL _ _ rfl))) ?_
  refine ak.nil ?_
  exact ae.fin (fI []) rfl rfl
 refine ae.gu (L2:= [⟨some bf,.var (({ (default:fC) with cS:=3 } :fC):fC)⟩,⟨some cO,.var (aM.2:bI)⟩,⟨(gO 40 0),.row 148 ([bN,c7,hk,hB,kt,mx]:List dL) 6⟩]) rfl ?_
 refine l8 [0,2,3,4,5,6,7,8,9,10,11,12,13,14,15,16,17,18,19,20,21,22,23,24,25,26,27,28,29,30,31,32,33,34,35,36,37,38,39,40,41,42,43,44,45,46] ?_
 refine ae.cd 2 rfl ?_
 refine ae.next ?_
 refine ag.seq ?_
 refine aA ?_
 refine ax ?_
 refine ak.cd 2 rfl ?_
 obtain⟨a8,dP,h⟩:=ar h
 refine eT 1 m2 (mJ dP) fun fS=> ?_
 refine aJ ?_
 obtain⟨bJ,cB,h⟩:=ar h
 refine hQ (γ:=(Option Nat × Nat)) [0,2,3,48] (fun au=> [(4,I.eq (aZ au.1 bJ.length au.2))]) (fun au=> [(1,⟨au.1,.row 148 (bJ:List dL) au.2⟩)]) (fun au=> ?_) (fun hm ao=> ?_) fun hm ao=> ?_
 ·clear cB
  refine ae.next ?_
  refine ag.seq ?_
  refine aA ?_
  refine ax ?_
  refine ak.cd 0 rfl ?_
  obtain⟨br,eW,h⟩:=ar h
  refine eT 1 m2 (mJ eW) fun je=> ?_
  refine aJ ?_
  obtain⟨cy,dE,h⟩:=ar h
  refine hQ (γ:=(Option Nat × Nat)) [0,2,3,48,53] (fun aT=> [(4,I.eq (aZ aT.1 cy.length aT.2))]) (fun aT=> [(1,⟨aT.1,.row 148 (cy:List dL) aT.2⟩)]) (fun aT=> ?_) (fun hm ao=> ?_) fun hm ao=> ?_
  ·clear dE
   refine ae.next ?_
   refine aA ?_
   refine ax ?_
   refine aH ?_
   refine aJ ?_
   refine ag.ret ?_
   refine ae.kF (α:=dL) 1 [2,4,57] ⟨rfl,rfl,rfl,trivial⟩ rfl ?_
   refine ae.cd 0 rfl ?_
   obtain rfl:=aG h
   exact k6 ()
  ·have h:=gK ao dE
   refine ag.b1 ?_
   refine ax ?_
   obtain⟨aV,b4,h⟩:=ar h
   refine bh (mX (i:=1) (k:=aV) (xs:=(bJ:List dL)) Tryz.underlying27 mW (ad rfl) (bF 4) rfl (bC b4)) ?_
   refine aY (a2 LS) ?_
   obtain⟨rj,zE,h⟩:=ar h
   refine ak.si (i:=1) (k:=aV) ((aI.id dL).comp Jy) (v:=(ByteArray.mk #[120,32,60,32,121,32,124,124,32,120,32,61,61,32,49,53]:ByteArray)) (r:=(rj:List dL)) pc (ad rfl) (dC (ByteArray.mk #[120,32,60,32,121,32,124,124,32,120,32,61,61,32,49,53])) rfl (bC b4).1 rfl (aG zE) ?_
   refine ak.gY (m:=rj.length) 4 rfl (ir (aG zE)) ?_
   refine ak.gY (m:=rj.length) 54 rfl (ir (aG zE)) ?_
   refine ak.nil ?_
   obtain rfl:=aG h
   exact dj 0 (hm (au.1,au.2))
  ·have h:=gL ao dE
   refine ag.skip ?_
   obtain rfl:=aG h
   exact dj 0 (hm (au.1,au.2))
 ·have h:=gK ao cB
  refine ag.b1 ?_
  refine ax ?_
  obtain⟨bu,cD,h⟩:=ar h
  refine bh (mX (i:=1) (k:=bu) (xs:=([bN,c7,hk,hB,kt,mx]:List dL)) Tryz.underlying27 mW (ad rfl) (bF 2) rfl (bC cD)) ?_
  refine aY (a2 LS) ?_
  obtain⟨p4,wQ,h⟩:=ar h
  refine ak.si (i:=1) (k:=bu) ((aI.id dL).comp Jy) (v:=(ByteArray.mk #[112,111,114,116,32,33,61,32,48]:ByteArray)) (r:=(p4:List dL)) pc (ad rfl) (dC (ByteArray.mk #[112,111,114,116,32,33,61,32,48])) rfl (bC cD).1 rfl (aG wQ) ?_
  refine ak.gY (m:=p4.length) 4 rfl (ir (aG wQ)) ?_
  refine ak.gY (m:=p4.length) 46 rfl (ir (aG wQ)) ?_
  refine ak.gY (m:=p4.length) 49 rfl (ir (aG wQ)) ?_
  refine ak.nil ?_
  obtain rfl:=aG h
  exact dj 0 (hm ((gO 40 0),6))
 ·have h:=gL ao cB
  refine ag.skip ?_
  obtain rfl:=aG h
  exact dj 0 (hm ((gO 40 0),6))
end Go.Proofs.YtmnggbjcnoffeaaGreat
namespace Go.Proofs.YtmnggbjcnoffeaaGreat
open Go Gv
set_option linter.unusedVariables false
set_option linter.unusedSimpArgs false
set_option maxRecDepth 100000
set_option maxHeartbeats 2000000
theorem QP {aa:bI} {cO:Nat} {r:(List bX) × bI} (h:xH aa=some r):cG Tryz.prog 70 [I.eq (.pointer (some ⟨cO,0,none⟩))] [⟨some cO,.var (aa:bI)⟩] (δ:=Unit) (fun d=>I.of (r.1)) (fun d=> [⟨some cO,.var (r.2:bI)⟩]):=by
 unfold xH at h
 refine cG.of Tryz.func70 rfl Tryz.ntmps70 rfl fun W A=> ?_
 refine aA ?_
 refine bh (eC (look_nil (α:=bX))) ?_
 refine bE ?_
 obtain⟨bN,dg,h⟩:=ar h
 refine dm dg (cU (b:= { cm:=ByteArray.mk #[97],gn:=4,cS:=1:cJ }) rfl q2 iU (.cons qm rfl (dC (ByteArray.mk #[97])) rfl (.cons nj rfl (bF 4) rfl (.cons jR rfl (bF 1) rfl (.nil))))) ?_
 refine fQ [bN] Tryz.underlying62 hP iU ?_
 refine fQ ([1,2,4]:List Int) Tryz.underlying63 bM h3 ?_
 refine ax ?_
 refine ak.cd 0 rfl ?_
 obtain⟨aD,bp,h⟩:=ar h
 refine eT 1 gD (gz bp) fun az=> ?_
 refine a5 cL ?_
 refine ax ?_
 refine ak.cd 0 rfl ?_
 obtain⟨aM,b9,h⟩:=ar h
 refine eT 1 gD (gz b9) fun ck=> ?_
 refine a5 cL ?_
 obtain⟨c7,gG,h⟩:=ar h
 refine dm gG (cU (b:=({ (default:bX) with bU:=1,cm:=ByteArray.mk #[112,111,114,116,115],bQ:= [bN],di:=([1,2,4]:List Int),g4:=bm (1 + aD.1),iv:=bm (2 + aM.1) } :bX)) rfl zF l3 (.cons oN rfl (bF 1) rfl (.cons BB rfl (dC (ByteArray.mk #[112,111,114,116,115])) rfl (.cons iP rfl (ad rfl) rfl (.cons vn rfl (ad rfl) rfl (.cons Bm rfl (ad rfl) rfl (.cons BC rfl (ad rfl) rfl (.nil)))))))) ?_
 refine ch l3 fun bf=> ?_
 refine bS 0 fO ?_
 refine bE ?_
 obtain⟨fA,j1,h⟩:=ar h
 refine dm j1 (cU (b:= { cm:=ByteArray.mk #[100],gn:=7,cS:=2:cJ }) rfl q2 iU (.cons qm rfl (dC (ByteArray.mk #[100])) rfl (.cons nj rfl (bF 7) rfl (.cons jR rfl (bF 2) rfl (.nil))))) ?_
 refine ak.pV (α:=cJ) (r:= [fA]) Tryz.underlying62 hP iU rfl rfl (.cons (by simp) (ad rfl) (.nil)) rfl fun gE=> ?_
 refine fQ ([1,2,3,4]:List Int) Tryz.underlying63 bM h3 ?_
 refine ax ?_
 refine ak.cd 2 rfl ?_
 obtain⟨a8,dP,h⟩:=ar h
 refine eT 1 gD (gz dP) fun fS=> ?_
 refine a5 cL ?_
 refine bh (pH (b:=({ (default:bX) with bU:=2,cm:=ByteArray.mk #[114,111,117,116,101,115],di:=([1,2,3,4]:List Int),g4:=2,iv:=bm (3 + a8.1) } :bX)) [] F7 rfl zF l3 (.cons oN rfl (bF 2) rfl (by rfl) (.cons BB rfl (dC (ByteArray.mk #[114,111,117,116,101,115])) rfl (by rfl) (.hole iP rfl (ad rfl) iu rfl rfl (.cons vn rfl (ad rfl) rfl (by rfl) (.cons Bm rfl (bF 2) rfl (by rfl) (.cons BC rfl (ad rfl) rfl (by rfl) (.nil)))))))) ?_
 refine ak.oV (z:=(default:bX)) [2] F8 l3 rfl fun bw=> ?_
 refine ak.own (α:=cJ) 86 ?_
 refine ak.qH (i:=1) fO (ad rfl) (ad rfl) rfl ?_
 refine bx ?_
 refine aA ?_
 refine ax ?_
 refine ak.cd 2 rfl ?_
 obtain⟨br,eW,h⟩:=ar h
 refine eT 1 m2 (mJ eW) fun je=> ?_
 refine aJ ?_
 obtain⟨bJ,cB,h⟩:=ar h
 refine hQ (γ:=(Option Nat × Nat)) [0,2,3,4,28] (fun au=> []) (fun au=> [(2,⟨some bw,.cC (bJ.1:bX) [(2,aZ au.1 bJ.2.length au.2)]⟩),(3,⟨au.1,.row 86 (bJ.2:List cJ) au.2⟩)]) (fun au=> ?_) (fun hm ao=> ?_) fun hm ao=> ?_
 ·clear cB
  refine ae.next ?_
  refine aA ?_
  obtain⟨hj,k8,h⟩:=ar h
  refine dm k8 (cU (b:= { cm:=ByteArray.mk #[101],gn:=6,cS:=3:cJ }) rfl q2 iU (.cons qm rfl (dC (ByteArray.mk #[101])) rfl (.cons nj rfl (bF 6) rfl (.cons jR rfl (bF 3) rfl (.nil))))) ?_
  obtain⟨hk,nH,h⟩:=ar h
  refine dm nH (cU (b:= { cm:=ByteArray.mk #[97],gn:=4,cS:=3:cJ }) rfl q2 iU (.cons qm rfl (dC (ByteArray.mk #[97])) rfl (.cons nj rfl (bF 4) rfl (.cons jR rfl (bF 3) rfl (.nil))))) ?_
  refine ak.pV (α:=cJ) (r:= [hj,hk]) Tryz.underlying62 hP iU rfl rfl (.cons (by simp) (ad rfl) (.cons (by simp) (ad rfl) (.nil))) rfl fun kq=> ?_
  refine fQ ([1,2,3,5,6]:List Int) Tryz.underlying63 bM h3 ?_
  refine ax ?_
  refine ak.cd 1 rfl ?_
  obtain⟨cj,gH,h⟩:=ar h
  refine eT 1 gD (gz gH) fun ey=> ?_
  refine a5 cL ?_
  refine bh (pH (b:=({ (default:bX) with bU:=3,cm:=ByteArray.mk #[97,99,108],di:=([1,2,3,5,6]:List Int),g4:=1,iv:=bm (4 + cj.1) } :bX)) [] F7 rfl zF l3 (.cons oN rfl (bF 3) rfl (by rfl) (.cons BB rfl (dC (ByteArray.mk #[97,99,108])) rfl (by rfl) (.hole iP rfl (ad rfl) iu rfl rfl (.cons vn rfl (ad rfl) rfl (by rfl) (.cons Bm rfl (bF 1) rfl (by rfl) (.cons BC rfl (ad rfl) rfl (by rfl) (.nil)))))))) ?_
  refine ak.oV (z:=(default:bX)) [2] F8 l3 rfl fun cz=> ?_
  refine ak.own (α:=cJ) 86 ?_
  refine ak.qH (i:=1) fO (ad rfl) (ad rfl) rfl ?_
  refine bx ?_
  refine aA ?_
  refine ax ?_
  refine ak.cd 2 rfl ?_
  obtain⟨cM,hh,h⟩:=ar h
  refine eT 1 m2 (mJ hh) fun jf=> ?_
  refine aJ ?_
  obtain⟨cy,dE,h⟩:=ar h
  refine hQ (γ:=(Option Nat × Nat)) [0,2,3,4,5,28,44] (fun aT=> []) (fun aT=> [(2,⟨some cz,.cC (cy.1:bX) [(2,aZ aT.1 cy.2.length aT.2)]⟩),(3,⟨aT.1,.row 86 (cy.2:List cJ) aT.2⟩)]) (fun aT=> ?_) (fun hm ao=> ?_) fun hm ao=> ?_
  ·clear dE
   refine ae.next ?_
   refine aA ?_
   obtain⟨kc,rf,h⟩:=ar h
   refine dm rf (cU (b:= { cm:=ByteArray.mk #[102],gn:=8,cS:=4:cJ }) rfl q2 iU (.cons qm rfl (dC (ByteArray.mk #[102])) rfl (.cons nj rfl (bF 8) rfl (.cons jR rfl (bF 4) rfl (.nil))))) ?_
   refine ak.pV (α:=cJ) (r:= [kc]) Tryz.underlying62 hP iU rfl rfl (.cons (by simp) (ad rfl) (.nil)) rfl fun m3=> ?_
   refine fQ ([1,3,5]:List Int) Tryz.underlying63 bM h3 ?_
   refine bh (cU (b:=({ (default:aw) with b7:=7#64 } :aw)) rfl hv dY (.cons eO rfl (gJ 7 rfl) rfl (.nil))) ?_
   refine fQ [({ (default:aw) with b7:=7#64 } :aw)] Tryz.underlying48 bT dY ?_
   refine ax ?_
   refine ak.cd 1 rfl ?_
   obtain⟨dv,kM,h⟩:=ar h
   refine eT 1 gD (gz kM) fun Ed=> ?_
   refine a5 cL ?_
   refine bh (pH (b:=({ (default:bX) with bU:=4,cm:=ByteArray.mk #[115,112,97,110,115],di:=([1,3,5]:List Int),g4:=3,ts:= [({ (default:aw) with b7:=7#64 } :aw)],iv:=bm (3 + dv.1) } :bX)) [] F7 rfl zF l3 (.cons oN rfl (bF 4) rfl (by rfl) (.cons BB rfl (dC (ByteArray.mk #[115,112,97,110,115])) rfl (by rfl) (.hole iP rfl (ad rfl) iu rfl rfl (.cons vn rfl (ad rfl) rfl (by rfl) (.cons Bm rfl (bF 3) rfl (by rfl) (.cons Qr rfl (ad rfl) rfl (by rfl) (.cons BC rfl (ad rfl) rfl (by rfl) (.nil))))))))) ?_
   refine ak.oV (z:=(default:bX)) [2] F8 l3 rfl fun ff=> ?_
   refine ak.own (α:=cJ) 86 ?_
   refine ak.qH (i:=1) fO (ad rfl) (ad rfl) rfl ?_
   refine bx ?_
   refine aA ?_
   refine ax ?_
   refine ak.cd 2 rfl ?_
   obtain⟨eU,k9,h⟩:=ar h
   refine eT 1 m2 (mJ k9) fun I1=> ?_
   refine aJ ?_
   obtain⟨fm,hS,h⟩:=ar h
   refine hQ (γ:=(Option Nat × Nat)) [0,2,3,4,5,6,28,44,61] (fun bq=> []) (fun bq=> [(2,⟨some ff,.cC (fm.1:bX) [(2,aZ bq.1 fm.2.length bq.2)]⟩),(3,⟨bq.1,.row 86 (fm.2:List cJ) bq.2⟩)]) (fun bq=> ?_) (fun hm ao=> ?_) fun hm ao=> ?_
   ·clear hS
    refine ae.next ?_
    refine aA ?_
    refine bY 10 fO ?_
    refine ak.iW (β:=bX) (γ:=cJ) (b':=(({ bJ.1 with bQ:=bJ.2 } :bX):bX)) ((aI.id bX).comp iP) 8 9 0 rfl rfl rfl rfl rfl rfl ?_
    refine ak.nx 8 rfl ?_
    refine bY 8 fO ?_
    refine ak.iW (β:=bX) (γ:=cJ) (b':=(({ cy.1 with bQ:=cy.2 } :bX):bX)) ((aI.id bX).comp iP) 5 6 0 rfl rfl rfl rfl rfl rfl ?_
    refine ak.nx 5 rfl ?_
    refine bY 5 fO ?_
    refine ak.iW (β:=bX) (γ:=cJ) (b':=(({ fm.1 with bQ:=fm.2 } :bX):bX)) ((aI.id bX).comp iP) 2 3 0 rfl rfl rfl rfl rfl rfl ?_
    refine ak.nx 2 rfl ?_
    refine bY 2 fO ?_
    obtain⟨jM,rh,h⟩:=ar h
    refine ak.Oq (α:=bX) (r0:= [c7,({ bJ.1 with bQ:=bJ.2 } :bX),({ cy.1 with bQ:=cy.2 } :bX),({ fm.1 with bQ:=fm.2 } :bX)]) (r:=jM) Tryz.underlying28 fO l3 rfl rfl (.cons (by simp) (ad rfl) (.cons (by simp) (ad rfl) (.cons (by simp) (ad rfl) (.cons (by simp) (ad rfl) (.nil))))) (aG rh) rfl fun q3=> ?_
    refine aH ?_
    refine bE ?_
    obtain⟨hB,ri,h⟩:=ar h
    refine dm ri (jU (r:= [ByteArray.mk #[],ByteArray.mk #[97,32,33,61,32,48],ByteArray.mk #[97,32,60,32,49,52,32,38,38,32,97,32,33,61,32,51]]) Tryz.underlying200 pc DE rfl rfl (.cons (by simp) (dC (ByteArray.mk #[])) (.cons (by simp) (dC (ByteArray.mk #[97,32,33,61,32,48])) (.cons (by simp) (dC (ByteArray.mk #[97,32,60,32,49,52,32,38,38,32,97,32,33,61,32,51])) (.nil))))) ?_
    obtain⟨lr,uM,h⟩:=ar h
    refine dm uM (jU (r:= [ByteArray.mk #[],ByteArray.mk #[100,58,58,112,114,101,102,105,120,95,108,101,110,103,116,104,32,62,61,32,56],ByteArray.mk #[100,58,58,112,114,101,102,105,120,95,108,101,110,103,116,104,32,61,61,32,51,50,32,45,62,32,100,58,58,118,97,108,117,101,32,62,32,48,120,102,102]]) Tryz.underlying200 pc DE rfl rfl (.cons (by simp) (dC (ByteArray.mk #[])) (.cons (by simp) (dC (ByteArray.mk #[100,58,58,112,114,101,102,105,120,95,108,101,110,103,116,104,32,62,61,32,56])) (.cons (by simp) (dC (ByteArray.mk #[100,58,58,112,114,101,102,105,120,95,108,101,110,103,116,104,32,61,61,32,51,50,32,45,62,32,100,58,58,118,97,108,117,101,32,62,32,48,120,102,102])) (.nil))))) ?_
    obtain⟨kN,ux,h⟩:=ar h
    refine dm ux (jU (r:= [ByteArray.mk #[],ByteArray.mk #[112,114,105,111,114,105,116,121,32,60,32,49,48,48,32,38,38,32,40,101,58,58,109,97,115,107,32,33,61,32,48,32,124,124,32,97,58,58,109,97,115,107,32,33,61,32,48,41],ByteArray.mk #[101,58,58,109,97,115,107,32,61,61,32,48,32,45,62,32,112,114,105,111,114,105,116,121,32,62,32,53]]) Tryz.underlying200 pc DE rfl rfl (.cons (by simp) (dC (ByteArray.mk #[])) (.cons (by simp) (dC (ByteArray.mk #[112,114,105,111,114,105,116,121,32,60,32,49,48,48,32,38,38,32,40,101,58,58,109,97,115,107,32,33,61,32,48,32,124,124,32,97,58,58,109,97,115,107,32,33,61,32,48,41])) (.cons (by simp) (dC (ByteArray.mk #[101,58,58,109,97,115,107,32,61,61,32,48,32,45,62,32,112,114,105,111,114,105,116,121,32,62,32,53])) (.nil))))) ?_
    obtain⟨ks,uy,h⟩:=ar h
    refine dm uy (jU (r:= [ByteArray.mk #[],ByteArray.mk #[102,58,58,104,105,103,104,32,45,32,102,58,58,108,111,119,32,60,61,32,48,120,49,48,48],ByteArray.mk #[33,40,102,58,58,108,111,119,32,61,61,32,48,32,38,38,32,102,58,58,104,105,103,104,32,62,32,49,48,48,48,41]]) Tryz.underlying200 pc DE rfl rfl (.cons (by simp) (dC (ByteArray.mk #[])) (.cons (by simp) (dC (ByteArray.mk #[102,58,58,104,105,103,104,32,45,32,102,58,58,108,111,119,32,60,61,32,48,120,49,48,48])) (.cons (by simp) (dC (ByteArray.mk #[33,40,102,58,58,108,111,119,32,61,61,32,48,32,38,38,32,102,58,58,104,105,103,104,32,62,32,49,48,48,48,41])) (.nil))))) ?_
    refine fQ [hB,lr,kN,ks] Tryz.underlying201 GC VJ ?_
    refine aH ?_
    refine bx ?_
    refine aA ?_
    refine ax ?_
    refine bh (tT (i:=0) Tryz.underlying28 (ad rfl) rfl rfl) ?_
    refine ax ?_
    refine aJ ?_
    refine ag.block ?_
    obtain⟨ay,al,h⟩:=ar h
    refine eD (γ:=(Option Nat × Nat)) (δ:=(Option Nat × Nat)) al [0,2,3,4,5,6,8,28,44,61,80] (fun s1 cx=> [(7,I.eq (aZ cx.1 s1.2.1.length cx.2)),(81,I.of (s1.1))]) (fun s1 cx=> [(0,⟨cx.1,.row 65 (s1.2.1:List bX) cx.2⟩),(1,⟨some cO,.var (s1.2.2:bI)⟩)]) (fun qe=>Exit.exit 0) (fun qe cx=> [(7,I.eq (aZ cx.1 qe.2.2.1.length cx.2)),(81,I.of (qe.1)),(82,I.of (qe.2.1))]) (fun qe cx=> [(0,⟨cx.1,.row 65 (qe.2.2.1:List bX) cx.2⟩),(1,⟨some cO,.var (qe.2.2.2:bI)⟩)]) (q3,4) (fun s1 r h cx=> ?_) fun cx=> ?_
    ·clear al
     refine aA ?_
     refine a5 dd ?_
     refine bx ?_
     refine b0 h (fun h=>?_) fun h=>?_
     ·refine cn ?_
      refine ag.seq ?_
      refine ag.block ?_
      refine aA ?_
      refine ax ?_
      refine aH ?_
      refine aJ ?_
      obtain⟨aV,b4,h⟩:=ar h
      obtain⟨fo,nJ,h⟩:=ar h
      obtain⟨bu,cD,h⟩:=ar h
      obtain⟨cb,eu,h⟩:=ar h
      obtain⟨lJ,uz,h⟩:=ar h
      refine lI [0,2,3,4,5,6,7,8,9,28,44,61,80,81,82,83] ?_
      refine ag.kn mixed (bt 84 [] [] _ :: bt 85 [] [] _ :: bt 86 [] [] _ :: bt 87 [] [] _ :: bt 88 (2 :: 3 :: []) [] _ :: bt 89 (4 :: []) [] _ :: bt 90 [] [] _ :: ⟨some 91,(6 :: []),(1 :: []),(1 :: []),fun _=>I.of (fo.1),fun hd _=>⟨some cO,.var (fo.2:bI)⟩⟩ :: bt 92 (5 :: 7 :: []) [] _ :: bt 93 (8 :: []) [] _ :: bt 94 (0 :: 1 :: []) (0 :: []) _ :: bt 95 (10 :: []) [] _ :: ⟨none,(9 :: 10 :: 11 :: []),(0 :: []),(0 :: []),fun _=>I.any,fun hd _=>⟨cx.1,.row 65 (lJ:List bX) cx.2⟩⟩ :: []) _ (0 :: 2 :: 3 :: 4 :: 5 :: 6 :: 7 :: 8 :: 9 :: 28 :: 44 :: 61 :: 80 :: 81 :: 82 :: 83 :: []) rfl rfl (by kernel_rfl) ⟨gb,gb,gb,gb,c2 fun hd E' aC aL av=>oZ (k:=aV) Tryz.underlying201 GC (ad (aL _ _ rfl)) (ad (aL _ _ rfl)) (bC b4),ga (cK GC),gb,?_,c2 fun hd E' aC aL av=>oZ (k:=bu) Tryz.underlying200 pc (ad (aL _ _ rfl)) (ad (aL _ _ rfl)) (bC cD),ga (cK pc),c2 fun hd E' aC aL av=>mX (i:=0) (k:=cb) (xs:=(s1.2.1:List bX)) Tryz.underlying28 fO (ad (aL _ _ rfl)) (ad (aL _ _ rfl)) (av 0 _ rfl rfl) (bC eu),ga (a2 U0),?_,trivial⟩ fun gO=> ?_
      ·intro hd E' aC aL av
       refine ak.cd 1 (av 1 _ rfl rfl) ?_
       refine ak.lX (Lin:= [⟨some cO,.var (s1.2.2:bI)⟩]) (Lr:=aC.eraseIdx 1) gD (gz nJ) ⟨ad (aL _ _ rfl),bF 3,trivial⟩ rfl fun HL=> ?_
       refine ak.nil ?_
       refine ae.back 1 (av 1 _ rfl rfl) ?_
       exact ae.fin (fI []) rfl rfl
      ·intro hd E' aC aL av
       refine ak.si (i:=0) (k:=cb) ((aI.id bX).comp Qs) (v:=(aB (aB [hB,lr,kN,ks] aV) bu:ByteArray)) (r:=(lJ:List bX)) pc (ad (aL _ _ rfl)) (ad (aL _ _ rfl)) (av 0 _ rfl rfl) (bC eu).1 rfl (aG uz) ?_
       refine ak.nil ?_
       exact ae.fin (fI []) rfl rfl
      refine ae.gu (L2:= [⟨cx.1,.row 65 (lJ:List bX) cx.2⟩,⟨some cO,.var (fo.2:bI)⟩,⟨none,.row 86 (([]:List cJ):List cJ) 0⟩,⟨some ff,.var (({ fm.1 with bQ:=fm.2 } :bX):bX)⟩,⟨none,.dead⟩,⟨none,.row 86 (([]:List cJ):List cJ) 0⟩,⟨some cz,.var (({ cy.1 with bQ:=cy.2 } :bX):bX)⟩,⟨none,.dead⟩,⟨none,.row 86 (([]:List cJ):List cJ) 0⟩,⟨some bw,.var (({ bJ.1 with bQ:=bJ.2 } :bX):bX)⟩,⟨none,.dead⟩,⟨some bf,.var (c7:bX)⟩]) rfl ?_
      refine ae.gY (m:=lJ.length) 7 rfl (ir (aG uz)) ?_
      refine ae.gY (m:=lJ.length) 84 rfl (ir (aG uz)) ?_
      refine l8 [0,2,3,4,5,6,7,8,9,28,44,61,80,81,82,83,84,85,86,87,88,89,90,91,92,93,94,95] ?_
      refine ae.db ?_
      refine ae.next ?_
      refine ag.b1 ?_
      refine a5 cL ?_
      refine ax ?_
      refine ak.nil ?_
      obtain rfl:=aG h
      exact dO (cx.1,cx.2) 0
     ·refine ag.exit ?_
      refine ae.exit ?_
      obtain rfl:=aG h
      exact c6 (cx.1,cx.2) 0
    ·clear al
     refine ae.dD ?_
     refine ae.next ?_
     refine aA ?_
     refine ax ?_
     refine aH ?_
     refine aJ ?_
     refine ag.ret ?_
     refine ae.kF (α:=bX) 0 [2,7,97] ⟨rfl,rfl,rfl,trivial⟩ rfl ?_
     refine ae.cd 1 rfl ?_
     obtain rfl:=aG h
     exact k6 ()
   ·have h:=gK ao hS
    refine ag.b1 ?_
    refine aY (a2 kl) ?_
    refine bh (iR (i:=2) (q:=0) (β:=bX) (γ:=cJ) jW (ad rfl) rfl rfl) ?_
    obtain⟨kt,zA,h⟩:=ar h
    refine dm zA (cU (b:= { cm:=ByteArray.mk #[103],gn:=9,cS:=1:cJ }) rfl q2 iU (.cons qm rfl (dC (ByteArray.mk #[103])) rfl (.cons nj rfl (bF 9) rfl (.cons jR rfl (bF 1) rfl (.nil))))) ?_
    obtain⟨kO,zB,h⟩:=ar h
    refine dm zB (cU (b:= { cm:=ByteArray.mk #[100],gn:=7,cS:=2:cJ }) rfl q2 iU (.cons qm rfl (dC (ByteArray.mk #[100])) rfl (.cons nj rfl (bF 7) rfl (.cons jR rfl (bF 2) rfl (.nil))))) ?_
    refine fQ [kt,kO] Tryz.underlying62 hP iU ?_
    obtain⟨gP,o5,h⟩:=ar h
    refine jv 3 Tryz.underlying62 hP iU o5 fun pW e2=> ?_
    refine aY (a2 kl) ?_
    refine ak.jm (i:=2) (γ:=cJ) (b':=(({ ({ (default:bX) with bU:=4,cm:=ByteArray.mk #[115,112,97,110,115],di:=([1,3,5]:List Int),g4:=3,ts:= [({ (default:aw) with b7:=7#64 } :aw)],iv:=bm (3 + dv.1) } :bX) with bQ:= [] } :bX):bX)) (os':= [(2,aZ pW gP.length e2)]) ((aI.id bX).comp iP) jW (ad rfl) (ad rfl) iu rfl rfl rfl rfl ?_
    refine ak.nil ?_
    obtain rfl:=aG h
    exact dj 0 (hm (pW,e2))
   ·have h:=gL ao hS
    refine ag.skip ?_
    obtain rfl:=aG h
    exact dj 0 (hm (m3,1))
  ·have h:=gK ao dE
   refine ag.b1 ?_
   refine aY (a2 kl) ?_
   refine bh (iR (i:=2) (q:=0) (β:=bX) (γ:=cJ) jW (ad rfl) rfl rfl) ?_
   obtain⟨nI,zC,h⟩:=ar h
   refine dm zC (cU (b:= { cm:=ByteArray.mk #[98],gn:=5,cS:=1:cJ }) rfl q2 iU (.cons qm rfl (dC (ByteArray.mk #[98])) rfl (.cons nj rfl (bF 5) rfl (.cons jR rfl (bF 1) rfl (.nil))))) ?_
   refine fQ [nI] Tryz.underlying62 hP iU ?_
   obtain⟨ik,q4,h⟩:=ar h
   refine jv 3 Tryz.underlying62 hP iU q4 fun zG oy=> ?_
   refine aY (a2 kl) ?_
   refine ak.jm (i:=2) (γ:=cJ) (b':=(({ ({ (default:bX) with bU:=3,cm:=ByteArray.mk #[97,99,108],di:=([1,2,3,5,6]:List Int),g4:=1,iv:=bm (4 + cj.1) } :bX) with bQ:= [] } :bX):bX)) (os':= [(2,aZ zG ik.length oy)]) ((aI.id bX).comp iP) jW (ad rfl) (ad rfl) iu rfl rfl rfl rfl ?_
   refine ak.nil ?_
   obtain rfl:=aG h
   exact dj 0 (hm (zG,oy))
  ·have h:=gL ao dE
   refine ag.skip ?_
   obtain rfl:=aG h
   exact dj 0 (hm (kq,2))
 ·have h:=gK ao cB
  refine ag.b1 ?_
  refine aY (a2 kl) ?_
  refine bh (iR (i:=2) (q:=0) (β:=bX) (γ:=cJ) jW (ad rfl) rfl rfl) ?_
  obtain⟨oC,zD,h⟩:=ar h
  refine dm zD (cU (b:= { cm:=ByteArray.mk #[109],gn:=3,cS:=1:cJ }) rfl q2 iU (.cons qm rfl (dC (ByteArray.mk #[109])) rfl (.cons nj rfl (bF 3) rfl (.cons jR rfl (bF 1) rfl (.nil))))) ?_
  refine fQ [oC] Tryz.underlying62 hP iU ?_
  obtain⟨iK,uA,h⟩:=ar h
  refine jv 3 Tryz.underlying62 hP iU uA fun Ot pX=> ?_
  refine aY (a2 kl) ?_
  refine ak.jm (i:=2) (γ:=cJ) (b':=(({ ({ (default:bX) with bU:=2,cm:=ByteArray.mk #[114,111,117,116,101,115],di:=([1,2,3,4]:List Int),g4:=2,iv:=bm (3 + a8.1) } :bX) with bQ:= [] } :bX):bX)) (os':= [(2,aZ Ot iK.length pX)]) ((aI.id bX).comp iP) jW (ad rfl) (ad rfl) iu rfl rfl rfl rfl ?_
  refine ak.nil ?_
  obtain rfl:=aG h
  exact dj 0 (hm (Ot,pX))
 ·have h:=gL ao cB
  refine ag.skip ?_
  obtain rfl:=aG h
  exact dj 0 (hm (gE,1))
end Go.Proofs.YtmnggbjcnoffeaaGreat
namespace Go.Proofs.YtmnggbjcnoffeaaGreat
open Go Gv
set_option linter.unusedVariables false
set_option linter.unusedSimpArgs false
set_option maxRecDepth 100000
set_option maxHeartbeats 2000000
theorem QZ {aa:bI} {ai:List bX} {cO:Nat} {r:(List cI) × bI} (h:xP aa ai=some r):cG Tryz.prog 71 [I.eq (.pointer (some ⟨cO,0,none⟩)),I.of (ai)] [⟨some cO,.var (aa:bI)⟩] (δ:=Unit) (fun d=>I.of (r.1)) (fun d=> [⟨some cO,.var (r.2:bI)⟩]):=by
 unfold xP at h
 refine cG.of Tryz.func71 rfl Tryz.ntmps71 rfl fun W A=> ?_
 refine aA ?_
 refine bh (eC (look_nil (α:=cI))) ?_
 refine bE ?_
 refine fQ ([1,2,3,4,5,6]:List Int) Tryz.underlying63 bM h3 ?_
 refine bh (pH (b:=({ (default:cI) with bU:=1,cm:=ByteArray.mk #[97,108,108],di:=([1,2,3,4,5,6]:List Int),qB:=40,yR:=true } :cI)) [2] wa rfl GD ss (.cons BQ rfl (bF 1) rfl (by rfl) (.cons EK rfl (dC (ByteArray.mk #[97,108,108])) rfl (by rfl) (.cons Ex rfl (ad rfl) rfl (by rfl) (.cons ED rfl (bF 40) rfl (by rfl) (.cons Q0 rfl (fN true) rfl (by rfl) (.nil))))))) ?_
 refine ak.own (α:=dq) 207 ?_
 refine ak.oV (z:=(default:cI)) [2] wa ss rfl fun bf=> ?_
 refine ak.own (α:=dq) 207 ?_
 refine ak.qH (i:=1) pP (ad rfl) (ad rfl) rfl ?_
 refine bE ?_
 refine ax ?_
 refine ak.cd 3 rfl ?_
 obtain⟨aD,bp,h⟩:=ar h
 refine eT 1 gD (gz bp) fun az=> ?_
 refine a5 cL ?_
 refine fQ ([1,2,bm (3 + aD.1)]:List Int) Tryz.underlying63 bM h3 ?_
 refine ax ?_
 refine ak.cd 0 rfl ?_
 obtain⟨aM,b9,h⟩:=ar h
 refine eT 1 gD (gz b9) fun ck=> ?_
 refine a5 cL ?_
 refine bh (pH (b:=({ (default:cI) with bU:=2,cm:=ByteArray.mk #[115,111,109,101],di:=([1,2,bm (3 + aD.1)]:List Int),qB:=bm (1 + aM.1) } :cI)) [2] wa rfl GD ss (.cons BQ rfl (bF 2) rfl (by rfl) (.cons EK rfl (dC (ByteArray.mk #[115,111,109,101])) rfl (by rfl) (.cons Ex rfl (ad rfl) rfl (by rfl) (.cons ED rfl (ad rfl) rfl (by rfl) (.nil)))))) ?_
 refine ak.own (α:=dq) 207 ?_
 refine ak.oV (z:=(default:cI)) [2] wa ss rfl fun bw=> ?_
 refine ak.own (α:=dq) 207 ?_
 refine ak.qH (i:=1) pP (ad rfl) (ad rfl) rfl ?_
 refine bE ?_
 refine ax ?_
 refine ak.cd 3 rfl ?_
 obtain⟨a8,dP,h⟩:=ar h
 refine eT 1 gD (gz dP) fun fS=> ?_
 refine a5 cL ?_
 refine fQ [bm (1 + a8.1)] Tryz.underlying63 bM h3 ?_
 refine ax ?_
 refine ak.cd 0 rfl ?_
 obtain⟨br,eW,h⟩:=ar h
 refine eT 1 gD (gz eW) fun je=> ?_
 refine bh (pH (b:=({ (default:cI) with bU:=7,cm:=ByteArray.mk #[102,101,119],di:= [bm (1 + a8.1)],qB:=br.1 } :cI)) [2] wa rfl GD ss (.cons BQ rfl (bF 7) rfl (by rfl) (.cons EK rfl (dC (ByteArray.mk #[102,101,119])) rfl (by rfl) (.cons Ex rfl (ad rfl) rfl (by rfl) (.cons ED rfl (ad rfl) rfl (by rfl) (.nil)))))) ?_
 refine ak.own (α:=dq) 207 ?_
 refine ak.oV (z:=(default:cI)) [2] wa ss rfl fun cz=> ?_
 refine ak.own (α:=dq) 207 ?_
 refine ak.qH (i:=1) pP (ad rfl) (ad rfl) rfl ?_
 refine bx ?_
 refine aA ?_
 refine ax ?_
 refine aY (er Tryz.underlying28) ?_
 refine ax ?_
 refine aJ ?_
 refine ag.block ?_
 obtain⟨ay,al,h⟩:=ar h
 refine eD (γ:=(Option Nat × Nat) × (Option Nat × Nat) × (Option Nat × Nat)) (δ:=(Option Nat × Nat) × (Option Nat × Nat) × (Option Nat × Nat)) al [0,1,4,5,6,7,30,31] (fun s1 au=> [(32,I.of (s1.1))]) (fun s1 au=> [(1,⟨some cz,.cC (s1.2.1:cI) [(2,aZ au.1.1 s1.2.2.1.length au.1.2)]⟩),(2,⟨au.1.1,.row 207 (s1.2.2.1:List dq) au.1.2⟩),(3,⟨some cO,.var (s1.2.2.2.1:bI)⟩),(5,⟨some bw,.cC (s1.2.2.2.2.1:cI) [(2,aZ au.2.1.1 s1.2.2.2.2.2.1.length au.2.1.2)]⟩),(6,⟨au.2.1.1,.row 207 (s1.2.2.2.2.2.1:List dq) au.2.1.2⟩),(8,⟨some bf,.cC (s1.2.2.2.2.2.2.1:cI) [(2,aZ au.2.2.1 s1.2.2.2.2.2.2.2.length au.2.2.2)]⟩),(9,⟨au.2.2.1,.row 207 (s1.2.2.2.2.2.2.2:List dq) au.2.2.2⟩)]) (fun ey=>Exit.exit 0) (fun ey au=> [(32,I.of (ey.1)),(33,I.of (ey.2.1))]) (fun ey au=> [(1,⟨some cz,.cC (ey.2.2.1:cI) [(2,aZ au.1.1 ey.2.2.2.1.length au.1.2)]⟩),(2,⟨au.1.1,.row 207 (ey.2.2.2.1:List dq) au.1.2⟩),(3,⟨some cO,.var (ey.2.2.2.2.1:bI)⟩),(5,⟨some bw,.cC (ey.2.2.2.2.2.1:cI) [(2,aZ au.2.1.1 ey.2.2.2.2.2.2.1.length au.2.1.2)]⟩),(6,⟨au.2.1.1,.row 207 (ey.2.2.2.2.2.2.1:List dq) au.2.1.2⟩),(8,⟨some bf,.cC (ey.2.2.2.2.2.2.2.1:cI) [(2,aZ au.2.2.1 ey.2.2.2.2.2.2.2.2.length au.2.2.2)]⟩),(9,⟨au.2.2.1,.row 207 (ey.2.2.2.2.2.2.2.2:List dq) au.2.2.2⟩)]) ((none,0),(none,0),(none,0)) (fun s1 r h au=> ?_) fun au=> ?_
 ·clear al
  refine aA ?_
  refine a5 dd ?_
  refine bx ?_
  refine b0 h (fun h=>?_) fun h=>?_
  ·refine cn ?_
   refine ag.seq ?_
   refine ag.block ?_
   refine aA ?_
   obtain⟨aV,b4,h⟩:=ar h
   refine fq b4 Tryz.underlying28 fO ?_
   refine aY (cK fO) ?_
   refine ch l3 fun ff=> ?_
   refine bS 0 fO ?_
   refine bE ?_
   refine aY (a2 kl) ?_
   refine b5 0 iP jW ?_
   refine aY (er Tryz.underlying62) ?_
   obtain⟨cj,gH,h⟩:=ar h
   refine ak.DF Tryz.underlying205 hR O5 rfl (by kernel_rfl) (ad rfl) (ad rfl) gH rfl fun gE=> ?_
   refine aH ?_
   refine bE ?_
   refine aY (a2 kl) ?_
   refine b5 1 iP jW ?_
   refine aY (er Tryz.underlying62) ?_
   obtain⟨cM,hh,h⟩:=ar h
   refine ak.DF Tryz.underlying205 hR O5 rfl (by kernel_rfl) (ad rfl) (ad rfl) hh rfl fun kq=> ?_
   refine aH ?_
   refine bx ?_
   refine aA ?_
   refine ax ?_
   refine bh (tT (i:=1) Tryz.underlying205 (ad rfl) rfl rfl) ?_
   refine ax ?_
   refine aJ ?_
   refine ag.block ?_
   obtain⟨aS,al,h⟩:=ar h
   refine eD (γ:=(Option Nat × Nat) × (Option Nat × Nat)) (δ:=(Option Nat × Nat) × (Option Nat × Nat)) al [0,1,4,5,6,7,9,30,31,32,33,45] (fun s2 aT=> [(10,I.eq (aZ aT.2.1 s2.2.2.1.length aT.2.2)),(11,I.eq (aZ aT.1.1 s2.2.1.length aT.1.2)),(46,I.of (s2.1))]) (fun s2 aT=> [(0,⟨aT.1.1,.row 4 (s2.2.1:List Bool) aT.1.2⟩),(1,⟨aT.2.1,.row 4 (s2.2.2.1:List Bool) aT.2.2⟩),(6,⟨some cO,.var (s2.2.2.2:bI)⟩)]) (fun jf=>Exit.exit 2) (fun jf aT=> [(10,I.eq (aZ aT.2.1 jf.2.2.2.1.length aT.2.2)),(11,I.eq (aZ aT.1.1 jf.2.2.1.length aT.1.2)),(46,I.of (jf.1)),(47,I.of (jf.2.1))]) (fun jf aT=> [(0,⟨aT.1.1,.row 4 (jf.2.2.1:List Bool) aT.1.2⟩),(1,⟨aT.2.1,.row 4 (jf.2.2.2.1:List Bool) aT.2.2⟩),(6,⟨some cO,.var (jf.2.2.2.2:bI)⟩)]) ((kq,cM.length),(gE,cj.length)) (fun s2 r h aT=> ?_) fun aT=> ?_
   ·clear al
    refine aA ?_
    refine a5 dd ?_
    refine bx ?_
    refine b0 h (fun h=>?_) fun h=>?_
    ·refine cn ?_
     refine ag.seq ?_
     refine ag.block ?_
     refine aA ?_
     refine ax ?_
     refine aH ?_
     refine aJ ?_
     refine ag.b1 ?_
     refine ax ?_
     refine ax ?_
     refine ax ?_
     refine ax ?_
     refine ax ?_
     refine ak.cd 6 rfl ?_
     obtain⟨dv,kM,h⟩:=ar h
     refine eT 1 gD (gz kM) fun Ed=> ?_
     refine a5 lY ?_
     obtain⟨bu,cD,h⟩:=ar h
     refine bh (mX (i:=2) (k:=bu) (xs:=(s2.2.2.1:List Bool)) Tryz.underlying205 hR (ad rfl) (ad rfl) rfl (bC cD)) ?_
     refine ak.si (i:=2) (k:=bu) (aI.id Bool) (v:=(true:Bool)) (r:=(et s2.2.2.1 bu true:List Bool)) hR (ad rfl) (fN true) rfl (bC cD).1 rfl rfl ?_
     refine ak.gY (m:=(et s2.2.2.1 bu true).length) 10 rfl (ir rfl) ?_
     refine ak.gY (m:=(et s2.2.2.1 bu true).length) 49 rfl (ir rfl) ?_
     obtain⟨cb,eu,h⟩:=ar h
     refine bh (mX (i:=1) (k:=cb) (xs:=(s2.2.1:List Bool)) Tryz.underlying205 hR (ad rfl) (ad rfl) rfl (bC eu)) ?_
     refine ak.si (i:=1) (k:=cb) (aI.id Bool) (v:=(decide (dv.1 > 0):Bool)) (r:=(et s2.2.1 cb (decide (dv.1 > 0)):List Bool)) hR (ad rfl) (ad rfl) rfl (bC eu).1 rfl rfl ?_
     refine ak.gY (m:=(et s2.2.1 cb (decide (dv.1 > 0))).length) 11 rfl (ir rfl) ?_
     refine ak.gY (m:=(et s2.2.1 cb (decide (dv.1 > 0))).length) 51 rfl (ir rfl) ?_
     refine ak.nil ?_
     refine ae.db ?_
     refine ae.next ?_
     refine ag.b1 ?_
     refine a5 cL ?_
     refine ax ?_
     refine ak.nil ?_
     refine ae.cd 6 rfl ?_
     refine ae.cd 6 rfl ?_
     refine ae.cd 6 rfl ?_
     refine ae.cd 6 rfl ?_
     refine ae.cd 6 rfl ?_
     refine ae.cd 6 rfl ?_
     obtain rfl:=aG h
     exact dO ((aT.1.1,aT.1.2),(aT.2.1,aT.2.2)) 0
    ·refine ag.exit ?_
     refine ae.exit ?_
     obtain rfl:=aG h
     exact c6 ((aT.1.1,aT.1.2),(aT.2.1,aT.2.2)) 0
   ·clear al
    refine ae.dD ?_
    refine ae.next ?_
    refine aA ?_
    refine aY (a2 wb) ?_
    refine bh (iR (i:=11) (q:=0) (β:=cI) (γ:=dq) ui (ad rfl) rfl rfl) ?_
    refine aY (a2 tQ) ?_
    refine b5 2 oN bM ?_
    refine ax ?_
    refine ak.kF (α:=Bool) 1 [63,10] ⟨rfl,rfl,trivial⟩ rfl ?_
    obtain⟨bN,dg,h⟩:=ar h
    refine dm dg (cU (b:= { dJ:=(aB ai aV).bU,qI:=true,qC:=true,bQ:=aS.2.2.2.1:dq }) rfl GF qS (.cons Ez rfl (ad rfl) rfl (.cons EE rfl (fN true) rfl (.cons EA rfl (fN true) rfl (.cons EF rfl (ad rfl) rfl (.nil)))))) ?_
    refine fQ [bN] Tryz.underlying202 wE qS ?_
    obtain⟨eU,k9,h⟩:=ar h
    refine jv 12 Tryz.underlying202 wE qS k9 fun m3 e2=> ?_
    refine aY (a2 wb) ?_
    refine ak.jm (i:=11) (γ:=dq) (b':=(({ s1.2.2.2.2.2.2.1 with iQ:= [] } :cI):cI)) (os':= [(2,aZ m3 eU.length e2)]) ((aI.id cI).comp vq) ui (ad rfl) (ad rfl) iu rfl rfl rfl rfl ?_
    refine bx ?_
    refine aA ?_
    refine ax ?_
    refine ak.cd 6 rfl ?_
    obtain⟨fo,nJ,h⟩:=ar h
    refine eT 1 gD (gz nJ) fun I1=> ?_
    refine a5 lY ?_
    refine aJ ?_
    refine ag.freeze (α:=Bool) 1 11 rfl rfl ?_
    obtain⟨bJ,cB,h⟩:=ar h
    refine hQ (γ:=(Option Nat × Nat)) [0,1,4,5,6,7,9,10,11,30,31,32,33,45,46,47,70] (fun bq=> []) (fun bq=> [(0,⟨some cO,.var (bJ.1:bI)⟩),(8,⟨some bw,.cC (bJ.2.1:cI) [(2,aZ bq.1 bJ.2.2.length bq.2)]⟩),(9,⟨bq.1,.row 207 (bJ.2.2:List dq) bq.2⟩)]) (fun bq=> ?_) (fun hm ao=> ?_) fun hm ao=> ?_
    ·clear cB
     refine ae.next ?_
     refine aA ?_
     refine ax ?_
     refine ak.cd 0 rfl ?_
     obtain⟨gP,o5,h⟩:=ar h
     refine eT 1 m2 (mJ o5) fun qe=> ?_
     refine aJ ?_
     obtain⟨cy,dE,h⟩:=ar h
     refine hQ (γ:=(Option Nat × Nat)) [0,1,4,5,6,7,9,10,11,30,31,32,33,45,46,47,70,86] (fun cx=> []) (fun cx=> [(0,⟨some cO,.var (cy.1:bI)⟩),(5,⟨some cz,.cC (cy.2.1:cI) [(2,aZ cx.1 cy.2.2.length cx.2)]⟩),(6,⟨cx.1,.row 207 (cy.2.2:List dq) cx.2⟩)]) (fun cx=> ?_) (fun hm ao=> ?_) fun hm ao=> ?_
     ·clear dE
      refine ae.db ?_
      refine ae.next ?_
      refine ag.b1 ?_
      refine a5 cL ?_
      refine ax ?_
      refine ak.nil ?_
      refine ae.cd 6 rfl ?_
      refine ae.cd 6 rfl ?_
      refine ae.cd 6 rfl ?_
      refine ae.cd 6 rfl ?_
      refine ae.cd 6 rfl ?_
      refine ae.cd 6 rfl ?_
      obtain rfl:=aG h
      exact dO ((cx.1,cx.2),(bq.1,bq.2),(m3,e2)) 3
     ·have h:=gK ao dE
      obtain⟨ik,q4,h⟩:=ar h
      obtain⟨iK,uA,h⟩:=ar h
      obtain⟨c7,gG,h⟩:=ar h
      obtain⟨j2,zH,h⟩:=ar h
      refine lI [0,1,4,5,6,7,9,10,11,30,31,32,33,45,46,47,70,85,86] ?_
      refine ag.kn mixed (bt 87 [] [] _ :: bt 88 (0 :: []) (5 :: []) _ :: bt 89 [] [] _ :: bt 90 (2 :: []) (3 :: []) _ :: bt 91 [] [] _ :: ⟨some 92,(4 :: []),(0 :: []),(0 :: []),fun _=>I.of (ik.1),fun hd _=>⟨some cO,.var (ik.2:bI)⟩⟩ :: bt 93 [] [] _ :: ⟨some 94,(5 :: 6 :: []),(0 :: []),(0 :: []),fun _=>I.of (iK.1),fun hd _=>⟨some cO,.var (iK.2:bI)⟩⟩ :: bt 95 [] [] _ :: bt 96 (3 :: 5 :: 7 :: 8 :: []) [] _ :: bt 97 (9 :: []) [] _ :: ⟨some 98,(1 :: 10 :: []),(6 :: []),(6 :: []),fun hd=>I.eq (aZ (hd 11 0) j2.length ((hd 11 1).getD 0)),fun hd _=>⟨(hd 11 0),.row 207 (j2:List dq) ((hd 11 1).getD 0)⟩⟩ :: bt 99 [] [] _ :: ⟨none,(1 :: 11 :: 12 :: []),(5 :: []),(5 :: []),fun _=>I.any,fun hd _=>⟨some cz,.cC (({ s1.2.1 with iQ:= [] } :cI):cI) [(2,aZ (hd 11 0) j2.length ((hd 11 1).getD 0))]⟩⟩ :: []) _ (0 :: 1 :: 4 :: 5 :: 6 :: 7 :: 9 :: 10 :: 11 :: 30 :: 31 :: 32 :: 33 :: 45 :: 46 :: 47 :: 70 :: 85 :: 86 :: []) rfl rfl (by kernel_rfl) ⟨ga (a2 wb),c2 fun hd E' aC aL av=>iR (i:=5) (q:=0) (β:=cI) (γ:=dq) ui (ad (aL _ _ rfl)) (av 5 _ rfl rfl) rfl,ga (a2 tQ),p5 3 oN bM,gb,?_,gb,?_,gb,c2 fun hd E' aC aL av=>(cU (b:= { dJ:=(aB ai aV).bU,qI:=ik.1,qC:=iK.1,bQ:=aS.2.2.2.1:dq }) rfl GF qS (.cons Ez rfl (ad (aL _ _ rfl)) rfl (.cons EE rfl (ad (aL _ _ rfl)) rfl (.cons EA rfl (ad (aL _ _ rfl)) rfl (.cons EF rfl (ad (aL _ _ rfl)) rfl (.nil)))))).as (aG gG),c2 fun hd E' aC aL av=>jU (r:= [c7]) Tryz.underlying202 wE qS rfl rfl (.cons (by simp) (ad (aL _ _ rfl)) (.nil)),?_,ga (a2 wb),?_,trivial⟩ fun gO=> ?_
      ·intro hd E' aC aL av
       refine ak.cd 0 (av 0 _ rfl rfl) ?_
       refine ak.lX (Lin:= [⟨some cO,.var (gP.2:bI)⟩]) (Lr:=aC.eraseIdx 0) m2 (mJ q4) ⟨ad (aL _ _ rfl),trivial⟩ rfl fun HL=> ?_
       refine ak.nil ?_
       refine ae.back 0 (av 0 _ rfl rfl) ?_
       exact ae.fin (fI []) rfl rfl
      ·intro hd E' aC aL av
       refine ak.cd 0 (av 0 _ rfl rfl) ?_
       refine ak.lX (Lin:= [⟨some cO,.var (ik.2:bI)⟩]) (Lr:=aC.eraseIdx 0) m2 (mJ uA) ⟨ad (aL _ _ rfl),trivial⟩ rfl fun aaZ=> ?_
       refine ak.nil ?_
       refine ae.back 0 (av 0 _ rfl rfl) ?_
       exact ae.fin (fI []) rfl rfl
      ·intro hd E' aC aL av
       refine ak.app (i:=6) Tryz.underlying202 wE qS (bytes:=40) (by kernel_rfl) (ad (aL _ _ rfl)) (av 6 _ rfl rfl) (ad (aL _ _ rfl)) zH rfl fun q3 oy=> ?_
       refine ak.nil ?_
       exact ae.fin (fI [q3,some oy]) rfl rfl
      ·intro hd E' aC aL av
       refine ak.jm (i:=5) (γ:=dq) (b':=(({ s1.2.1 with iQ:= [] } :cI):cI)) (os':= [(2,aZ (hd 11 0) j2.length ((hd 11 1).getD 0))]) ((aI.id cI).comp vq) ui (ad (aL _ _ rfl)) (ad (aL _ _ rfl)) iu (av 5 _ rfl rfl) rfl rfl rfl ?_
       refine ak.nil ?_
       exact ae.fin (fI []) rfl rfl
      refine ae.gu (L2:= [⟨some cO,.var (iK.2:bI)⟩,⟨none,.dead⟩,⟨none,.dead⟩,⟨some ff,.var (aB ai aV:bX)⟩,⟨none,.row 207 (([]:List dq):List dq) 0⟩,⟨some cz,.cC (({ s1.2.1 with iQ:= [] } :cI):cI) [(2,aZ (gO 11 0) j2.length ((gO 11 1).getD 0))]⟩,⟨(gO 11 0),.row 207 (j2:List dq) ((gO 11 1).getD 0)⟩,⟨none,.row 207 (([]:List dq):List dq) 0⟩,⟨some bw,.cC (bJ.2.1:cI) [(2,aZ bq.1 bJ.2.2.length bq.2)]⟩,⟨bq.1,.row 207 (bJ.2.2:List dq) bq.2⟩,⟨none,.row 207 (([]:List dq):List dq) 0⟩,⟨some bf,.cC (({ s1.2.2.2.2.2.2.1 with iQ:= [] } :cI):cI) [(2,aZ m3 eU.length e2)]⟩,⟨m3,.row 207 (eU:List dq) e2⟩]) rfl ?_
      refine l8 [0,1,4,5,6,7,9,10,11,30,31,32,33,45,46,47,70,85,86,87,89,90,91,92,93,94,95,96,97,98,99] ?_
      obtain rfl:=aG h
      exact dj 0 (hm ((gO 11 0),((gO 11 1).getD 0)))
     ·have h:=gL ao dE
      refine ag.skip ?_
      obtain rfl:=aG h
      exact dj 0 (hm (au.1.1,au.1.2))
    ·have h:=gK ao cB
     obtain⟨la,zI,h⟩:=ar h
     obtain⟨sQ,X0,h⟩:=ar h
     obtain⟨fA,j1,h⟩:=ar h
     obtain⟨sR,X1,h⟩:=ar h
     refine lI [0,1,4,5,6,7,9,10,11,30,31,32,33,45,46,47,59,61,62,63,64,65,66,67,68,69,70] ?_
     refine ag.kn mixed (bt 71 [] [] _ :: bt 72 (0 :: []) (8 :: []) _ :: bt 73 [] [] _ :: bt 74 (2 :: []) (3 :: []) _ :: bt 75 [] [] _ :: ⟨some 76,(4 :: []),(0 :: []),(0 :: []),fun _=>I.of (la.1),fun hd _=>⟨some cO,.var (la.2:bI)⟩⟩ :: bt 77 (5 :: []) [] _ :: bt 78 [] [] _ :: ⟨some 79,(5 :: 7 :: []),(0 :: []),(0 :: []),fun _=>I.of (sQ.1),fun hd _=>⟨some cO,.var (sQ.2:bI)⟩⟩ :: bt 80 [] [] _ :: bt 81 (3 :: 6 :: 8 :: 9 :: []) [] _ :: bt 82 (10 :: []) [] _ :: ⟨some 83,(1 :: 11 :: []),(9 :: []),(9 :: []),fun hd=>I.eq (aZ (hd 12 0) sR.length ((hd 12 1).getD 0)),fun hd _=>⟨(hd 12 0),.row 207 (sR:List dq) ((hd 12 1).getD 0)⟩⟩ :: bt 84 [] [] _ :: ⟨none,(1 :: 12 :: 13 :: []),(8 :: []),(8 :: []),fun _=>I.any,fun hd _=>⟨some bw,.cC (({ s1.2.2.2.2.1 with iQ:= [] } :cI):cI) [(2,aZ (hd 12 0) sR.length ((hd 12 1).getD 0))]⟩⟩ :: []) _ (0 :: 1 :: 4 :: 5 :: 6 :: 7 :: 9 :: 10 :: 11 :: 30 :: 31 :: 32 :: 33 :: 45 :: 46 :: 47 :: 59 :: 61 :: 62 :: 63 :: 64 :: 65 :: 66 :: 67 :: 68 :: 69 :: 70 :: []) rfl rfl (by kernel_rfl) ⟨ga (a2 wb),c2 fun hd E' aC aL av=>iR (i:=8) (q:=0) (β:=cI) (γ:=dq) ui (ad (aL _ _ rfl)) (av 8 _ rfl rfl) rfl,ga (a2 tQ),p5 3 oN bM,gb,?_,xf lY,gb,?_,gb,c2 fun hd E' aC aL av=>(cU (b:= { dJ:=(aB ai aV).bU,qI:=decide (la.1 > 0),qC:=sQ.1,bQ:=aS.2.2.1:dq }) rfl GF qS (.cons Ez rfl (ad (aL _ _ rfl)) rfl (.cons EE rfl (ad (aL _ _ rfl)) rfl (.cons EA rfl (ad (aL _ _ rfl)) rfl (.cons EF rfl (ad (aL _ _ rfl)) rfl (.nil)))))).as (aG j1),c2 fun hd E' aC aL av=>jU (r:= [fA]) Tryz.underlying202 wE qS rfl rfl (.cons (by simp) (ad (aL _ _ rfl)) (.nil)),?_,ga (a2 wb),?_,trivial⟩ fun j3=> ?_
     ·intro hd E' aC aL av
      refine ak.cd 0 (av 0 _ rfl rfl) ?_
      refine ak.lX (Lin:= [⟨some cO,.var (fo.2:bI)⟩]) (Lr:=aC.eraseIdx 0) gD (gz zI) ⟨ad (aL _ _ rfl),bF 4,trivial⟩ rfl fun aa0=> ?_
      refine ak.nil ?_
      refine ae.back 0 (av 0 _ rfl rfl) ?_
      exact ae.fin (fI []) rfl rfl
     ·intro hd E' aC aL av
      refine ak.cd 0 (av 0 _ rfl rfl) ?_
      refine ak.lX (Lin:= [⟨some cO,.var (la.2:bI)⟩]) (Lr:=aC.eraseIdx 0) m2 (mJ X0) ⟨ad (aL _ _ rfl),trivial⟩ rfl fun aa1=> ?_
      refine ak.nil ?_
      refine ae.back 0 (av 0 _ rfl rfl) ?_
      exact ae.fin (fI []) rfl rfl
     ·intro hd E' aC aL av
      refine ak.app (i:=9) Tryz.underlying202 wE qS (bytes:=40) (by kernel_rfl) (ad (aL _ _ rfl)) (av 9 _ rfl rfl) (ad (aL _ _ rfl)) X1 rfl fun pW pX=> ?_
      refine ak.nil ?_
      exact ae.fin (fI [pW,some pX]) rfl rfl
     ·intro hd E' aC aL av
      refine ak.jm (i:=8) (γ:=dq) (b':=(({ s1.2.2.2.2.1 with iQ:= [] } :cI):cI)) (os':= [(2,aZ (hd 12 0) sR.length ((hd 12 1).getD 0))]) ((aI.id cI).comp vq) ui (ad (aL _ _ rfl)) (ad (aL _ _ rfl)) iu (av 8 _ rfl rfl) rfl rfl rfl ?_
      refine ak.nil ?_
      exact ae.fin (fI []) rfl rfl
     refine ae.gu (L2:= [⟨some cO,.var (sQ.2:bI)⟩,⟨none,.dead⟩,⟨none,.dead⟩,⟨some ff,.var (aB ai aV:bX)⟩,⟨none,.row 207 (([]:List dq):List dq) 0⟩,⟨some cz,.cC (s1.2.1:cI) [(2,aZ au.1.1 s1.2.2.1.length au.1.2)]⟩,⟨au.1.1,.row 207 (s1.2.2.1:List dq) au.1.2⟩,⟨none,.row 207 (([]:List dq):List dq) 0⟩,⟨some bw,.cC (({ s1.2.2.2.2.1 with iQ:= [] } :cI):cI) [(2,aZ (j3 12 0) sR.length ((j3 12 1).getD 0))]⟩,⟨(j3 12 0),.row 207 (sR:List dq) ((j3 12 1).getD 0)⟩,⟨none,.row 207 (([]:List dq):List dq) 0⟩,⟨some bf,.cC (({ s1.2.2.2.2.2.2.1 with iQ:= [] } :cI):cI) [(2,aZ m3 eU.length e2)]⟩,⟨m3,.row 207 (eU:List dq) e2⟩]) rfl ?_
     refine l8 [0,1,4,5,6,7,9,10,11,30,31,32,33,45,46,47,59,61,62,63,64,65,66,67,68,69,70,71,73,74,75,76,77,78,79,80,81,82,83,84] ?_
     obtain rfl:=aG h
     exact dj 0 (hm ((j3 12 0),((j3 12 1).getD 0)))
    ·have h:=gL ao cB
     refine ag.skip ?_
     obtain rfl:=aG h
     exact dj 0 (hm (au.2.1.1,au.2.1.2))
  ·refine ag.exit ?_
   refine ae.exit ?_
   obtain rfl:=aG h
   exact c6 ((au.1.1,au.1.2),(au.2.1.1,au.2.1.2),(au.2.2.1,au.2.2.2)) 0
 ·clear al
  refine ae.dD ?_
  refine ae.next ?_
  refine aA ?_
  refine ak.iW (β:=cI) (γ:=dq) (b':=(({ ay.2.2.2.2.2.2.2.1 with iQ:=ay.2.2.2.2.2.2.2.2 } :cI):cI)) ((aI.id cI).comp vq) 8 9 0 rfl rfl rfl rfl rfl rfl ?_
  refine ak.nx 8 rfl ?_
  obtain⟨hj,k8,h⟩:=ar h
  refine dm k8 (fb (i:=8) (aI.id cI) (r:=({ ay.2.2.2.2.2.2.2.1 with iQ:=ay.2.2.2.2.2.2.2.2 } :cI)) pP (ad rfl) rfl rfl rfl) ?_
  refine ak.iW (β:=cI) (γ:=dq) (b':=(({ ay.2.2.2.2.2.1 with iQ:=ay.2.2.2.2.2.2.1 } :cI):cI)) ((aI.id cI).comp vq) 5 6 0 rfl rfl rfl rfl rfl rfl ?_
  refine ak.nx 5 rfl ?_
  refine bY 5 pP ?_
  refine ak.iW (β:=cI) (γ:=dq) (b':=(({ ay.2.2.1 with iQ:=ay.2.2.2.1 } :cI):cI)) ((aI.id cI).comp vq) 1 2 0 rfl rfl rfl rfl rfl rfl ?_
  refine ak.nx 1 rfl ?_
  refine bY 1 pP ?_
  obtain⟨hk,nH,h⟩:=ar h
  refine dm nH (jU (r:= [hj,({ ay.2.2.2.2.2.1 with iQ:=ay.2.2.2.2.2.2.1 } :cI),({ ay.2.2.1 with iQ:=ay.2.2.2.1 } :cI)]) Tryz.underlying30 pP ss rfl rfl (.cons (by simp) (ad rfl) (.cons (by simp) (ad rfl) (.cons (by simp) (ad rfl) (.nil))))) ?_
  refine aH ?_
  refine aJ ?_
  refine ag.ret ?_
  refine ae.cd 3 rfl ?_
  obtain rfl:=aG h
  exact k6 ()
end Go.Proofs.YtmnggbjcnoffeaaGreat
namespace Go.Proofs.YtmnggbjcnoffeaaGreat
open Go Gv
set_option linter.unusedVariables false
set_option linter.unusedSimpArgs false
set_option maxRecDepth 100000
set_option maxHeartbeats 2000000
theorem JF {aa:bI} {cO:Nat} {r:a0 × bI} (h:vr aa=some r):cG Tryz.prog 16 [I.eq (.pointer (some ⟨cO,0,none⟩))] [⟨some cO,.var (aa:bI)⟩] (δ:=Unit) (fun d=>I.of (r.1)) (fun d=> [⟨some cO,.var (r.2:bI)⟩]):=by
 unfold vr at h
 refine cG.of Tryz.func16 rfl Tryz.ntmps16 rfl fun W A=> ?_
 refine aA ?_
 refine ch zJ fun bf=> ?_
 refine bE ?_
 refine ax ?_
 refine ak.cd 1 rfl ?_
 obtain⟨aD,bp,h⟩:=ar h
 refine eT 1 gD (gz bp) fun az=> ?_
 refine a5 cL ?_
 refine ax ?_
 refine ak.cd 0 rfl ?_
 obtain⟨aM,b9,h⟩:=ar h
 refine eT 1 gD (gz b9) fun ck=> ?_
 refine a5 cL ?_
 refine bh (pH (b:=({ (default:a0) with yy:=bm (2 + aD.1),yJ:=bm (12 + aM.1) } :a0)) [5,7] Lj rfl X2 zJ (.cons Qu rfl (ad rfl) rfl (by rfl) (.cons QA rfl (ad rfl) rfl (by rfl) (.nil)))) ?_
 refine ak.own (α:=fD) 127 ?_
 refine ak.own (α:=eZ) 129 ?_
 refine ak.oV (z:=(default:a0)) [5,7] Lj zJ rfl fun bw=> ?_
 refine ak.own (α:=fD) 127 ?_
 refine ak.own (α:=eZ) 129 ?_
 refine ak.qH (i:=2) eP (ad rfl) (ad rfl) rfl ?_
 refine bE ?_
 obtain⟨bN,dg,h⟩:=ar h
 refine dm dg (cU (b:= { bU:=1,cm:=ByteArray.mk #[105,110,103,114,101,115,115],e7:=16:fj }) rfl qT oi (.cons n4 rfl (bF 1) rfl (.cons ql rfl (dC (ByteArray.mk #[105,110,103,114,101,115,115])) rfl (.cons ni rfl (bF 16) rfl (.nil))))) ?_
 obtain⟨c7,gG,h⟩:=ar h
 refine dm gG (cU (b:= { bU:=2,cm:=ByteArray.mk #[101,103,114,101,115,115],e7:=16:fj }) rfl qT oi (.cons n4 rfl (bF 2) rfl (.cons ql rfl (dC (ByteArray.mk #[101,103,114,101,115,115])) rfl (.cons ni rfl (bF 16) rfl (.nil))))) ?_
 obtain⟨fA,j1,h⟩:=ar h
 refine dm j1 (cU (b:= { bU:=3,cm:=ByteArray.mk #[109,101,116,97],e7:=8:fj }) rfl qT oi (.cons n4 rfl (bF 3) rfl (.cons ql rfl (dC (ByteArray.mk #[109,101,116,97])) rfl (.cons ni rfl (bF 8) rfl (.nil))))) ?_
 refine hH qT oi { bU:=4,cm:=ByteArray.mk #[97],e7:=4:fj } (iY n4 (iY ql (iY ni .nil))) ?_
 refine hH qT oi { bU:=5,cm:=ByteArray.mk #[98],e7:=4:fj } (iY n4 (iY ql (iY ni .nil))) ?_
 obtain⟨hj,k8,h⟩:=ar h
 refine dm k8 (cU (b:= { bU:=6,cm:=ByteArray.mk #[101],e7:=8:fj }) rfl qT oi (.cons n4 rfl (bF 6) rfl (.cons ql rfl (dC (ByteArray.mk #[101])) rfl (.cons ni rfl (bF 8) rfl (.nil))))) ?_
 obtain⟨hk,nH,h⟩:=ar h
 refine dm nH (cU (b:= { bU:=7,cm:=ByteArray.mk #[100],e7:=32:fj }) rfl qT oi (.cons n4 rfl (bF 7) rfl (.cons ql rfl (dC (ByteArray.mk #[100])) rfl (.cons ni rfl (bF 32) rfl (.nil))))) ?_
 obtain⟨kc,rf,h⟩:=ar h
 refine dm rf (cU (b:= { bU:=8,cm:=ByteArray.mk #[102],e7:=12:fj }) rfl qT oi (.cons n4 rfl (bF 8) rfl (.cons ql rfl (dC (ByteArray.mk #[102])) rfl (.cons ni rfl (bF 12) rfl (.nil))))) ?_
 obtain⟨jM,rh,h⟩:=ar h
 refine dm rh (cU (b:= { bU:=9,cm:=ByteArray.mk #[103],e7:=4:fj }) rfl qT oi (.cons n4 rfl (bF 9) rfl (.cons ql rfl (dC (ByteArray.mk #[103])) rfl (.cons ni rfl (bF 4) rfl (.nil))))) ?_
 obtain⟨hB,ri,h⟩:=ar h
 refine dm ri (jU (r:= [bN,c7,fA,{ bU:=4,cm:=ByteArray.mk #[97],e7:=4:fj },{ bU:=5,cm:=ByteArray.mk #[98],e7:=4:fj },hj,hk,kc,jM]) Tryz.underlying24 oj oi rfl rfl (.cons (by simp) (ad rfl) (.cons (by simp) (ad rfl) (.cons (by simp) (ad rfl) (.cons (by simp) (ad rfl) (.cons (by simp) (ad rfl) (.cons (by simp) (ad rfl) (.cons (by simp) (ad rfl) (.cons (by simp) (ad rfl) (.cons (by simp) (ad rfl) (.nil))))))))))) ?_
 refine aY (a2 tU) ?_
 obtain⟨lr,uM,h⟩:=ar h
 refine ak.sj (i:=2) ((aI.id a0).comp tl) (v:=(hB:List fj)) (b':=(lr:a0)) sE (ad rfl) (ad rfl) rfl rfl (aG uM) (by rfl) ?_
 refine bE ?_
 refine fQ ([4,5,6]:List Int) Tryz.underlying63 bM h3 ?_
 obtain⟨kN,ux,h⟩:=ar h
 refine dm ux (cU (b:= { bU:=1,cm:=ByteArray.mk #[111,110,101],fg:=([4,5,6]:List Int):jj }) rfl GG zi (.cons BK rfl (bF 1) rfl (.cons EB rfl (dC (ByteArray.mk #[111,110,101])) rfl (.cons Eu rfl (ad rfl) rfl (.nil))))) ?_
 refine fQ ([7]:List Int) Tryz.underlying63 bM h3 ?_
 obtain⟨ks,uy,h⟩:=ar h
 refine dm uy (cU (b:= { bU:=2,cm:=ByteArray.mk #[116,119,111],fg:=([7]:List Int):jj }) rfl GG zi (.cons BK rfl (bF 2) rfl (.cons EB rfl (dC (ByteArray.mk #[116,119,111])) rfl (.cons Eu rfl (ad rfl) rfl (.nil))))) ?_
 refine fQ ([8,9]:List Int) Tryz.underlying63 bM h3 ?_
 obtain⟨lJ,uz,h⟩:=ar h
 refine dm uz (cU (b:= { bU:=3,cm:=ByteArray.mk #[116,104,114,101,101],fg:=([8,9]:List Int):jj }) rfl GG zi (.cons BK rfl (bF 3) rfl (.cons EB rfl (dC (ByteArray.mk #[116,104,114,101,101])) rfl (.cons Eu rfl (ad rfl) rfl (.nil))))) ?_
 refine fQ [kN,ks,lJ] Tryz.underlying25 CY zi ?_
 refine aY (a2 Mv) ?_
 refine ak.sj (i:=2) ((aI.id a0).comp JA) (v:=([kN,ks,lJ]:List jj)) (b':=(({ lr with lA:= [kN,ks,lJ] } :a0):a0)) Hi (ad rfl) (ad rfl) rfl rfl rfl (by rfl) ?_
 refine bE ?_
 refine ax ?_
 refine ak.cd 5 rfl ?_
 obtain⟨a8,dP,h⟩:=ar h
 refine eT 1 X3 (QO dP) fun fS=> ?_
 refine ax ?_
 refine ak.cd 0 rfl ?_
 obtain⟨br,eW,h⟩:=ar h
 refine eT 1 X4 (QG eW) fun je=> ?_
 refine ax ?_
 refine ak.cd 0 rfl ?_
 obtain⟨cj,gH,h⟩:=ar h
 refine eT 1 X5 (QP gH) fun ey=> ?_
 refine aY (a2 Mw) ?_
 obtain⟨kt,zA,h⟩:=ar h
 refine ak.sj (i:=3) ((aI.id a0).comp JC) (v:=(a8.1:List dy)) (b':=(kt:a0)) Hj (ad rfl) (ad rfl) rfl rfl (aG zA) (by rfl) ?_
 refine aY (a2 F9) ?_
 refine ak.sj (i:=3) ((aI.id a0).comp Er) (v:=(br.1:List dL)) (b':=(({ kt with di:=br.1 } :a0):a0)) Dh (ad rfl) (ad rfl) rfl rfl rfl (by rfl) ?_
 refine aY (a2 lE) ?_
 obtain⟨kO,zB,h⟩:=ar h
 refine ak.sj (i:=3) ((aI.id a0).comp ly) (v:=(cj.1:List bX)) (b':=(kO:a0)) k2 (ad rfl) (ad rfl) rfl rfl (aG zB) (by rfl) ?_
 refine bE ?_
 refine ax ?_
 refine aY (a2 lE) ?_
 refine O6 3 ly k2 ?_
 refine ak.cd 0 rfl ?_
 obtain⟨cM,hh,h⟩:=ar h
 refine eT 1 X6 (QZ hh) fun jf=> ?_
 refine aY (a2 Mx) ?_
 refine ak.sj (i:=3) ((aI.id a0).comp JE) (v:=(cM.1:List cI)) (b':=(({ kO with jl:=cM.1 } :a0):a0)) Hk (ad rfl) (ad rfl) rfl rfl rfl (by rfl) ?_
 refine bE ?_
 refine hH zj su { dJ:=1,hW:=1:fD } (iY xI (iY Ey .nil)) ?_
 refine hH zj su { dJ:=2,hW:=2:fD } (iY xI (iY Ey .nil)) ?_
 refine hH zj su ({ (default:fD) with dJ:=3 } :fD) (iY xI .nil) ?_
 refine hH zj su { dJ:=4,hW:=3:fD } (iY xI (iY Ey .nil)) ?_
 obtain⟨nI,zC,h⟩:=ar h
 refine ak.Oq (α:=fD) (r0:= [{ dJ:=1,hW:=1:fD },{ dJ:=2,hW:=2:fD },({ (default:fD) with dJ:=3 } :fD),{ dJ:=4,hW:=3:fD }]) (r:=nI) Tryz.underlying29 GH su rfl rfl (.cons (by simp) (ad rfl) (.cons (by simp) (ad rfl) (.cons (by simp) (ad rfl) (.cons (by simp) (ad rfl) (.nil))))) (aG zC) rfl fun gE=> ?_
 refine aY (a2 Ga) ?_
 refine ak.jm (i:=4) (γ:=fD) (b':=(({ ({ kO with jl:=cM.1 } :a0) with mN:= [] } :a0):a0)) (os':= [(5,aZ gE nI.length 4),(7,aZ none ([]:List eZ).length 0)]) ((aI.id a0).comp Ev) Di (ad rfl) (ad rfl) iu rfl rfl rfl rfl ?_
 refine bx ?_
 refine aA ?_
 refine ax ?_
 refine ak.cd 1 rfl ?_
 obtain⟨dv,kM,h⟩:=ar h
 refine eT 1 m2 (mJ kM) fun Ed=> ?_
 refine aJ ?_
 obtain⟨bJ,cB,h⟩:=ar h
 refine hQ (γ:=(Option Nat × Nat)) [0,2,3,51] (fun au=> []) (fun au=> [(1,⟨au.1,.row 127 (bJ:List fD) au.2⟩),(4,⟨some bw,.cC (({ ({ kO with jl:=cM.1 } :a0) with mN:= [] } :a0):a0) [(5,aZ au.1 bJ.length au.2),(7,aZ none ([]:List eZ).length 0)]⟩)]) (fun au=> ?_) (fun hm ao=> ?_) fun hm ao=> ?_
 ·clear cB
  refine ae.next ?_
  refine ag.seq ?_
  refine aA ?_
  refine ax ?_
  refine ak.cd 0 rfl ?_
  obtain⟨eU,k9,h⟩:=ar h
  refine eT 1 m2 (mJ k9) fun I1=> ?_
  refine aJ ?_
  obtain⟨cy,dE,h⟩:=ar h
  refine hQ (γ:=(Option Nat × Nat)) [0,2,3,51,59] (fun aT=> []) (fun aT=> [(4,⟨some bw,.cC (cy.1:a0) [(5,aZ au.1 bJ.length au.2),(7,aZ aT.1 cy.2.length aT.2)]⟩),(5,⟨aT.1,.row 129 (cy.2:List eZ) aT.2⟩)]) (fun aT=> ?_) (fun hm ao=> ?_) fun hm ao=> ?_
  ·clear dE
   refine ae.next ?_
   refine ag.seq ?_
   refine aA ?_
   refine ax ?_
   refine ak.cd 0 rfl ?_
   obtain⟨fo,nJ,h⟩:=ar h
   refine eT 1 m2 (mJ nJ) fun qe=> ?_
   refine ax ?_
   refine eg (a2 lE) ?_
   refine eN (fun hb=>FF (i:=4) ((aI.id a0).comp ly) (r:=cy.1.bB) k2 (ct rfl hb) rfl rfl rfl (by rfl)) ?_
   obtain⟨aV,b4,h⟩:=ar h
   refine eN (fun hb=>oZ (k:=aV) Tryz.underlying28 fO (ct rfl hb) (bF 2) (bC (fE b4 hb))) ?_
   refine eN (fun hb=>zk iP kl (ct rfl hb) rfl rfl) ?_
   refine eg (cK jW) ?_
   refine eg (er Tryz.underlying62) ?_
   refine k7 fW ?_
   refine j4 ?_
   refine aJ ?_
   obtain⟨fm,hS,h⟩:=ar h
   refine hQ (γ:=(Option Nat × Nat)) [0,2,3,51,59,76] (fun bq=> []) (fun bq=> [(4,⟨some bw,.cC (fm.1:a0) [(5,aZ au.1 bJ.length au.2),(7,aZ bq.1 fm.2.length bq.2)]⟩),(5,⟨bq.1,.row 129 (fm.2:List eZ) bq.2⟩)]) (fun bq=> ?_) (fun hm ao=> ?_) fun hm ao=> ?_
   ·clear hS
    refine ae.next ?_
    refine ag.seq ?_
    refine aA ?_
    refine ax ?_
    refine ak.cd 0 rfl ?_
    obtain⟨gP,o5,h⟩:=ar h
    refine eT 1 m2 (mJ o5) fun HL=> ?_
    refine ax ?_
    refine eg (a2 lE) ?_
    refine eN (fun hb=>FF (i:=4) ((aI.id a0).comp ly) (r:=fm.1.bB) k2 (ct rfl hb) rfl rfl rfl (by rfl)) ?_
    obtain⟨bu,cD,h⟩:=ar h
    refine eN (fun hb=>oZ (k:=bu) Tryz.underlying28 fO (ct rfl hb) (bF 3) (bC (fE cD hb))) ?_
    refine eN (fun hb=>zk iP kl (ct rfl hb) rfl rfl) ?_
    refine eg (cK jW) ?_
    refine eg (er Tryz.underlying62) ?_
    refine k7 fW ?_
    refine j4 ?_
    refine aJ ?_
    obtain⟨oI,z3,h⟩:=ar h
    refine hQ (γ:=(Option Nat × Nat)) [0,2,3,51,59,76,93] (fun cx=> []) (fun cx=> [(4,⟨some bw,.cC (oI.1:a0) [(5,aZ au.1 bJ.length au.2),(7,aZ cx.1 oI.2.length cx.2)]⟩),(5,⟨cx.1,.row 129 (oI.2:List eZ) cx.2⟩)]) (fun cx=> ?_) (fun hm ao=> ?_) fun hm ao=> ?_
    ·clear z3
     refine ae.next ?_
     refine aA ?_
     refine ak.iW (β:=a0) (γ:=fD) (b':=(({ oI.1 with mN:=bJ } :a0):a0)) ((aI.id a0).comp Ev) 4 1 0 rfl rfl rfl rfl rfl rfl ?_
     refine ak.iW (β:=a0) (γ:=eZ) (b':=(({ ({ oI.1 with mN:=bJ } :a0) with ns:=oI.2 } :a0):a0)) ((aI.id a0).comp Bv) 4 5 0 rfl rfl rfl rfl rfl rfl ?_
     refine ak.nx 4 rfl ?_
     obtain⟨oC,zD,h⟩:=ar h
     refine dm zD (fb (i:=4) (aI.id a0) (r:=({ ({ oI.1 with mN:=bJ } :a0) with ns:=oI.2 } :a0)) eP (ad rfl) rfl rfl rfl) ?_
     refine bS 7 eP ?_
     refine aJ ?_
     refine ag.ret ?_
     refine ae.cd 0 rfl ?_
     obtain rfl:=aG h
     exact ae.ha () (.cons_cons _ (List.nil_sublist _)) rfl rfl (om (i:=7) eP rfl rfl)
    ·have h:=gK ao z3
     refine ag.b1 ?_
     refine aY (a2 wj) ?_
     refine bh (iR (i:=4) (q:=1) (β:=a0) (γ:=eZ) uB (ad rfl) rfl rfl) ?_
     obtain⟨mx,Hh,h⟩:=ar h
     refine dm Hh (cU (b:=({ (default:eZ) with dJ:=4,uj:=1,oP:=1 } :eZ)) rfl CZ pQ (.cons BL rfl (bF 4) rfl (.cons JN rfl (bF 1) rfl (.cons Bw rfl (bF 1) rfl (.nil))))) ?_
     obtain⟨rj,zE,h⟩:=ar h
     refine dm zE (cU (b:=({ (default:eZ) with dJ:=4,lB:=5,oP:=1 } :eZ)) rfl CZ pQ (.cons BL rfl (bF 4) rfl (.cons JG rfl (bF 5) rfl (.cons Bw rfl (bF 1) rfl (.nil))))) ?_
     refine fQ [mx,rj] Tryz.underlying31 wF pQ ?_
     obtain⟨ik,q4,h⟩:=ar h
     refine jv 5 Tryz.underlying31 wF pQ q4 fun kq e2=> ?_
     refine aY (a2 wj) ?_
     refine ak.jm (i:=4) (γ:=eZ) (b':=(({ fm.1 with ns:= [] } :a0):a0)) (os':= [(5,aZ au.1 bJ.length au.2),(7,aZ kq ik.length e2)]) ((aI.id a0).comp Bv) uB (ad rfl) (ad rfl) iu rfl rfl rfl rfl ?_
     refine ak.nil ?_
     obtain rfl:=aG h
     exact dj 0 (hm (kq,e2))
    ·have h:=gL ao z3
     refine ag.skip ?_
     obtain rfl:=aG h
     exact dj 0 (hm (bq.1,bq.2))
   ·have h:=gK ao hS
    refine ag.b1 ?_
    refine aY (a2 wj) ?_
    refine bh (iR (i:=4) (q:=1) (β:=a0) (γ:=eZ) uB (ad rfl) rfl rfl) ?_
    obtain⟨p4,wQ,h⟩:=ar h
    refine dm wQ (cU (b:=({ (default:eZ) with dJ:=3,uj:=2,oP:=1 } :eZ)) rfl CZ pQ (.cons BL rfl (bF 3) rfl (.cons JN rfl (bF 2) rfl (.cons Bw rfl (bF 1) rfl (.nil))))) ?_
    refine fQ [p4] Tryz.underlying31 wF pQ ?_
    obtain⟨iK,uA,h⟩:=ar h
    refine jv 5 Tryz.underlying31 wF pQ uA fun m3 oy=> ?_
    refine aY (a2 wj) ?_
    refine ak.jm (i:=4) (γ:=eZ) (b':=(({ cy.1 with ns:= [] } :a0):a0)) (os':= [(5,aZ au.1 bJ.length au.2),(7,aZ m3 iK.length oy)]) ((aI.id a0).comp Bv) uB (ad rfl) (ad rfl) iu rfl rfl rfl rfl ?_
    refine ak.nil ?_
    obtain rfl:=aG h
    exact dj 0 (hm (m3,oy))
   ·have h:=gL ao hS
    refine ag.skip ?_
    obtain rfl:=aG h
    exact dj 0 (hm (aT.1,aT.2))
  ·have h:=gK ao dE
   refine ag.b1 ?_
   refine aY (a2 wj) ?_
   refine bh (iR (i:=4) (q:=1) (β:=a0) (γ:=eZ) uB (ad rfl) rfl rfl) ?_
   obtain⟨HM,X7,h⟩:=ar h
   refine dm X7 (cU (b:=({ (default:eZ) with dJ:=2,lB:=4,oP:=1 } :eZ)) rfl CZ pQ (.cons BL rfl (bF 2) rfl (.cons JG rfl (bF 4) rfl (.cons Bw rfl (bF 1) rfl (.nil))))) ?_
   refine fQ [HM] Tryz.underlying31 wF pQ ?_
   obtain⟨j2,zH,h⟩:=ar h
   refine jv 5 Tryz.underlying31 wF pQ zH fun q3 pX=> ?_
   refine aY (a2 wj) ?_
   refine ak.jm (i:=4) (γ:=eZ) (b':=(({ ({ ({ kO with jl:=cM.1 } :a0) with mN:= [] } :a0) with ns:= [] } :a0):a0)) (os':= [(5,aZ au.1 bJ.length au.2),(7,aZ q3 j2.length pX)]) ((aI.id a0).comp Bv) uB (ad rfl) (ad rfl) iu rfl rfl rfl rfl ?_
   refine ak.nil ?_
   obtain rfl:=aG h
   exact dj 0 (hm (q3,pX))
  ·have h:=gL ao dE
   refine ag.skip ?_
   obtain rfl:=aG h
   exact dj 0 (hm (none,0))
 ·have h:=gK ao cB
  refine ag.b1 ?_
  refine aY (a2 Ga) ?_
  refine bh (iR (i:=4) (q:=0) (β:=a0) (γ:=fD) Di (ad rfl) rfl rfl) ?_
  refine hH zj su ({ (default:fD) with dJ:=1 } :fD) (iY xI .nil) ?_
  refine fQ [({ (default:fD) with dJ:=1 } :fD)] Tryz.underlying29 GH su ?_
  obtain⟨la,zI,h⟩:=ar h
  refine jv 1 Tryz.underlying29 GH su zI fun pW zK=> ?_
  refine aY (a2 Ga) ?_
  refine ak.jm (i:=4) (γ:=fD) (b':=(({ ({ kO with jl:=cM.1 } :a0) with mN:= [] } :a0):a0)) (os':= [(5,aZ pW la.length zK),(7,aZ none ([]:List eZ).length 0)]) ((aI.id a0).comp Ev) Di (ad rfl) (ad rfl) iu rfl rfl rfl rfl ?_
  refine ak.nil ?_
  obtain rfl:=aG h
  exact dj 0 (hm (pW,zK))
 ·have h:=gL ao cB
  refine ag.skip ?_
  obtain rfl:=aG h
  exact dj 0 (hm (gE,4))
end Go.Proofs.YtmnggbjcnoffeaaGreat
namespace Go.Proofs.YtmnggbjcnoffeaaGreat
open Go Gv
set_option linter.unusedVariables false
set_option linter.unusedSimpArgs false
set_option maxRecDepth 100000
set_option maxHeartbeats 2000000
theorem SD {hp:bg Cell} {aa:Int} {Q:Ref × (bg Cell)→Prop} (h:B5 hp aa Q):cG Tryz.prog 243 [I.of (aa)] ([] ++ bz hp) (δ:= {r:Ref × (bg Cell) // Q r} × Unit) (fun d=>I.of (d.1.1.1)) (fun d=> [] ++ bz d.1.1.2):=by
 unfold B5 at h
 refine cG.of Tryz.func243 rfl Tryz.ntmps243 rfl fun W A=> ?_
 refine aA ?_
 refine bh (eC (r2)) ?_
 refine bE ?_
 refine ax ?_
 refine a5 wC ?_
 refine a5 uf ?_
 obtain⟨bN,dg,h⟩:=aK.c4 h
 refine dm dg (cU (b:=({ (default:gA) with fU:=min (max 1 aa) 128 } :gA)) rfl VK VL (.cons xQ rfl (ad rfl) rfl (.nil))) ?_
 refine ak.zz 0 rfl (Cell.jX bN) (fun _=>rfl) (ad rfl) rfl fun eL uL=> ?_
 replace h:=aK.se h eL uL
 refine aH ?_
 refine aJ ?_
 refine ag.ret ?_
 exact ae.ha (⟨⟨((some eL.1:Ref),eL.2),h⟩,()⟩: {r // _} × _) (.refl _) rfl rfl (gf rfl)
theorem Qy {aa:aU} {ai:Int} {r:Bool} (h:Bj aa ai=some r):bn Tryz.prog 279 [I.of (aa),I.ptr ai] (I.of (r)):=by
 unfold Bj at h
 refine bn.of Tryz.func279 rfl Tryz.ntmps279 rfl fun W A=> ?_
 refine aA ?_
 refine ca fun bf=> ?_
 refine aH ?_
 refine bE ?_
 refine aY (a2 km) ?_
 refine b5 0 ji bM ?_
 refine aY (cK bM) ?_
 refine a5 fW ?_
 refine aH ?_
 refine aJ ?_
 refine ag.ret ?_
 obtain rfl:=aG h
 exact c3
theorem Jw {aa:List aU} {ai:aU→Option Bool} {r:Int} (h:vg aa ai=some r):bn Tryz.prog 110 [I.of (aa),I.o9 Tryz.prog ai] (I.of (r)):=by
 unfold vg at h
 refine bn.of Tryz.func110 rfl Tryz.ntmps110 rfl fun W A=> ?_
 refine aA ?_
 refine aH ?_
 refine bx ?_
 refine aA ?_
 refine ax ?_
 refine aY (er Tryz.underlying38) ?_
 refine ax ?_
 refine aJ ?_
 refine ag.block ?_
 obtain⟨ay,al,h⟩:=ar h
 refine eD (γ:=Unit) (δ:=Unit) al [0,1,7] (fun s1 au=> [(4,I.of (0:Int)),(8,I.of (s1))]) (fun s1 au=> []) (fun az=>Sum.elim (fun az=>Exit.exit 0) (fun az=>Exit.ret) az) (fun az au=>Sum.elim (fun az=> [(4,I.of (0:Int)),(8,I.of (az.1)),(9,I.of (az.2))]) (fun az=> [(4,I.of (az.1)),(5,I.of (az.2.1)),(8,I.of (az.2.2.1)),(9,I.of (az.2.2.2.1)),(16,I.of (az.2.2.2.2))]) az) (fun az au=>Sum.elim (fun az=> []) (fun az=> []) az) () (fun s1 r h au=> ?_) fun au=> ?_
 ·clear al
  refine aA ?_
  refine a5 dd ?_
  refine bx ?_
  refine b0 h (fun h=>?_) fun h=>?_
  ·refine cn ?_
   refine ag.seq ?_
   refine ag.block ?_
   refine aA ?_
   refine ax ?_
   refine aH ?_
   refine bE ?_
   refine ax ?_
   refine ax ?_
   refine ax ?_
   obtain⟨aV,b4,h⟩:=ar h
   refine fq b4 Tryz.underlying38 c9 ?_
   refine aY (cK c9) ?_
   obtain⟨aD,bp,h⟩:=ar h
   refine bh (v3 (ad rfl) (ad rfl) bp) ?_
   refine aJ ?_
   refine b0 h (fun h=>?_) fun h=>?_
   ·refine aA ?_
    refine ax ?_
    refine aH ?_
    refine aJ ?_
    refine ag.ret ?_
    refine ae.dQ ?_
    refine ae.ret ?_
    obtain rfl:=aG h
    exact c6 () 0
   ·refine ag.skip ?_
    refine ae.db ?_
    refine ae.next ?_
    refine ag.b1 ?_
    refine a5 cL ?_
    refine ax ?_
    refine ak.nil ?_
    obtain rfl:=aG h
    exact dO () 0
  ·refine ag.exit ?_
   refine ae.exit ?_
   obtain rfl:=aG h
   exact c6 () 0
 ·clear al
  rcases ay with ay | ay
  ·simp only [Sum.elim_inl] at h
   refine ae.dD ?_
   refine ae.next ?_
   refine aA ?_
   refine aH ?_
   refine aJ ?_
   refine ag.ret ?_
   obtain rfl:=aG h
   exact c3
  ·simp only [Sum.elim_inr] at h
   refine ae.dQ ?_
   refine ae.ret ?_
   obtain rfl:=aG h
   exact c3
theorem Qi {aa:List aU} {ai:aU} {aR:aU→aU→Option Int} {r:Int × Bool} (h:xp aa ai aR=some r):bn Tryz.prog 274 [I.of (aa),I.of (ai),I.rk Tryz.prog aR] (I.eI [I.of (r.1),I.of (r.2)]):=by
 unfold xp at h
 refine bn.of Tryz.func274 rfl Tryz.ntmps274 rfl fun W A=> ?_
 refine aA ?_
 refine ca fun bf=> ?_
 refine aH ?_
 refine aH ?_
 refine bE ?_
 refine ax ?_
 refine aY (er Tryz.underlying38) ?_
 refine aH ?_
 refine bE ?_
 refine ax ?_
 refine aH ?_
 refine aH ?_
 refine bx ?_
 refine ag.block ?_
 obtain⟨ay,al,h⟩:=ar h
 refine eD (γ:=Unit) (δ:=Unit) al [0,1,2,4,6,7,8] (fun s1 au=> [(9,I.of (s1.1)),(10,I.of (s1.2))]) (fun s1 au=> []) (fun az=>Exit.exit 0) (fun az au=> [(9,I.of (az.1)),(10,I.of (az.2.1)),(17,I.of (az.2.2))]) (fun az au=> []) () (fun s1 r h au=> ?_) fun au=> ?_
 ·clear al
  refine ag.seq ?_
  refine aA ?_
  refine ax ?_
  refine ax ?_
  refine a5 dd ?_
  refine aJ ?_
  refine b0 h (fun h=>?_) fun h=>?_
  ·refine cn ?_
   refine ag.block ?_
   refine aA ?_
   refine ax ?_
   refine ax ?_
   refine a5 cL ?_
   refine aY (ic Tryz.underlying3 Tryz.underlying130) ?_
   refine bh (tI (ad rfl) (gJ 1 rfl)) ?_
   refine aY (U1 Tryz.underlying130 Tryz.underlying3) ?_
   refine aH ?_
   refine bx ?_
   obtain⟨aV,b4,h⟩:=ar h
   obtain⟨aD,bp,h⟩:=ar h
   refine ag.draw mixed 8 [some 24,some 25,some 26,some 27,some 28,some 29,some 30,some 31] [[],[],[],[1,2],[3],[],[0,4,5],[6]] [.val _,.val _,.val _,.val _,.val _,.val _,.val _,.val _] [false,false,false,false,false,false,false,false] (by kernel_rfl) rfl rfl rfl (fun c5=>⟨cw,cw,cw,j0 b4 Tryz.underlying38 c9,H1 (cK c9),fz 0 c9,df fun aC av=>Cj (ad rfl) (ad rfl) (ad rfl) bp,lq dd,trivial⟩) fun c5=> ?_
   refine aJ ?_
   obtain⟨bJ,cB,h⟩:=ar h
   refine hQ (γ:=Unit) [0,1,2,4,6,7,8,11,17,31] (fun aT=> [(9,I.of (bJ.1)),(10,I.of (bJ.2))]) (fun aT=> []) (fun aT=> ?_) (fun hm ao=> ?_) fun hm ao=> ?_
   ·clear cB
    refine ae.db ?_
    obtain rfl:=aG h
    exact dO () 0
   ·have h:=gK ao cB
    refine ag.b1 ?_
    refine ax ?_
    obtain⟨bN,dg,h⟩:=ar h
    refine dm dg (cL (ad rfl) (bF 1)) ?_
    refine aH ?_
    refine ak.nil ?_
    obtain rfl:=aG h
    exact dj 0 (hm ())
   ·have h:=gL ao cB
    refine ag.b1 ?_
    refine ax ?_
    refine aH ?_
    refine ak.nil ?_
    obtain rfl:=aG h
    exact dj 0 (hm ())
  ·refine ag.exit ?_
   refine ae.exit ?_
   obtain rfl:=aG h
   exact c6 () 0
 ·clear al
  refine ae.dD ?_
  refine ae.next ?_
  refine ag.seq ?_
  refine lI [0,1,2,4,7,8,9,10,17] ?_
  obtain⟨bu,cD,h⟩:=ar h
  obtain⟨aM,b9,h⟩:=ar h
  refine ag.draw mixed 15 [some 35,some 36,some 37,some 38,some 39,some 40,some 41,some 42,some 43,some 44,some 45,some 46,some 47,some 48,some 6] [[],[],[],[1,2],[3],[4],[4],[4],[4,6,7],[4,8],[4],[4,5,9,10],[4,11],[4,12],[0]] [.val _,.val _,.val _,.val _,.val _,.val _,.val _,.val _,.val _,.val _,.val _,.val _,.val _,.val _,.val _] [false,false,false,false,false,false,false,false,false,false,false,false,false,false,false] (by kernel_rfl) rfl rfl rfl (fun iz=>⟨cw,cw,cw,lq dd,cw,ew fun aC av=>fun hb=>cN (ad rfl),ew fun aC av=>fun hb=>cN (ad rfl),ew fun aC av=>fun hb=>cN (ad rfl),ew fun aC av=>fun hb=>oZ (k:=bu) Tryz.underlying38 c9 (ct rfl hb) (ct rfl hb) (bC (fE cD hb)),ew fun aC av=>fun hb=>cK c9 (ct rfl hb),ew fun aC av=>fun hb=>fb (i:=0) (aI.id aU) (r:=ai) c9 (ad rfl) (av _ _ rfl rfl) rfl rfl,ew fun aC av=>fun hb=>Cj (ct rfl hb) (ct rfl hb) (ct rfl hb) (fE b9 hb),ew fun aC av=>fun hb=>fW (ct rfl hb) (bF 0),df fun aC av=>oh (ad rfl) (ad rfl) (fun h=>h),I2,trivial⟩) fun iz=> ?_
  refine aH ?_
  refine aJ ?_
  refine ag.ret ?_
  obtain rfl:=aG h
  exact pa
theorem JR {aa:Int} {r:Bool} (h:x2 aa=some r):bn Tryz.prog 126 [I.of (aa)] (I.of (r)):=by
 unfold x2 at h
 refine bn.of Tryz.func126 rfl Tryz.ntmps126 rfl fun W A=> ?_
 refine aA ?_
 refine aH ?_
 refine bE ?_
 refine ax ?_
 refine ax ?_
 refine a5 mY ?_
 refine aH ?_
 refine aJ ?_
 refine ag.ret ?_
 obtain rfl:=aG h
 exact c3
theorem Jz {aa:List cJ} {ai:cJ→Option Bool} {r:Int} (h:vj aa ai=some r):bn Tryz.prog 146 [I.of (aa),I.o9 Tryz.prog ai] (I.of (r)):=by
 unfold vj at h
 refine bn.of Tryz.func146 rfl Tryz.ntmps146 rfl fun W A=> ?_
 refine aA ?_
 refine aH ?_
 refine bx ?_
 refine aA ?_
 refine ax ?_
 refine aY (er Tryz.underlying62) ?_
 refine ax ?_
 refine aJ ?_
 refine ag.block ?_
 obtain⟨ay,al,h⟩:=ar h
 refine eD (γ:=Unit) (δ:=Unit) al [0,1,7] (fun s1 au=> [(4,I.of (0:Int)),(8,I.of (s1))]) (fun s1 au=> []) (fun az=>Sum.elim (fun az=>Exit.exit 0) (fun az=>Exit.ret) az) (fun az au=>Sum.elim (fun az=> [(4,I.of (0:Int)),(8,I.of (az.1)),(9,I.of (az.2))]) (fun az=> [(4,I.of (az.1)),(5,I.of (az.2.1)),(8,I.of (az.2.2.1)),(9,I.of (az.2.2.2.1)),(16,I.of (az.2.2.2.2))]) az) (fun az au=>Sum.elim (fun az=> []) (fun az=> []) az) () (fun s1 r h au=> ?_) fun au=> ?_
 ·clear al
  refine aA ?_
  refine a5 dd ?_
  refine bx ?_
  refine b0 h (fun h=>?_) fun h=>?_
  ·refine cn ?_
   refine ag.seq ?_
   refine ag.block ?_
   refine aA ?_
   refine ax ?_
   refine aH ?_
   refine bE ?_
   refine ax ?_
   refine ax ?_
   refine ax ?_
   obtain⟨aV,b4,h⟩:=ar h
   refine fq b4 Tryz.underlying62 hP ?_
   refine aY (cK hP) ?_
   obtain⟨aD,bp,h⟩:=ar h
   refine bh (v3 (ad rfl) (ad rfl) bp) ?_
   refine aJ ?_
   refine b0 h (fun h=>?_) fun h=>?_
   ·refine aA ?_
    refine ax ?_
    refine aH ?_
    refine aJ ?_
    refine ag.ret ?_
    refine ae.dQ ?_
    refine ae.ret ?_
    obtain rfl:=aG h
    exact c6 () 0
   ·refine ag.skip ?_
    refine ae.db ?_
    refine ae.next ?_
    refine ag.b1 ?_
    refine a5 cL ?_
    refine ax ?_
    refine ak.nil ?_
    obtain rfl:=aG h
    exact dO () 0
  ·refine ag.exit ?_
   refine ae.exit ?_
   obtain rfl:=aG h
   exact c6 () 0
 ·clear al
  rcases ay with ay | ay
  ·simp only [Sum.elim_inl] at h
   refine ae.dD ?_
   refine ae.next ?_
   refine aA ?_
   refine aH ?_
   refine aJ ?_
   refine ag.ret ?_
   obtain rfl:=aG h
   exact c3
  ·simp only [Sum.elim_inr] at h
   refine ae.dQ ?_
   refine ae.ret ?_
   obtain rfl:=aG h
   exact c3
theorem Rc {aa:cJ} {r:Bool} (h:EL aa=some r):bn Tryz.prog 207 [I.of (aa)] (I.of (r)):=by
 unfold EL at h
 refine bn.of Tryz.func207 rfl Tryz.ntmps207 rfl fun W A=> ?_
 refine aA ?_
 refine ca fun bf=> ?_
 refine aH ?_
 refine bE ?_
 refine aY (a2 od) ?_
 refine b5 0 jR bM ?_
 refine a5 fW ?_
 refine aH ?_
 refine aJ ?_
 refine ag.ret ?_
 obtain rfl:=aG h
 exact c3
end Go.Proofs.YtmnggbjcnoffeaaGreat
namespace Go.Proofs.YtmnggbjcnoffeaaGreat
open Go Gv
set_option linter.unusedVariables false
set_option linter.unusedSimpArgs false
set_option maxRecDepth 100000
set_option maxHeartbeats 2000000
theorem QH {aa:aU} {ai:Int} {r:Bool} (h:Bq aa ai=some r):bn Tryz.prog 111 [I.of (aa),I.ptr ai] (I.of (r)):=by
 unfold Bq at h
 refine bn.of Tryz.func111 rfl Tryz.ntmps111 rfl fun W A=> ?_
 refine aA ?_
 refine ca fun bf=> ?_
 refine aH ?_
 refine bE ?_
 refine aY (a2 km) ?_
 refine b5 0 ji bM ?_
 refine aY (cK bM) ?_
 refine a5 fW ?_
 refine aH ?_
 refine aJ ?_
 refine ag.ret ?_
 obtain rfl:=aG h
 exact c3
theorem QI {aa:cJ} {r:Bool} (h:Br aa=some r):bn Tryz.prog 113 [I.of (aa)] (I.of (r)):=by
 unfold Br at h
 refine bn.of Tryz.func113 rfl Tryz.ntmps113 rfl fun W A=> ?_
 refine aA ?_
 refine ca fun bf=> ?_
 refine aH ?_
 refine bE ?_
 refine aY (a2 od) ?_
 refine b5 0 jR bM ?_
 refine a5 fW ?_
 refine aH ?_
 refine aJ ?_
 refine ag.ret ?_
 obtain rfl:=aG h
 exact c3
theorem Rm {aa:a0} {ai:List aU} {aR:aU} {r:(List aU) × a0 × aU} (h:EN aa ai aR=some r):bn Tryz.prog 115 [I.of (aa),I.of (ai),I.of (aR)] (I.hy 149 [I.ptr r.1,I.ptr r.2.1,I.ptr r.2.2]):=by
 unfold EN at h
 refine bn.of Tryz.func115 rfl Tryz.ntmps115 rfl fun W A=> ?_
 refine aA ?_
 refine ca fun bf=> ?_
 refine ca fun bw=> ?_
 refine ca fun cz=> ?_
 refine bh (eC (F4 .nilFunc)) ?_
 refine bE ?_
 refine ak.share (α:=List aU) 1 4 rfl rfl ?_
 refine ak.share (α:=a0) 2 3 rfl rfl ?_
 refine ak.share (α:=aU) 0 5 rfl rfl ?_
 refine bh (Ni (f:=149) (τs:= [I.ptr ai,I.ptr aa,I.ptr aR]) ⟨ad rfl,ad rfl,ad rfl,trivial⟩) ?_
 refine aH ?_
 refine aJ ?_
 refine ag.ret ?_
 obtain rfl:=aG h
 exact c3
theorem x3 {aa:Vector aw 4} {ai:Vector aw 4} {aR:aw→aw→Option aw} {r:(Vector aw 4)} (h:qp aa ai aR=some r):bn Tryz.prog 192 [I.of (aa),I.of (ai),I.rk Tryz.prog aR] (I.of (r)):=by
 unfold qp at h
 refine bn.of Tryz.func192 rfl Tryz.ntmps192 rfl fun W A=> ?_
 refine aA ?_
 refine ca fun bf=> ?_
 refine ca fun bw=> ?_
 refine ch iV fun cz=> ?_
 refine bx ?_
 refine aA ?_
 refine ax ?_
 refine aJ ?_
 refine ag.block ?_
 obtain⟨ay,al,h⟩:=ar h
 refine eD (γ:=Unit) (δ:=Unit) al [0,1,2,3,4,6] (fun s1 au=> [(8,I.of (s1.1))]) (fun s1 au=> [(2,⟨some bf,.var (s1.2:Vector aw 4)⟩)]) (fun az=>Exit.exit 0) (fun az au=> [(8,I.of (az.1)),(9,I.of (az.2.1))]) (fun az au=> [(2,⟨some bf,.var (az.2.2:Vector aw 4)⟩)]) () (fun s1 r h au=> ?_) fun au=> ?_
 ·clear al
  refine aA ?_
  refine a5 dd ?_
  refine bx ?_
  refine b0 h (fun h=>?_) fun h=>?_
  ·refine cn ?_
   refine ag.seq ?_
   refine ag.block ?_
   refine aA ?_
   refine ax ?_
   refine aH ?_
   refine aJ ?_
   obtain⟨aV,b4,h⟩:=ar h
   obtain⟨bu,cD,h⟩:=ar h
   obtain⟨aD,bp,h⟩:=ar h
   obtain⟨cb,eu,h⟩:=ar h
   refine ag.draw mixed 10 [some 11,some 12,some 13,some 14,some 15,some 16,some 17,some 18,some 19,some 20] [[],[],[],[2],[3],[],[5],[6],[1,4,7],[0]] [.val _,.val _,.val _,.val _,.val _,.val _,.val _,.val _,.val _,.val _] [false,false,false,false,false,false,false,false,false,false] (by kernel_rfl) rfl rfl rfl (fun c5=>⟨cw,cw,cw,df fun aC av=>dc (k:=aV) gq (ad rfl) (ad rfl) (bC b4),dN 2 ((aI.id (Vector aw 4)).comp (aI.idx (α:=aw) 4 aV (bC b4).1)) bT,cw,df fun aC av=>dc (k:=bu) gq (ad rfl) (ad rfl) (bC cD),dN 1 ((aI.id (Vector aw 4)).comp (aI.idx (α:=aw) 4 bu (bC cD).1)) bT,df fun aC av=>Cj (ad rfl) (ad rfl) (ad rfl) bp,df fun aC av=>dc (k:=cb) gq (ad rfl) (ad rfl) (bC eu),trivial⟩) fun c5=> ?_
   refine jt 2 ((aI.id (Vector aw 4)).comp (aI.idx (α:=aw) 4 cb (bC eu).1)) bT ?_
   refine ak.nil ?_
   refine ae.db ?_
   refine ae.next ?_
   refine ag.b1 ?_
   refine a5 cL ?_
   refine ax ?_
   refine ak.nil ?_
   obtain rfl:=aG h
   exact dO () 0
  ·refine ag.exit ?_
   refine ae.exit ?_
   obtain rfl:=aG h
   exact c6 () 0
 ·clear al
  refine ae.dD ?_
  refine ae.next ?_
  refine aA ?_
  refine bY 2 dR ?_
  refine bS 0 dR ?_
  refine aJ ?_
  refine ag.ret ?_
  obtain rfl:=aG h
  exact ae.gh rfl (dF 0 dR)
theorem qu {aa:aw} {ai:aw} {r:aw} (h:nm aa ai=some r):bn Tryz.prog 167 [I.of (aa),I.of (ai)] (I.of (r)):=by
 unfold nm at h
 refine bn.of Tryz.func167 rfl Tryz.ntmps167 rfl fun W A=> ?_
 refine aA ?_
 refine ca fun bf=> ?_
 refine ca fun bw=> ?_
 refine ch dY fun cz=> ?_
 refine bE ?_
 refine aY (a2 mm) ?_
 refine b5 2 h9 fx ?_
 refine aY (a2 mm) ?_
 refine b5 1 h9 fx ?_
 refine a5 sh ?_
 refine aY (a2 jD) ?_
 refine b5 2 eO fx ?_
 refine aY (a2 jD) ?_
 refine b5 1 eO fx ?_
 refine a5 sh ?_
 obtain⟨bN,dg,h⟩:=ar h
 refine dm dg (cU (b:= { dS:=aa.dS ||| ai.dS,b7:=aa.b7 ||| ai.b7:aw }) rfl hv dY (.cons h9 rfl (ad rfl) rfl (.cons eO rfl (ad rfl) rfl (.nil)))) ?_
 refine bS 0 bT ?_
 refine aJ ?_
 refine ag.ret ?_
 obtain rfl:=aG h
 exact ae.gh rfl (dF 0 bT)
theorem Jx {aa:List a1} {ai:a1→Option Bool} {r:Int} (h:vi aa ai=some r):bn Tryz.prog 191 [I.of (aa),I.o9 Tryz.prog ai] (I.of (r)):=by
 unfold vi at h
 refine bn.of Tryz.func191 rfl Tryz.ntmps191 rfl fun W A=> ?_
 refine aA ?_
 refine aH ?_
 refine bx ?_
 refine aA ?_
 refine ax ?_
 refine aY (er Tryz.underlying156) ?_
 refine ax ?_
 refine aJ ?_
 refine ag.block ?_
 obtain⟨ay,al,h⟩:=ar h
 refine eD (γ:=Unit) (δ:=Unit) al [0,1,7] (fun s1 au=> [(4,I.of (0:Int)),(8,I.of (s1))]) (fun s1 au=> []) (fun az=>Sum.elim (fun az=>Exit.exit 0) (fun az=>Exit.ret) az) (fun az au=>Sum.elim (fun az=> [(4,I.of (0:Int)),(8,I.of (az.1)),(9,I.of (az.2))]) (fun az=> [(4,I.of (az.1)),(5,I.of (az.2.1)),(8,I.of (az.2.2.1)),(9,I.of (az.2.2.2.1)),(16,I.of (az.2.2.2.2))]) az) (fun az au=>Sum.elim (fun az=> []) (fun az=> []) az) () (fun s1 r h au=> ?_) fun au=> ?_
 ·clear al
  refine aA ?_
  refine a5 dd ?_
  refine bx ?_
  refine b0 h (fun h=>?_) fun h=>?_
  ·refine cn ?_
   refine ag.seq ?_
   refine ag.block ?_
   refine aA ?_
   refine ax ?_
   refine aH ?_
   refine bE ?_
   refine ax ?_
   refine ax ?_
   refine ax ?_
   obtain⟨aV,b4,h⟩:=ar h
   refine fq b4 Tryz.underlying156 cY ?_
   refine aY (cK cY) ?_
   obtain⟨aD,bp,h⟩:=ar h
   refine bh (v3 (ad rfl) (ad rfl) bp) ?_
   refine aJ ?_
   refine b0 h (fun h=>?_) fun h=>?_
   ·refine aA ?_
    refine ax ?_
    refine aH ?_
    refine aJ ?_
    refine ag.ret ?_
    refine ae.dQ ?_
    refine ae.ret ?_
    obtain rfl:=aG h
    exact c6 () 0
   ·refine ag.skip ?_
    refine ae.db ?_
    refine ae.next ?_
    refine ag.b1 ?_
    refine a5 cL ?_
    refine ax ?_
    refine ak.nil ?_
    obtain rfl:=aG h
    exact dO () 0
  ·refine ag.exit ?_
   refine ae.exit ?_
   obtain rfl:=aG h
   exact c6 () 0
 ·clear al
  rcases ay with ay | ay
  ·simp only [Sum.elim_inl] at h
   refine ae.dD ?_
   refine ae.next ?_
   refine aA ?_
   refine aH ?_
   refine aJ ?_
   refine ag.ret ?_
   obtain rfl:=aG h
   exact c3
  ·simp only [Sum.elim_inr] at h
   refine ae.dQ ?_
   refine ae.ret ?_
   obtain rfl:=aG h
   exact c3
theorem Qt {aa:List a1} {r:(List a1)} (h:xw aa=some r):cG Tryz.prog 152 [I.of (aa)] [] (δ:=(Option Nat × Nat)) (fun d=>I.eq (aZ d.1 (r).length d.2)) (fun d=> [⟨d.1,.row 155 (r:List a1) d.2⟩]):=by
 unfold xw at h
 refine cG.of Tryz.func152 rfl Tryz.ntmps152 rfl fun W A=> ?_
 refine aA ?_
 refine ak.own (α:=a1) 155 ?_
 refine bh (eC pI) ?_
 refine bx ?_
 refine aA ?_
 refine ax ?_
 refine bh (GI Tryz.underlying156 (ad rfl)) ?_
 refine aJ ?_
 refine ag.GJ (ad rfl) (fun an=> ?_) ?_
 ·subst an; replace h:=Fa h; subst h
  have h:some ([]:List a1)=some []:=rfl
  refine aA ?_
  refine ak.own (α:=a1) 155 ?_
  refine bh (eC pI) ?_
  refine aJ ?_
  refine ag.ret ?_
  refine ae.ret ?_
  refine ae.cd 0 rfl ?_
  replace h:=aG h
  clear h
  exact k6 (none,0)
 ·refine cn ?_
  refine aA ?_
  refine ak.pV (α:=a1) (r:=([]:List a1)) Tryz.underlying156 cY hX rfl rfl (.nil) rfl fun gE=> ?_
  refine ax ?_
  obtain⟨aD,bp,h⟩:=ar h
  refine jv 0 Tryz.underlying156 cY hX bp fun kq e2=> ?_
  refine aH ?_
  refine aJ ?_
  refine ag.ret ?_
  refine ae.cd 0 rfl ?_
  obtain rfl:=aG h
  exact k6 (kq,e2)
theorem Ki {aa:Int} {r:Int × Int} (h:vO aa=some r):bn Tryz.prog 164 [I.of (aa)] (I.eI [I.of (r.1),I.of (r.2)]):=by
 unfold vO at h
 refine bn.of Tryz.func164 rfl Tryz.ntmps164 rfl fun W A=> ?_
 refine aA ?_
 refine aH ?_
 refine aH ?_
 refine bE ?_
 refine ax ?_
 obtain⟨aD,bp,h⟩:=ar h
 refine bh (Nj (ad rfl) (bF 128) (KU bp)) ?_
 refine ax ?_
 obtain⟨aM,b9,h⟩:=ar h
 refine bh (ze (ad rfl) (bF 128) (yC b9)) ?_
 refine a5 jn ?_
 refine aH ?_
 refine aH ?_
 refine aJ ?_
 refine ag.ret ?_
 obtain rfl:=aG h
 exact pa
theorem SE {aa:BitVec 64} {r:aw} (h:E6 aa=some r):bn Tryz.prog 166 [I.of (aa)] (I.of (r)):=by
 unfold E6 at h
 refine bn.of Tryz.func166 rfl Tryz.ntmps166 rfl fun W A=> ?_
 refine aA ?_
 refine ch dY fun bf=> ?_
 refine bE ?_
 refine ax ?_
 refine hH hv dY ({ (default:aw) with b7:=aa } :aw) (iY eO .nil) ?_
 refine bS 0 bT ?_
 refine aJ ?_
 refine ag.ret ?_
 obtain rfl:=aG h
 exact ae.gh rfl (dF 0 bT)
end Go.Proofs.YtmnggbjcnoffeaaGreat
namespace Go.Proofs.YtmnggbjcnoffeaaGreat
open Go Gv
set_option linter.unusedVariables false
set_option linter.unusedSimpArgs false
set_option maxRecDepth 100000
set_option maxHeartbeats 2000000
theorem Qq {aa:List fj} {ai:fj→Option Bool} {r:Int} (h:xv aa ai=some r):bn Tryz.prog 120 [I.of (aa),I.o9 Tryz.prog ai] (I.of (r)):=by
 unfold xv at h
 refine bn.of Tryz.func120 rfl Tryz.ntmps120 rfl fun W A=> ?_
 refine aA ?_
 refine aH ?_
 refine bx ?_
 refine aA ?_
 refine ax ?_
 refine aY (er Tryz.underlying24) ?_
 refine ax ?_
 refine aJ ?_
 refine ag.block ?_
 obtain⟨ay,al,h⟩:=ar h
 refine eD (γ:=Unit) (δ:=Unit) al [0,1,7] (fun s1 au=> [(4,I.of (0:Int)),(8,I.of (s1))]) (fun s1 au=> []) (fun az=>Sum.elim (fun az=>Exit.exit 0) (fun az=>Exit.ret) az) (fun az au=>Sum.elim (fun az=> [(4,I.of (0:Int)),(8,I.of (az.1)),(9,I.of (az.2))]) (fun az=> [(4,I.of (az.1)),(5,I.of (az.2.1)),(8,I.of (az.2.2.1)),(9,I.of (az.2.2.2.1)),(16,I.of (az.2.2.2.2))]) az) (fun az au=>Sum.elim (fun az=> []) (fun az=> []) az) () (fun s1 r h au=> ?_) fun au=> ?_
 ·clear al
  refine aA ?_
  refine a5 dd ?_
  refine bx ?_
  refine b0 h (fun h=>?_) fun h=>?_
  ·refine cn ?_
   refine ag.seq ?_
   refine ag.block ?_
   refine aA ?_
   refine ax ?_
   refine aH ?_
   refine bE ?_
   refine ax ?_
   refine ax ?_
   refine ax ?_
   obtain⟨aV,b4,h⟩:=ar h
   refine fq b4 Tryz.underlying24 oj ?_
   refine aY (cK oj) ?_
   obtain⟨aD,bp,h⟩:=ar h
   refine bh (v3 (ad rfl) (ad rfl) bp) ?_
   refine aJ ?_
   refine b0 h (fun h=>?_) fun h=>?_
   ·refine aA ?_
    refine ax ?_
    refine aH ?_
    refine aJ ?_
    refine ag.ret ?_
    refine ae.dQ ?_
    refine ae.ret ?_
    obtain rfl:=aG h
    exact c6 () 0
   ·refine ag.skip ?_
    refine ae.db ?_
    refine ae.next ?_
    refine ag.b1 ?_
    refine a5 cL ?_
    refine ax ?_
    refine ak.nil ?_
    obtain rfl:=aG h
    exact dO () 0
  ·refine ag.exit ?_
   refine ae.exit ?_
   obtain rfl:=aG h
   exact c6 () 0
 ·clear al
  rcases ay with ay | ay
  ·simp only [Sum.elim_inl] at h
   refine ae.dD ?_
   refine ae.next ?_
   refine aA ?_
   refine aH ?_
   refine aJ ?_
   refine ag.ret ?_
   obtain rfl:=aG h
   exact c3
  ·simp only [Sum.elim_inr] at h
   refine ae.dQ ?_
   refine ae.ret ?_
   obtain rfl:=aG h
   exact c3
theorem Rg {aa:a0} {r:dM} (h:EM aa=some r):cG Tryz.prog 86 [I.of (aa)] [] (δ:=Nat × (Option Nat × Nat)) (fun d=>I.eq (.pointer (some ⟨d.1,0,none⟩))) (fun d=> [⟨some d.1,.cC (({ r with ef:= [] } :dM):dM) [(10,aZ d.2.1 (r.ef).length d.2.2)]⟩,⟨d.2.1,.row 52 (r.ef:List aU) d.2.2⟩]):=by
 unfold EM at h
 refine cG.of Tryz.func86 rfl Tryz.ntmps86 rfl fun W A=> ?_
 refine aA ?_
 refine ca fun bf=> ?_
 refine bh (eC (r2)) ?_
 refine bE ?_
 refine bY 0 eP ?_
 refine bh (pH (b:=({ (default:dM) with oR:=aa } :dM)) [10] Tz rfl VM VN (.cons En rfl (ad rfl) rfl (by rfl) (.nil))) ?_
 refine ak.own (α:=aU) 52 ?_
 refine ak.X8 (ad rfl) rfl fun bw=> ?_
 refine aH ?_
 refine aJ ?_
 refine ag.ret ?_
 refine ae.HN (γ:=aU) (b':=(({ ({ (default:dM) with oR:=aa } :dM) with ef:= [] } :dM):dM)) ((aI.id dM).comp xR) 0 0 rfl rfl rfl ?_
 refine ae.cd 1 rfl ?_
 refine ae.cd 1 rfl ?_
 obtain rfl:=aG h
 exact k6 (bw,(none,0))
theorem QQ {aa:bI} {r:Bool} (h:xJ aa=some r):bn Tryz.prog 26 [I.ptr aa] (I.of (r)):=by
 unfold xJ at h
 refine bn.of Tryz.func26 rfl Tryz.ntmps26 rfl fun W A=> ?_
 refine aA ?_
 refine aH ?_
 refine bx ?_
 refine ag.draw mixed 10 [some 3,some 4,some 5,some 6,some 7,some 8,some 9,some 10,some 11,some 12] [[],[0],[1],[2],[],[4],[5],[6],[7],[3,8]] [.val _,.val _,.val _,.val _,.val _,.val _,.val _,.val _,.val _,.val _] [false,false,false,false,false,false,false,false,false,false] (by kernel_rfl) rfl rfl rfl (fun c5=>⟨cw,H1 y3,m7 xN yP,H1 (cK bM),cw,H1 y3,m7 BG FD,H1 (cK Dg),H1 (er Tryz.underlying22),lq dd,trivial⟩) fun c5=> ?_
 refine aH ?_
 refine aJ ?_
 refine ag.ret ?_
 obtain rfl:=aG h
 exact c3
theorem RP {aa:a0} {ai:Int} {r:Int} (h:yf aa ai=some r):bn Tryz.prog 108 [I.of (aa),I.of (ai)] (I.of (r)):=by
 unfold yf at h
 refine bn.of Tryz.func108 rfl Tryz.ntmps108 rfl fun W A=> ?_
 refine aA ?_
 refine ca fun bf=> ?_
 refine aH ?_
 refine bx ?_
 refine aA ?_
 refine aY (a2 tU) ?_
 refine b5 0 tl sE ?_
 refine aY (er Tryz.underlying24) ?_
 refine ax ?_
 refine aJ ?_
 refine ag.block ?_
 obtain⟨ay,al,h⟩:=ar h
 refine eD (γ:=Unit) (δ:=Unit) al [0,1,2,8,9] (fun s1 au=> [(4,I.of (0:Int)),(10,I.of (s1))]) (fun s1 au=> []) (fun az=>Sum.elim (fun az=>Exit.exit 0) (fun az=>Exit.ret) az) (fun az au=>Sum.elim (fun az=> [(4,I.of (0:Int)),(10,I.of (az.1)),(11,I.of (az.2))]) (fun az=> [(4,I.of (az.1)),(10,I.of (az.2.1)),(11,I.of (az.2.2.1)),(17,I.of (az.2.2.2))]) az) (fun az au=>Sum.elim (fun az=> []) (fun az=> []) az) () (fun s1 r h au=> ?_) fun au=> ?_
 ·clear al
  refine aA ?_
  refine a5 dd ?_
  refine bx ?_
  refine b0 h (fun h=>?_) fun h=>?_
  ·refine cn ?_
   refine ag.seq ?_
   refine ag.block ?_
   refine aA ?_
   obtain⟨aV,b4,h⟩:=ar h
   refine fq b4 Tryz.underlying24 oj ?_
   refine aY (cK oj) ?_
   refine ch oi fun bw=> ?_
   refine bS 0 oj ?_
   refine bE ?_
   refine aY (a2 FE) ?_
   refine b5 0 n4 bM ?_
   refine ax ?_
   refine a5 fW ?_
   refine aJ ?_
   refine b0 h (fun h=>?_) fun h=>?_
   ·refine aA ?_
    refine aY (a2 Cs) ?_
    refine b5 0 ni bM ?_
    refine aH ?_
    refine aJ ?_
    refine ag.ret ?_
    refine ae.dQ ?_
    refine ae.ret ?_
    obtain rfl:=aG h
    exact c6 () 1
   ·refine ag.skip ?_
    refine ae.db ?_
    refine ae.next ?_
    refine ag.b1 ?_
    refine a5 cL ?_
    refine ax ?_
    refine ak.nil ?_
    obtain rfl:=aG h
    exact dO () 1
  ·refine ag.exit ?_
   refine ae.exit ?_
   obtain rfl:=aG h
   exact c6 () 0
 ·clear al
  rcases ay with ay | ay
  ·simp only [Sum.elim_inl] at h
   refine ae.dD ?_
   refine ae.next ?_
   refine aA ?_
   refine aH ?_
   refine aJ ?_
   refine ag.ret ?_
   obtain rfl:=aG h
   exact c3
  ·simp only [Sum.elim_inr] at h
   refine ae.dQ ?_
   refine ae.ret ?_
   obtain rfl:=aG h
   exact c3
theorem EX {aa:aw} {ai:Int} {r:aw} (h:tA aa ai=some r):bn Tryz.prog 46 [I.of (aa),I.of (ai)] (I.of (r)):=by
 unfold tA at h
 refine bn.of Tryz.func46 rfl Tryz.ntmps46 rfl fun W A=> ?_
 refine aA ?_
 refine ca fun bf=> ?_
 refine ch dY fun bw=> ?_
 refine bx ?_
 refine ag.block ?_
 refine aA ?_
 refine ax ?_
 refine a5 lZ ?_
 refine aH ?_
 refine aJ ?_
 refine b0 h (fun h=>?_) fun h=>?_
 ·refine aA ?_
  refine bY 1 bT ?_
  refine bS 0 bT ?_
  refine aJ ?_
  refine ag.ret ?_
  refine ae.dQ ?_
  refine ae.ret ?_
  obtain rfl:=aG h
  exact ae.gh rfl (dF 0 bT)
 ·refine aA ?_
  refine ax ?_
  refine a5 lZ ?_
  refine aH ?_
  refine aJ ?_
  refine b0 h (fun h=>?_) fun h=>?_
  ·refine aA ?_
   refine aY (a2 mm) ?_
   refine b5 1 h9 fx ?_
   refine ax ?_
   refine a5 jn ?_
   refine aY (ic Tryz.underlying3 Tryz.underlying130) ?_
   refine bh (mQ (gJ 1 rfl) (ad rfl)) ?_
   refine bh (tJ (ad rfl) (gJ 1 rfl)) ?_
   obtain⟨bN,dg,h⟩:=ar h
   refine dm dg (qA (ad rfl) (ad rfl)) ?_
   refine aY (a2 jD) ?_
   refine b5 1 eO fx ?_
   refine hH hv dY { dS:=bN,b7:=aa.b7:aw } (iY h9 (iY eO .nil)) ?_
   refine bS 0 bT ?_
   refine aJ ?_
   refine ag.ret ?_
   refine ae.dQ ?_
   refine ae.ret ?_
   obtain rfl:=aG h
   exact ae.gh rfl (dF 0 bT)
  ·refine aA ?_
   refine ax ?_
   refine a5 zl ?_
   refine aH ?_
   refine aJ ?_
   refine b0 h (fun h=>?_) fun h=>?_
   ·refine aA ?_
    refine hH hv dY (default:aw) .nil ?_
    refine bS 0 bT ?_
    refine aJ ?_
    refine ag.ret ?_
    refine ae.dQ ?_
    refine ae.ret ?_
    obtain rfl:=aG h
    exact ae.gh rfl (dF 0 bT)
   ·refine ag.skip ?_
    refine ae.db ?_
    refine ae.next ?_
    refine aA ?_
    refine aY (a2 jD) ?_
    refine b5 1 eO fx ?_
    refine ax ?_
    refine aY (ic Tryz.underlying3 Tryz.underlying130) ?_
    refine bh (mQ (gJ 1 rfl) (ad rfl)) ?_
    refine bh (tJ (ad rfl) (gJ 1 rfl)) ?_
    refine a5 qA ?_
    obtain⟨c7,gG,h⟩:=ar h
    refine dm gG (cU (b:=({ (default:aw) with b7:=aa.b7 &&& (((1#64) <<< (BitVec.ofInt 64 ai).toNat) - (1#64)) } :aw)) rfl hv dY (.cons eO rfl (ad rfl) rfl (.nil))) ?_
    refine bS 0 bT ?_
    refine aJ ?_
    refine ag.ret ?_
    obtain rfl:=aG h
    exact ae.gh rfl (dF 0 bT)
theorem R6 {aa:Int} {ai:Int} {r:aw} (h:BW aa ai=some r):bn Tryz.prog 109 [I.of (aa),I.of (ai)] (I.of (r)):=by
 unfold BW at h
 refine bn.of Tryz.func109 rfl Tryz.ntmps109 rfl fun W A=> ?_
 refine aA ?_
 refine ch dY fun bf=> ?_
 refine bE ?_
 refine ax ?_
 refine aY (ic Tryz.underlying3 Tryz.underlying130) ?_
 refine bh (mQ (gJ 1 rfl) (ad rfl)) ?_
 refine bh (tJ (ad rfl) (gJ 1 rfl)) ?_
 refine ax ?_
 refine ax ?_
 refine a5 jn ?_
 refine aY (ic Tryz.underlying3 Tryz.underlying130) ?_
 refine bh (mQ (gJ 1 rfl) (ad rfl)) ?_
 refine bh (tJ (ad rfl) (gJ 1 rfl)) ?_
 obtain⟨bN,dg,h⟩:=ar h
 refine dm dg (tJ (ad rfl) (ad rfl)) ?_
 refine hH hv dY ({ (default:aw) with b7:=bN } :aw) (iY eO .nil) ?_
 refine bS 0 bT ?_
 refine aJ ?_
 refine ag.ret ?_
 obtain rfl:=aG h
 exact ae.gh rfl (dF 0 bT)
end Go.Proofs.YtmnggbjcnoffeaaGreat
namespace Go.Proofs.YtmnggbjcnoffeaaGreat
open Go Gv
set_option linter.unusedVariables false
set_option linter.unusedSimpArgs false
set_option maxRecDepth 100000
set_option maxHeartbeats 2000000
theorem Rn {aa:a0} {ai:Int} {r:dL} (h:x1 aa ai=some r):bn Tryz.prog 76 [I.of (aa),I.of (ai)] (I.of (r)):=by
 unfold x1 at h
 refine bn.of Tryz.func76 rfl Tryz.ntmps76 rfl fun W A=> ?_
 refine aA ?_
 refine ca fun bf=> ?_
 refine ch o0 fun bw=> ?_
 refine bx ?_
 refine aA ?_
 refine aY (a2 F9) ?_
 refine b5 1 Er Dh ?_
 refine aY (er Tryz.underlying27) ?_
 refine ax ?_
 refine aJ ?_
 refine ag.block ?_
 obtain⟨ay,al,h⟩:=ar h
 refine eD (γ:=Unit) (δ:=Unit) al [0,1,2,4,8,9] (fun s1 au=> [(10,I.of (s1))]) (fun s1 au=> []) (fun az=>Sum.elim (fun az=>Exit.exit 0) (fun az=>Exit.ret) az) (fun az au=>Sum.elim (fun az=> [(10,I.of (az.1)),(11,I.of (az.2))]) (fun az=> [(10,I.of (az.1)),(11,I.of (az.2.1)),(17,I.of (az.2.2.1))]) az) (fun az au=>Sum.elim (fun az=> []) (fun az=> [(0,⟨some bw,.var (az.2.2.2:dL)⟩)]) az) () (fun s1 r h au=> ?_) fun au=> ?_
 ·clear al
  refine aA ?_
  refine a5 dd ?_
  refine bx ?_
  refine b0 h (fun h=>?_) fun h=>?_
  ·refine cn ?_
   refine ag.seq ?_
   refine ag.block ?_
   refine aA ?_
   obtain⟨aV,b4,h⟩:=ar h
   refine fq b4 Tryz.underlying27 mW ?_
   refine aY (cK mW) ?_
   refine ch o0 fun cz=> ?_
   refine bS 0 mW ?_
   refine bE ?_
   refine aY (a2 LU) ?_
   refine b5 0 rP bM ?_
   refine ax ?_
   refine a5 fW ?_
   refine aJ ?_
   refine b0 h (fun h=>?_) fun h=>?_
   ·refine aA ?_
    refine bY 0 mW ?_
    refine bS 1 mW ?_
    refine aJ ?_
    refine ag.ret ?_
    refine ae.dQ ?_
    refine ae.ret ?_
    obtain rfl:=aG h
    exact c6 () 1
   ·refine ag.skip ?_
    refine ae.db ?_
    refine ae.next ?_
    refine ag.b1 ?_
    refine a5 cL ?_
    refine ax ?_
    refine ak.nil ?_
    obtain rfl:=aG h
    exact dO () 1
  ·refine ag.exit ?_
   refine ae.exit ?_
   obtain rfl:=aG h
   exact c6 () 0
 ·clear al
  rcases ay with ay | ay
  ·simp only [Sum.elim_inl] at h
   refine ae.dD ?_
   refine ae.next ?_
   refine aA ?_
   refine hH uh o0 (default:dL) .nil ?_
   refine bS 0 mW ?_
   refine aJ ?_
   refine ag.ret ?_
   obtain rfl:=aG h
   exact ae.gh rfl (dF 0 mW)
  ·simp only [Sum.elim_inr] at h
   refine ae.dQ ?_
   refine ae.ret ?_
   obtain rfl:=aG h
   exact ae.gh rfl (dF 0 mW)
theorem ES {aa:bL} {r:(Vector aw 4)} (h:tt aa=some r):bn Tryz.prog 232 [I.of (aa)] (I.of (r)):=by
 unfold tt at h
 refine bn.of Tryz.func232 rfl Tryz.ntmps232 rfl fun W A=> ?_
 refine aA ?_
 refine ca fun bf=> ?_
 refine ch iV fun bw=> ?_
 refine bE ?_
 refine ch iV fun cz=> ?_
 refine bx ?_
 refine aA ?_
 refine aY (a2 kY) ?_
 refine b5 2 kh kI ?_
 refine aY (a2 kY) ?_
 refine b5 2 kh kI ?_
 refine aY (er Tryz.underlying47) ?_
 refine a5 uf ?_
 obtain⟨aD,bp,h⟩:=ar h
 refine bh (LQ Tryz.underlying47 gF (ad rfl) .none (.some (ad rfl)) bp) ?_
 refine aY (er Tryz.underlying47) ?_
 refine ax ?_
 refine aJ ?_
 refine ag.block ?_
 obtain⟨ay,al,h⟩:=ar h
 refine eD (γ:=Unit) (δ:=Unit) al [0,1,2,3,12,13] (fun s1 au=> [(14,I.of (s1.1))]) (fun s1 au=> [(0,⟨some cz,.var (s1.2:Vector aw 4)⟩)]) (fun az=>Exit.exit 0) (fun az au=> [(14,I.of (az.1)),(15,I.of (az.2.1))]) (fun az au=> [(0,⟨some cz,.var (az.2.2:Vector aw 4)⟩)]) () (fun s1 r h au=> ?_) fun au=> ?_
 ·clear al
  refine aA ?_
  refine a5 dd ?_
  refine bx ?_
  refine b0 h (fun h=>?_) fun h=>?_
  ·refine cn ?_
   refine ag.seq ?_
   refine ag.block ?_
   refine aA ?_
   refine ax ?_
   obtain⟨aV,b4,h⟩:=ar h
   refine fq b4 Tryz.underlying47 gF ?_
   refine aY (cK gF) ?_
   refine ch l4 fun ff=> ?_
   refine aH ?_
   refine bS 0 gF ?_
   refine aJ ?_
   refine ag.b1 ?_
   refine ax ?_
   refine aY (a2 Gb) ?_
   refine b5 0 qk bT ?_
   obtain⟨bu,cD,h⟩:=ar h
   refine bh (dc (k:=bu) gq (ad rfl) (ad rfl) (bC cD)) ?_
   refine jt 1 ((aI.id (Vector aw 4)).comp (aI.idx (α:=aw) 4 bu (bC cD).1)) bT ?_
   refine ak.nil ?_
   refine ae.db ?_
   refine ae.next ?_
   refine ag.b1 ?_
   refine a5 cL ?_
   refine ax ?_
   refine ak.nil ?_
   obtain rfl:=aG h
   exact dO () 1
  ·refine ag.exit ?_
   refine ae.exit ?_
   obtain rfl:=aG h
   exact c6 () 0
 ·clear al
  refine ae.dD ?_
  refine ae.next ?_
  refine aA ?_
  refine bY 0 dR ?_
  refine bS 1 dR ?_
  refine aJ ?_
  refine ag.ret ?_
  obtain rfl:=aG h
  exact ae.gh rfl (dF 1 dR)
theorem Rh {hp:bg Cell} {aa:Ref} {ai:Vector aw 4} {r:Int × Bool} (h:BN hp aa ai=some r):cG Tryz.prog 231 [I.of (aa),I.of (ai)] ([] ++ bz hp) (δ:=Unit) (fun _=>I.eI [I.of (r.1),I.of (r.2)]) (fun _=> [] ++ bz hp):=by
 unfold BN at h
 refine cG.of Tryz.func231 rfl Tryz.ntmps231 rfl fun W A=> ?_
 refine aA ?_
 refine ca fun bf=> ?_
 refine aH ?_
 refine aH ?_
 refine bx ?_
 refine aA ?_
 refine ax ?_
 refine bh (sa Tryz.underlying163 (ad rfl)) ?_
 refine aJ ?_
 refine b0 h (fun h=>?_) fun h=>?_
 ·refine aA ?_
  refine aH ?_
  refine aH ?_
  refine aJ ?_
  refine ag.ret ?_
  refine ae.ret ?_
  obtain rfl:=aG h
  exact ae.qU () (.cons _ (.refl _)) rfl rfl (gf rfl) (gf rfl)
 ·refine cn ?_
  refine ag.seq ?_
  obtain⟨dT,fY,h⟩:=ar h
  obtain⟨cZ,hz,h⟩:=ar h
  obtain⟨cT,hI,h⟩:=ar h
  obtain⟨dX,iZ,h⟩:=ar h
  obtain⟨bN,dg,h⟩:=ar h
  refine ag.draw mixed 10 [some 11,some 12,some 13,some 14,some 15,some 16,some 10,some 17,some 18,some 6] [[],[0],[1],[2],[],[3,4],[5],[6],[6],[7]] [.val _,.val _,.val _,.val _,.val _,.val _,.val _,.val _,.val _,.val _] [false,false,false,false,false,false,false,false,false,false] (by kernel_rfl) rfl rfl rfl (fun c5=>⟨cw,df fun aC av=>fV (ht (ad rfl) fY),H1 (a2 FG),df fun aC av=>kk ((aI.id mK).comp Bt) (r:=cZ.oY) C0 (ad rfl) (oz (fun i e q=>av i e q rfl) (iH (n:=1) rfl (wk hz) rfl)) rfl rfl,fz 0 dR,df fun aC av=>Fl (r:=bN) Tryz.underlying222 GK h3 (qx (ad rfl) hI) (ad rfl) (oz (fun i e q=>av i e q rfl) (iH (n:=1) rfl (tV iZ) rfl)) (aG dg),cw,sS,sS,I2,trivial⟩) fun c5=> ?_
  refine aH ?_
  refine bE ?_
  refine ax ?_
  refine ax ?_
  refine aH ?_
  refine aH ?_
  refine aJ ?_
  refine ag.ret ?_
  obtain rfl:=aG h
  exact ae.qU () (.cons _ (.refl _)) rfl rfl (gf rfl) (gf rfl)
theorem QB {aa:hr} {ai:Vector aw 4} {r:(Vector aw 4) × aw} (h:Bn aa ai=some r):bn Tryz.prog 241 [I.of (aa),I.of (ai)] (I.eI [I.of (r.1),I.of (r.2)]):=by
 unfold Bn at h
 refine bn.of Tryz.func241 rfl Tryz.ntmps241 rfl fun W A=> ?_
 refine aA ?_
 refine ca fun bf=> ?_
 refine ca fun bw=> ?_
 refine ch zm fun cz=> ?_
 refine ch dY fun ff=> ?_
 refine bE ?_
 refine aY (a2 Ct) ?_
 refine b5 3 xy bM ?_
 obtain⟨aV,b4,h⟩:=ar h
 refine bh (dc (k:=aV) gq (ad rfl) (ad rfl) (bC b4)) ?_
 refine b5 2 ((aI.id (Vector aw 4)).comp (aI.idx (α:=aw) 4 aV (bC b4).1)) bT ?_
 refine ch dY fun nd=> ?_
 refine bS 0 bT ?_
 refine bE ?_
 refine aY (a2 Ct) ?_
 refine b5 4 xy bM ?_
 refine hH hv dY (default:aw) .nil ?_
 obtain⟨bu,cD,h⟩:=ar h
 refine bh (dc (k:=bu) gq (ad rfl) (ad rfl) (bC cD)) ?_
 refine jt 3 ((aI.id (Vector aw 4)).comp (aI.idx (α:=aw) 4 bu (bC cD).1)) bT ?_
 refine bx ?_
 refine ag.draw mixed 3 [some 15,some 16,none] [[],[],[0]] [.val _,.val _,.jJ 2 (.var ((cq ai bu (default:aw)):Vector aw 4))] [false,false,true] (by kernel_rfl) rfl rfl rfl (fun c5=>⟨fz 3 dR,fz 0 bT,⟨_,_,rfl,fun aC av=>oU (i:=2) (aI.id (Vector aw 4)) (v:=((cq ai bu (default:aw)):Vector aw 4)) (b':=((cq ai bu (default:aw)):Vector aw 4)) l0 (ad rfl) (ad rfl) (av _ _ rfl) rfl rfl⟩,trivial⟩) fun c5=> ?_
 refine bS 1 bT ?_
 refine aJ ?_
 refine ag.ret ?_
 obtain rfl:=aG h
 exact ae.mr rfl (dF 2 l0) (dF 1 bT)
theorem J0 {aa:Int} {r:Int} (h:vI aa=some r):bn Tryz.prog 205 [I.of (aa)] (I.of (r)):=by
 unfold vI at h
 refine bn.of Tryz.func205 rfl Tryz.ntmps205 rfl fun W A=> ?_
 refine aA ?_
 refine aH ?_
 refine bE ?_
 refine ax ?_
 refine a5 wC ?_
 refine a5 uf ?_
 refine aH ?_
 refine aJ ?_
 refine ag.ret ?_
 obtain rfl:=aG h
 exact c3
theorem Ka {aa:aw} {ai:Int} {r:aw} (h:vM aa ai=some r):bn Tryz.prog 204 [I.of (aa),I.of (ai)] (I.of (r)):=by
 unfold vM at h
 refine bn.of Tryz.func204 rfl Tryz.ntmps204 rfl fun W A=> ?_
 refine aA ?_
 refine ca fun bf=> ?_
 refine ch dY fun bw=> ?_
 refine bx ?_
 refine ag.block ?_
 refine aA ?_
 refine ax ?_
 refine a5 zl ?_
 refine aH ?_
 refine aJ ?_
 refine b0 h (fun h=>?_) fun h=>?_
 ·refine aA ?_
  refine bY 1 bT ?_
  refine bS 0 bT ?_
  refine aJ ?_
  refine ag.ret ?_
  refine ae.dQ ?_
  refine ae.ret ?_
  obtain rfl:=aG h
  exact ae.gh rfl (dF 0 bT)
 ·refine aA ?_
  refine ax ?_
  refine a5 lZ ?_
  refine aH ?_
  refine aJ ?_
  refine b0 h (fun h=>?_) fun h=>?_
  ·refine aA ?_
   refine aY (a2 mm) ?_
   refine b5 1 h9 fx ?_
   refine ax ?_
   refine a5 jn ?_
   refine aY (ic Tryz.underlying3 Tryz.underlying130) ?_
   refine a5 tI ?_
   obtain⟨bN,dg,h⟩:=ar h
   refine dm dg (cU (b:=({ (default:aw) with b7:=aa.dS >>> (BitVec.ofInt 64 (bm (ai - 64))).toNat } :aw)) rfl hv dY (.cons eO rfl (ad rfl) rfl (.nil))) ?_
   refine bS 0 bT ?_
   refine aJ ?_
   refine ag.ret ?_
   refine ae.dQ ?_
   refine ae.ret ?_
   obtain rfl:=aG h
   exact ae.gh rfl (dF 0 bT)
  ·refine ag.skip ?_
   refine ae.db ?_
   refine ae.next ?_
   refine aA ?_
   refine aY (a2 mm) ?_
   refine b5 1 h9 fx ?_
   refine ax ?_
   refine aY (ic Tryz.underlying3 Tryz.underlying130) ?_
   refine a5 tI ?_
   refine aY (a2 jD) ?_
   refine b5 1 eO fx ?_
   refine ax ?_
   refine aY (ic Tryz.underlying3 Tryz.underlying130) ?_
   refine a5 tI ?_
   refine aY (a2 mm) ?_
   refine b5 1 h9 fx ?_
   refine ax ?_
   refine a5 jn ?_
   refine aY (ic Tryz.underlying3 Tryz.underlying130) ?_
   refine a5 mQ ?_
   obtain⟨c7,gG,h⟩:=ar h
   refine dm gG (sh (ad rfl) (ad rfl)) ?_
   obtain⟨fA,j1,h⟩:=ar h
   refine dm j1 (cU (b:= { dS:=aa.dS >>> (BitVec.ofInt 64 ai).toNat,b7:=c7:aw }) rfl hv dY (.cons h9 rfl (ad rfl) rfl (.cons eO rfl (ad rfl) rfl (.nil)))) ?_
   refine bS 0 bT ?_
   refine aJ ?_
   refine ag.ret ?_
   obtain rfl:=aG h
   exact ae.gh rfl (dF 0 bT)
end Go.Proofs.YtmnggbjcnoffeaaGreat
namespace Go.Proofs.YtmnggbjcnoffeaaGreat
open Go Gv
set_option linter.unusedVariables false
set_option linter.unusedSimpArgs false
set_option maxRecDepth 100000
set_option maxHeartbeats 2000000
theorem B1 {aa:aw} {ai:aw} {r:aw} (h:r3 aa ai=some r):bn Tryz.prog 193 [I.of (aa),I.of (ai)] (I.of (r)):=by
 unfold r3 at h
 refine bn.of Tryz.func193 rfl Tryz.ntmps193 rfl fun W A=> ?_
 refine aA ?_
 refine ca fun bf=> ?_
 refine ca fun bw=> ?_
 refine ch dY fun cz=> ?_
 refine bE ?_
 refine aY (a2 mm) ?_
 refine b5 2 h9 fx ?_
 refine aY (a2 mm) ?_
 refine b5 1 h9 fx ?_
 refine a5 LV ?_
 refine aY (a2 jD) ?_
 refine b5 2 eO fx ?_
 refine aY (a2 jD) ?_
 refine b5 1 eO fx ?_
 refine a5 LV ?_
 obtain⟨bN,dg,h⟩:=ar h
 refine dm dg (cU (b:= { dS:=aa.dS ^^^ ai.dS,b7:=aa.b7 ^^^ ai.b7:aw }) rfl hv dY (.cons h9 rfl (ad rfl) rfl (.cons eO rfl (ad rfl) rfl (.nil)))) ?_
 refine bS 0 bT ?_
 refine aJ ?_
 refine ag.ret ?_
 obtain rfl:=aG h
 exact ae.gh rfl (dF 0 bT)
theorem qs {aa:aw} {ai:aw} {r:aw} (h:nk aa ai=some r):bn Tryz.prog 148 [I.of (aa),I.of (ai)] (I.of (r)):=by
 unfold nk at h
 refine bn.of Tryz.func148 rfl Tryz.ntmps148 rfl fun W A=> ?_
 refine aA ?_
 refine ca fun bf=> ?_
 refine ca fun bw=> ?_
 refine ch dY fun cz=> ?_
 refine bE ?_
 refine aY (a2 mm) ?_
 refine b5 2 h9 fx ?_
 refine aY (a2 mm) ?_
 refine b5 1 h9 fx ?_
 refine a5 qA ?_
 refine aY (a2 jD) ?_
 refine b5 2 eO fx ?_
 refine aY (a2 jD) ?_
 refine b5 1 eO fx ?_
 refine a5 qA ?_
 obtain⟨bN,dg,h⟩:=ar h
 refine dm dg (cU (b:= { dS:=aa.dS &&& ai.dS,b7:=aa.b7 &&& ai.b7:aw }) rfl hv dY (.cons h9 rfl (ad rfl) rfl (.cons eO rfl (ad rfl) rfl (.nil)))) ?_
 refine bS 0 bT ?_
 refine aJ ?_
 refine ag.ret ?_
 obtain rfl:=aG h
 exact ae.gh rfl (dF 0 bT)
theorem JO {aa:Ref} {ai:aw} {aR:Int} {r:Int × aw × Ref} (h:BR aa ai aR=some r):bn Tryz.prog 250 [I.of (aa),I.of (ai),I.of (aR)] (I.hy 255 [I.ptr r.1,I.ptr r.2.1,I.ptr r.2.2]):=by
 unfold BR at h
 refine bn.of Tryz.func250 rfl Tryz.ntmps250 rfl fun W A=> ?_
 refine aA ?_
 refine ca fun bf=> ?_
 refine ca fun bw=> ?_
 refine ca fun cz=> ?_
 refine bh (eC (F4 .nilFunc)) ?_
 refine bE ?_
 refine ak.share (α:=Int) 0 5 rfl rfl ?_
 refine ak.share (α:=aw) 1 4 rfl rfl ?_
 refine ak.share (α:=Ref) 2 3 rfl rfl ?_
 refine bh (Ni (f:=255) (τs:= [I.ptr aR,I.ptr ai,I.ptr aa]) ⟨ad rfl,ad rfl,ad rfl,trivial⟩) ?_
 refine aH ?_
 refine aJ ?_
 refine ag.ret ?_
 obtain rfl:=aG h
 exact c3
theorem Qv {aa:List cA} {r:(List cA)} (h:Bh aa=some r):bn Tryz.prog 161 [I.of (aa)] (I.of (r)):=by
 unfold Bh at h
 refine bn.of Tryz.func161 rfl Tryz.ntmps161 rfl fun W A=> ?_
 refine aA ?_
 refine bh (eC (look_nil (α:=cA))) ?_
 refine bx ?_
 refine aA ?_
 refine ax ?_
 refine bh (GI Tryz.underlying47 (ad rfl)) ?_
 refine aJ ?_
 refine ag.GJ (ad rfl) (fun an=> ?_) ?_
 ·subst an; replace h:=Fa h; subst h
  have h:some ([]:List cA)=some []:=rfl
  refine aA ?_
  refine bh (eC (look_nil (α:=cA))) ?_
  refine aJ ?_
  refine ag.ret ?_
  refine ae.ret ?_
  replace h:=aG h
  clear h
  exact c3
 ·refine cn ?_
  refine aA ?_
  refine ak.pV (α:=cA) (r:=([]:List cA)) Tryz.underlying47 gF l4 rfl rfl (.nil) rfl fun gE=> ?_
  refine ax ?_
  obtain⟨aD,bp,h⟩:=ar h
  refine jv 0 Tryz.underlying47 gF l4 bp fun kq e2=> ?_
  refine aH ?_
  refine aJ ?_
  refine ag.ret ?_
  refine ae.kF (α:=cA) 0 [2,7] ⟨rfl,rfl,trivial⟩ rfl ?_
  obtain rfl:=aG h
  exact c3
theorem Qw {aa:List aw} {r:(List aw)} (h:Bi aa=some r):bn Tryz.prog 162 [I.of (aa)] (I.of (r)):=by
 unfold Bi at h
 refine bn.of Tryz.func162 rfl Tryz.ntmps162 rfl fun W A=> ?_
 refine aA ?_
 refine bh (eC (look_nil (α:=aw))) ?_
 refine bx ?_
 refine aA ?_
 refine ax ?_
 refine bh (GI Tryz.underlying48 (ad rfl)) ?_
 refine aJ ?_
 refine ag.GJ (ad rfl) (fun an=> ?_) ?_
 ·subst an; replace h:=Fa h; subst h
  have h:some ([]:List aw)=some []:=rfl
  refine aA ?_
  refine bh (eC (look_nil (α:=aw))) ?_
  refine aJ ?_
  refine ag.ret ?_
  refine ae.ret ?_
  replace h:=aG h
  clear h
  exact c3
 ·refine cn ?_
  refine aA ?_
  refine ak.pV (α:=aw) (r:=([]:List aw)) Tryz.underlying48 bT dY rfl rfl (.nil) rfl fun gE=> ?_
  refine ax ?_
  obtain⟨aD,bp,h⟩:=ar h
  refine jv 0 Tryz.underlying48 bT dY bp fun kq e2=> ?_
  refine aH ?_
  refine aJ ?_
  refine ag.ret ?_
  refine ae.kF (α:=aw) 0 [2,7] ⟨rfl,rfl,trivial⟩ rfl ?_
  obtain rfl:=aG h
  exact c3
theorem Qx {aa:List cA} {ai:List cA} {r:Bool} (h:xx aa ai=some r):bn Tryz.prog 270 [I.of (aa),I.of (ai)] (I.of (r)):=by
 unfold xx at h
 refine bn.of Tryz.func270 rfl Tryz.ntmps270 rfl fun W A=> ?_
 refine aA ?_
 refine aH ?_
 refine bx ?_
 refine aA ?_
 refine ax ?_
 refine aY (er Tryz.underlying47) ?_
 refine ax ?_
 refine aY (er Tryz.underlying47) ?_
 refine a5 mY ?_
 refine aJ ?_
 refine b0 h (fun h=>?_) fun h=>?_
 ·refine aA ?_
  refine aH ?_
  refine aJ ?_
  refine ag.ret ?_
  refine ae.ret ?_
  obtain rfl:=aG h
  exact c3
 ·refine cn ?_
  refine ag.seq ?_
  refine aA ?_
  refine ax ?_
  refine aY (er Tryz.underlying47) ?_
  refine ax ?_
  refine aJ ?_
  refine ag.block ?_
  obtain⟨ay,al,h⟩:=ar h
  refine eD (γ:=Unit) (δ:=Unit) al [0,1,4,10,12] (fun s1 au=> [(13,I.of (s1))]) (fun s1 au=> []) (fun az=>Sum.elim (fun az=>Exit.exit 0) (fun az=>Exit.ret) az) (fun az au=>Sum.elim (fun az=> [(13,I.of (az.1)),(14,I.of (az.2))]) (fun az=> [(5,I.of (az.1)),(13,I.of (az.2.1)),(14,I.of (az.2.2.1)),(24,I.of (az.2.2.2))]) az) (fun az au=>Sum.elim (fun az=> []) (fun az=> []) az) () (fun s1 r h au=> ?_) fun au=> ?_
  ·clear al
   refine aA ?_
   refine a5 dd ?_
   refine bx ?_
   refine b0 h (fun h=>?_) fun h=>?_
   ·refine cn ?_
    refine ag.seq ?_
    refine ag.block ?_
    refine aA ?_
    refine ax ?_
    refine aH ?_
    refine bx ?_
    obtain⟨aV,b4,h⟩:=ar h
    obtain⟨bu,cD,h⟩:=ar h
    refine ag.draw mixed 9 [some 16,some 17,some 18,some 19,some 20,some 21,some 22,some 23,some 24] [[],[],[0,1],[2],[],[],[4,5],[6],[3,7]] [.val _,.val _,.val _,.val _,.val _,.val _,.val _,.val _,.val _] [false,false,false,false,false,false,false,false,false] (by kernel_rfl) rfl rfl rfl (fun c5=>⟨cw,cw,j0 b4 Tryz.underlying47 gF,H1 (cK gF),cw,cw,j0 cD Tryz.underlying47 gF,H1 (cK gF),lq (zn VO rfl VP rfl),trivial⟩) fun c5=> ?_
    refine aJ ?_
    refine b0 h (fun h=>?_) fun h=>?_
    ·refine aA ?_
     refine aH ?_
     refine aJ ?_
     refine ag.ret ?_
     refine ae.dQ ?_
     refine ae.ret ?_
     obtain rfl:=aG h
     exact c6 () 0
    ·refine ag.skip ?_
     refine ae.db ?_
     refine ae.next ?_
     refine ag.b1 ?_
     refine a5 cL ?_
     refine ax ?_
     refine ak.nil ?_
     obtain rfl:=aG h
     exact dO () 0
   ·refine ag.exit ?_
    refine ae.exit ?_
    obtain rfl:=aG h
    exact c6 () 0
  ·clear al
   rcases ay with ay | ay
   ·simp only [Sum.elim_inl] at h
    refine ae.dD ?_
    refine ae.next ?_
    refine aA ?_
    refine aH ?_
    refine aJ ?_
    refine ag.ret ?_
    obtain rfl:=aG h
    exact c3
   ·simp only [Sum.elim_inr] at h
    refine ae.dQ ?_
    refine ae.ret ?_
    obtain rfl:=aG h
    exact c3
theorem Ri {hp:bg Cell} {aa:Ref} {ai:Vector aw 4} {aR:Int} {r:Bool × (bg Cell)} (h:BO hp aa ai aR=some r):cG Tryz.prog 233 [I.of (aa),I.of (ai),I.of (aR)] ([] ++ bz hp) (δ:=Unit) (fun d=>I.of (r.1)) (fun d=> [] ++ bz r.2):=by
 unfold BO at h
 refine cG.of Tryz.func233 rfl Tryz.ntmps233 rfl fun W A=> ?_
 refine aA ?_
 refine ca fun bf=> ?_
 refine aH ?_
 refine bx ?_
 refine aA ?_
 refine ax ?_
 refine bh (sa Tryz.underlying163 (ad rfl)) ?_
 refine aJ ?_
 refine b0 h (fun h=>?_) fun h=>?_
 ·refine aA ?_
  refine aH ?_
  refine aJ ?_
  refine ag.ret ?_
  refine ae.ret ?_
  obtain rfl:=aG h
  exact ae.ha () (.cons _ (.refl _)) rfl rfl (gf rfl)
 ·refine cn ?_
  refine ag.seq ?_
  refine ag.seq ?_
  obtain⟨dT,fY,h⟩:=ar h
  obtain⟨cZ,hz,h⟩:=ar h
  obtain⟨cT,hI,h⟩:=ar h
  obtain⟨dX,iZ,h⟩:=ar h
  obtain⟨bN,dg,h⟩:=ar h
  refine ag.draw mixed 10 [some 12,some 13,some 14,some 15,some 16,some 17,some 11,some 18,some 19,some 7] [[],[0],[1],[2],[],[3,4],[5],[6],[6],[7]] [.val _,.val _,.val _,.val _,.val _,.val _,.val _,.val _,.val _,.val _] [false,false,false,false,false,false,false,false,false,false] (by kernel_rfl) rfl rfl rfl (fun c5=>⟨cw,df fun aC av=>fV (ht (ad rfl) fY),H1 (a2 FG),df fun aC av=>kk ((aI.id mK).comp Bt) (r:=cZ.oY) C0 (ad rfl) (oz (fun i e q=>av i e q rfl) (iH (n:=1) rfl (wk hz) rfl)) rfl rfl,fz 0 dR,df fun aC av=>Fl (r:=bN) Tryz.underlying222 GK h3 (qx (ad rfl) hI) (ad rfl) (oz (fun i e q=>av i e q rfl) (iH (n:=1) rfl (tV iZ) rfl)) (aG dg),cw,sS,sS,I2,trivial⟩) fun c5=> ?_
  refine aH ?_
  refine bE ?_
  refine ax ?_
  refine aJ ?_
  refine b0 h (fun h=>?_) fun h=>?_
  ·refine aA ?_
   refine aH ?_
   refine aJ ?_
   refine ag.ret ?_
   refine ae.ret ?_
   obtain rfl:=aG h
   exact ae.ha () (.cons _ (.refl _)) rfl rfl (gf rfl)
  ·refine cn ?_
   refine ag.seq ?_
   refine ag.draw mixed 6 [some 21,some 22,some 23,some 24,some 25,some 26] [[],[0],[1],[2],[],[]] [.val _,.val _,.val _,.val _,.val _,.val _] [false,false,false,false,false,false] (by kernel_rfl) rfl rfl rfl (fun iz=>⟨cw,df fun aC av=>fV (ht (ad rfl) fY),H1 (a2 FG),df fun aC av=>kk ((aI.id mK).comp Bt) (r:=cZ.oY) C0 (ad rfl) (oz (fun i e q=>av i e q rfl) (iH (n:=1) rfl (wk hz) rfl)) rfl rfl,fz 0 dR,cw,trivial⟩) fun iz=> ?_
   obtain⟨dZ,o6,h⟩:=ar h
   refine ak.GL (k':=Cell.o4 (gr dX ai aR)) 1 rfl (by first | exact .inl rfl | exact .inr rfl) Tryz.underlying222 GK (qx (ad rfl) hI) (ad rfl) (ad rfl) (tV iZ) rfl rfl rfl (aG o6) ?_
   refine bE ?_
   refine aH ?_
   refine aJ ?_
   refine ag.ret ?_
   obtain rfl:=aG h
   exact ae.ha () (.cons _ (.refl _)) rfl rfl (gf rfl)
end Go.Proofs.YtmnggbjcnoffeaaGreat
namespace Go.Proofs.YtmnggbjcnoffeaaGreat
open Go Gv
set_option linter.unusedVariables false
set_option linter.unusedSimpArgs false
set_option maxRecDepth 100000
set_option maxHeartbeats 2000000
theorem BS {aa:a0} {ai:Int} {r:Int} (h:rT aa ai=some r):bn Tryz.prog 82 [I.of (aa),I.of (ai)] (I.of (r)):=by
 unfold rT at h
 refine bn.of Tryz.func82 rfl Tryz.ntmps82 rfl fun W A=> ?_
 refine aA ?_
 refine ca fun bf=> ?_
 refine ca fun bw=> ?_
 refine aH ?_
 refine bE ?_
 refine aY (a2 lE) ?_
 refine b5 1 ly k2 ?_
 refine ak.share (α:=Int) 0 3 rfl rfl ?_
 refine bh (wm (F:=(fun fT=>Bx fT ai)) (τs:= [I.ptr ai]) VQ ⟨ad rfl,trivial⟩ (fun _ _ h=>QX h)) ?_
 obtain⟨aD,bp,h⟩:=ar h
 refine cH VR (Qp bp) ?_
 refine aH ?_
 refine aJ ?_
 refine ag.ret ?_
 obtain rfl:=aG h
 exact c3
theorem JS {aa:a0} {ai:Int} {r:Int} (h:vy aa ai=some r):bn Tryz.prog 85 [I.of (aa),I.of (ai)] (I.of (r)):=by
 unfold vy at h
 refine bn.of Tryz.func85 rfl Tryz.ntmps85 rfl fun W A=> ?_
 refine aA ?_
 refine ca fun bf=> ?_
 refine ca fun bw=> ?_
 refine aH ?_
 refine bE ?_
 refine aY (a2 tU) ?_
 refine b5 1 tl sE ?_
 refine ak.share (α:=Int) 0 3 rfl rfl ?_
 refine bh (wm (F:=(fun fT=>By fT ai)) (τs:= [I.ptr ai]) VS ⟨ad rfl,trivial⟩ (fun _ _ h=>QY h)) ?_
 obtain⟨aD,bp,h⟩:=ar h
 refine cH VT (Qq bp) ?_
 refine aH ?_
 refine aJ ?_
 refine ag.ret ?_
 obtain rfl:=aG h
 exact c3
theorem Q1 {hp:bg Cell} {aa:kX} {ai:bL} {r:Int × Bool} (h:xS hp aa ai=some r):cG Tryz.prog 227 [I.of (aa),I.of (ai)] ([] ++ bz hp) (δ:=Unit) (fun _=>I.eI [I.of (r.1),I.of (r.2)]) (fun _=> [] ++ bz hp):=by
 unfold xS at h
 refine cG.of Tryz.func227 rfl Tryz.ntmps227 rfl fun W A=> ?_
 refine aA ?_
 refine ca fun bf=> ?_
 refine ca fun bw=> ?_
 refine aH ?_
 refine aH ?_
 refine bx ?_
 obtain⟨aD,bp,h⟩:=ar h
 obtain⟨aM,b9,h⟩:=ar h
 refine lI [0,1,2,3] ?_
 refine ag.C1 2 mixed (bt 6 [] [] _ :: bt 7 (0 :: []) (1 :: []) _ :: bt 8 [] (0 :: []) _ :: bt 9 (2 :: []) [] _ :: ⟨some 10,(1 :: 3 :: []),[],[],fun _=>I.eI [I.of (aM.1),I.of (aM.2)],fun _ _=>⟨none,.dead⟩⟩ :: bt 11 (4 :: []) [] _ :: bt 12 (4 :: []) [] _ :: bt 4 (5 :: []) [] _ :: bt 5 (6 :: []) [] _ :: []) _ (0 :: 1 :: 2 :: 3 :: []) rfl rfl (by kernel_rfl) (by kernel_rfl) ⟨fk.q (ga (a2 LW)),fk.q (p5 1 EG GM),fk.q (p3 0 ig),fk.q (c2 fun hd E' aC aL av=>h1 GN (ES bp) ⟨ad (aL _ _ rfl),trivial⟩),?_,fk.q (c2 fun hd E' aC aL av=>oo (ad (aL _ _ rfl)) rfl),fk.q (c2 fun hd E' aC aL av=>oo (ad (aL _ _ rfl)) rfl),fk.q (c2 fun hd E' aC aL av=>eC (ad (aL _ _ rfl))),fk.q (c2 fun hd E' aC aL av=>eC (ad (aL _ _ rfl))),trivial⟩ fun gO=> ?_
 ·intro hd E' aC aL av fp
  refine ak.qd (jx.sv 2 (fp.trans rfl) VU (Rh b9) ⟨ad (aL _ _ rfl),ad (aL _ _ rfl),trivial⟩) rfl rfl rfl ?_
  refine ak.nil ?_
  exact ae.fin (fI []) rfl rfl
 refine ae.gu (L2:=(⟨some bw,.var (ai:bL)⟩ :: ⟨some bf,.var (aa:kX)⟩ :: bz hp)) rfl ?_
 refine l8 [0,1,2,3,4,5,6,7,8,9,10,11,12] ?_
 refine ae.next ?_
 refine ag.ret ?_
 obtain rfl:=aG h
 exact ae.qU () (.cons _ (.cons _ (.refl _))) rfl rfl (gf rfl) (gf rfl)
theorem JB {aa:hr} {ai:bL} {r:(Vector aw 4) × aw × Int} (h:vm aa ai=some r):bn Tryz.prog 239 [I.of (aa),I.of (ai)] (I.eI [I.of (r.1),I.of (r.2.1),I.of (r.2.2)]):=by
 unfold vm at h
 refine bn.of Tryz.func239 rfl Tryz.ntmps239 rfl fun W A=> ?_
 refine aA ?_
 refine ca fun bf=> ?_
 refine ca fun bw=> ?_
 refine ch zm fun cz=> ?_
 refine ch dY fun ff=> ?_
 refine aH ?_
 refine bx ?_
 obtain⟨aD,bp,h⟩:=ar h
 obtain⟨aM,b9,h⟩:=ar h
 refine ag.draw mixed 10 [some 10,some 11,some 12,some 13,some 9,some 14,some 15,some 7,some 8,none] [[],[],[1],[0,2],[3],[4],[4],[],[],[5,7]] [.val _,.val _,.val _,.val _,.val _,.val _,.val _,.new (.var (default:Vector aw 4)),.new (.var (default:aw)),.lb 7 (.var (aM.1:Vector aw 4))] [false,false,false,false,false,false,false,false,false,true] (by kernel_rfl) rfl rfl rfl (fun c5=>⟨fz 3 GO,fz 2 ig,fc GN (ES bp),fc VV (QB b9),cw,sS,sS,oS zm,oS dY,⟨rfl,_,rfl,fun aC q hq=>oU (i:=q) (aI.id (Vector aw 4)) (v:=(aM.1:Vector aw 4)) (b':=(aM.1:Vector aw 4)) l0 (ad rfl) (ad rfl) hq rfl rfl⟩,trivial⟩) fun c5=> ?_
 refine bS 1 bT ?_
 refine bx ?_
 refine aA ?_
 refine aY (a2 Ct) ?_
 refine b5 5 xy bM ?_
 refine aY (a2 kY) ?_
 refine b5 4 kh kI ?_
 refine aY (er Tryz.underlying47) ?_
 refine a5 lZ ?_
 refine aJ ?_
 refine b0 h (fun h=>?_) fun h=>?_
 ·refine ag.seq ?_
  refine ag.draw mixed 3 [some 22,some 23,none] [[],[],[0]] [.val _,.val _,.jJ 3 (.var (aM.1:Vector aw 4))] [false,false,true] (by kernel_rfl) rfl rfl rfl (fun iz=>⟨fz 0 l0,fz 1 bT,⟨_,_,rfl,fun aC av=>oU (i:=3) (aI.id (Vector aw 4)) (v:=(aM.1:Vector aw 4)) (b':=(aM.1:Vector aw 4)) l0 (ad rfl) (ad rfl) (av _ _ rfl) rfl rfl⟩,trivial⟩) fun iz=> ?_
  refine bS 2 bT ?_
  refine aH ?_
  refine aJ ?_
  refine ag.ret ?_
  refine ae.ret ?_
  obtain rfl:=aG h
  exact ae.l5 rfl (dF 3 l0) (dF 2 bT) (fw rfl)
 ·refine cn ?_
  refine ag.seq ?_
  obtain⟨aV,b4,h⟩:=ar h
  refine ag.draw mixed 11 [some 24,some 25,some 26,some 27,some 28,some 29,some 30,some 31,some 32,none,none] [[],[],[],[2],[],[4],[3,5],[6],[7],[0],[1]] [.val _,.val _,.val _,.val _,.val _,.val _,.val _,.val _,.val _,.jJ 3 (.var (aM.1:Vector aw 4)),.jJ 2 (.var (aM.2:aw))] [false,false,false,false,false,false,false,false,false,true,true] (by kernel_rfl) rfl rfl rfl (fun sT=>⟨fz 0 l0,fz 1 bT,H1 (a2 kY),dN 4 kh kI,H1 (a2 Ct),dN 5 xy bM,j0 b4 Tryz.underlying47 gF,m7 rO y4,H1 (cK bM),⟨_,_,rfl,fun aC av=>oU (i:=3) (aI.id (Vector aw 4)) (v:=(aM.1:Vector aw 4)) (b':=(aM.1:Vector aw 4)) l0 (ad rfl) (ad rfl) (av _ _ rfl) rfl rfl⟩,⟨_,_,rfl,fun aC av=>oU (i:=2) (aI.id aw) (v:=(aM.2:aw)) (b':=(aM.2:aw)) bT (ad rfl) (ad rfl) (av _ _ rfl) rfl rfl⟩,trivial⟩) fun sT=> ?_
  refine aH ?_
  refine aJ ?_
  refine ag.ret ?_
  obtain rfl:=aG h
  exact ae.l5 rfl (dF 3 l0) (dF 2 bT) (fw rfl)
theorem BX {aa:Int} {r:aw} (h:rX aa=some r):bn Tryz.prog 188 [I.of (aa)] (I.of (r)):=by
 unfold rX at h
 refine bn.of Tryz.func188 rfl Tryz.ntmps188 rfl fun W A=> ?_
 refine aA ?_
 refine ch dY fun bf=> ?_
 refine bE ?_
 obtain⟨bN,dg,h⟩:=ar h
 refine dm dg (cU (b:= { dS:=18446744073709551615#64,b7:=18446744073709551615#64:aw }) rfl hv dY (.cons h9 rfl (gJ 18446744073709551615 rfl) rfl (.cons eO rfl (gJ 18446744073709551615 rfl) rfl (.nil)))) ?_
 refine ax ?_
 obtain⟨aD,bp,h⟩:=ar h
 refine cH Nk (J0 bp) ?_
 refine a5 jn ?_
 obtain⟨aM,b9,h⟩:=ar h
 refine cH Nl (Ka b9) ?_
 refine bS 0 bT ?_
 refine aJ ?_
 refine ag.ret ?_
 obtain rfl:=aG h
 exact ae.gh rfl (dF 0 bT)
theorem B2 {aa:aw} {ai:Int} {r:Bool} (h:qt aa ai=some r):bn Tryz.prog 196 [I.of (aa),I.of (ai)] (I.of (r)):=by
 unfold qt at h
 refine bn.of Tryz.func196 rfl Tryz.ntmps196 rfl fun W A=> ?_
 refine aA ?_
 refine ca fun bf=> ?_
 refine aH ?_
 refine bE ?_
 refine ax ?_
 refine a5 lZ ?_
 refine ax ?_
 refine eg cN ?_
 refine k7 dd ?_
 refine j4 ?_
 refine ax ?_
 refine eN (fun hb=>fb (i:=0) (aI.id aw) (r:=aa) bT (ad rfl) rfl rfl rfl) ?_
 refine eg cN ?_
 obtain⟨aD,bp,h⟩:=ar h
 refine eN (fun hb=>h1 Nl (Ka (fE bp hb)) ⟨ct rfl hb,ct rfl hb,trivial⟩) ?_
 refine eN (fun hb=>FH eO My fx rfl (ct rfl hb) rfl rfl) ?_
 refine eN (fun hb=>qA (ct rfl hb) (gJ 1 rfl)) ?_
 refine eN (fun hb=>yQ (ct rfl hb) (gJ 1 rfl)) ?_
 obtain⟨bN,dg,h⟩:=ar h
 refine dm dg (oh (ad rfl) (ad rfl) (fun h=>h)) ?_
 refine aH ?_
 refine aJ ?_
 refine ag.ret ?_
 obtain rfl:=aG h
 exact c3
theorem Si {aa:bL} {r:bL} (h:B3 aa=some r):bn Tryz.prog 122 [I.of (aa)] (I.of (r)):=by
 unfold B3 at h
 refine bn.of Tryz.func122 rfl Tryz.ntmps122 rfl fun W A=> ?_
 refine aA ?_
 refine ca fun bf=> ?_
 refine ch wR fun bw=> ?_
 refine bx ?_
 obtain⟨aD,bp,h⟩:=ar h
 obtain⟨aM,b9,h⟩:=ar h
 refine ag.draw mixed 7 [some 3,some 4,some 5,some 6,some 7,some 8,some 9] [[],[0],[1],[],[3],[4],[]] [.val _,.val _,.val _,.val _,.val _,.val _,.val _] [false,false,false,false,false,false,false] (by kernel_rfl) rfl rfl rfl (fun c5=>⟨H1 (a2 kY),dN 1 kh kI,fc VW (Qv bp),H1 (a2 CF),dN 1 BD zL,fc VX (Qw b9),H1 (a2 kY),trivial⟩) fun c5=> ?_
 refine jt 1 kh kI ?_
 refine aY (a2 CF) ?_
 obtain⟨bN,dg,h⟩:=ar h
 refine sP 1 BD zL (hb:=by exact dg) ?_
 refine bE ?_
 refine bY 1 ig ?_
 refine bS 0 ig ?_
 refine aJ ?_
 refine ag.ret ?_
 obtain rfl:=aG h
 exact ae.gh rfl (dF 0 ig)
theorem Ru {aa:bL} {ai:bL} {r:Bool} (h:x4 aa ai=some r):bn Tryz.prog 265 [I.of (aa),I.of (ai)] (I.of (r)):=by
 unfold x4 at h
 refine bn.of Tryz.func265 rfl Tryz.ntmps265 rfl fun W A=> ?_
 refine aA ?_
 refine ca fun bf=> ?_
 refine ca fun bw=> ?_
 refine aH ?_
 refine bE ?_
 refine aY (a2 tW) ?_
 refine b5 1 pC bM ?_
 refine aY (a2 tW) ?_
 refine b5 0 pC bM ?_
 refine a5 fW ?_
 refine ax ?_
 refine eg (a2 kY) ?_
 refine eN (fun hb=>fb (i:=1) ((aI.id bL).comp kh) (r:=aa.cu) kI (ct rfl hb) rfl rfl rfl) ?_
 refine eg (a2 kY) ?_
 refine eN (fun hb=>fb (i:=0) ((aI.id bL).comp kh) (r:=ai.cu) kI (ct rfl hb) rfl rfl rfl) ?_
 obtain⟨aD,bp,h⟩:=ar h
 refine eN (fun hb=>h1 VY (Qx (fE bp hb)) ⟨ct rfl hb,ct rfl hb,trivial⟩) ?_
 refine j4 ?_
 refine ax ?_
 refine eg (a2 qJ) ?_
 refine eN (fun hb=>fb (i:=1) ((aI.id bL).comp oM) (r:=aa.g9) bM (ct rfl hb) rfl rfl rfl) ?_
 refine eg (a2 qJ) ?_
 refine eN (fun hb=>fb (i:=0) ((aI.id bL).comp oM) (r:=ai.g9) bM (ct rfl hb) rfl rfl rfl) ?_
 refine k7 fW ?_
 refine j4 ?_
 refine aH ?_
 refine aJ ?_
 refine ag.ret ?_
 obtain rfl:=aG h
 exact c3
end Go.Proofs.YtmnggbjcnoffeaaGreat
namespace Go.Proofs.YtmnggbjcnoffeaaGreat
open Go Gv
set_option linter.unusedVariables false
set_option linter.unusedSimpArgs false
set_option maxRecDepth 100000
set_option maxHeartbeats 2000000
theorem Rd {hp:bg Cell} {aa:kX} {ai:aU} {r:(bg Cell)} (h:xY hp aa ai=some r):cG Tryz.prog 229 [I.of (aa),I.of (ai)] ([] ++ bz hp) (δ:=Unit) (fun d=>I.eI []) (fun d=> [] ++ bz r):=by
 unfold xY at h
 refine cG.of Tryz.func229 rfl Tryz.ntmps229 rfl fun W A=> ?_
 refine aA ?_
 refine ca fun bf=> ?_
 refine ca fun bw=> ?_
 refine aJ ?_
 obtain⟨aD,bp,h⟩:=ar h
 refine ag.draw mixed 7 [some 4,some 5,some 6,some 7,some 8,some 9,some 10] [[],[0],[],[2],[3],[],[5]] [.val _,.val _,.val _,.val _,.val _,.val _,.val _] [false,false,false,false,false,false,false] (by kernel_rfl) rfl rfl rfl (fun c5=>⟨H1 (a2 LW),dN 1 EG GM,H1 (a2 jT),dN 0 iO ig,fc GN (ES bp),H1 (a2 km),dN 0 ji bM,trivial⟩) fun c5=> ?_
 obtain⟨aM,b9,h⟩:=ar h
 refine ak.sw 2 0 rfl VZ (Ri b9) rfl rfl ⟨ad rfl,ad rfl,ad rfl,trivial⟩ rfl fun az=> ?_
 refine ak.gu (L2:=(⟨some bw,.var (ai:aU)⟩ :: ⟨some bf,.var (aa:kX)⟩ :: bz aM.2)) rfl ?_
 refine ak.nil ?_
 refine ae.q5 ?_
 obtain rfl:=aG h
 exact ae.oq () (.cons _ (.cons _ (.refl _))) rfl rfl
theorem QJ {aa:dM} {ai:Int} {r:Int} (h:xD aa ai=some r):bn Tryz.prog 272 [I.ptr aa,I.of (ai)] (I.of (r)):=by
 unfold xD at h
 refine bn.of Tryz.func272 rfl Tryz.ntmps272 rfl fun W A=> ?_
 refine aA ?_
 refine ca fun bf=> ?_
 refine aH ?_
 refine bx ?_
 refine aA ?_
 refine ax ?_
 refine bh (Ue Tryz.underlying170 (ad rfl)) ?_
 refine aJ ?_
 refine ag.wG (ad rfl) rfl ?_
 refine cn ?_
 refine aA ?_
 refine ax ?_
 refine aY y3 ?_
 refine uO xR yS ?_
 refine aY (cK uC) ?_
 refine ak.share (α:=Int) 0 3 rfl rfl ?_
 refine bh (wm (F:=(fun fT=>Bj fT ai)) (τs:= [I.ptr ai]) V0 ⟨ad rfl,trivial⟩ (fun _ _ h=>Qy h)) ?_
 obtain⟨aD,bp,h⟩:=ar h
 refine cH Nm (Jw bp) ?_
 refine aH ?_
 refine aJ ?_
 refine ag.ret ?_
 obtain rfl:=aG h
 exact c3
theorem BP {aa:Int} {ai:Int} {r:Int} (h:rQ aa ai=some r):bn Tryz.prog 92 [I.of (aa),I.of (ai)] (I.of (r)):=by
 unfold rQ at h
 refine bn.of Tryz.func92 rfl Tryz.ntmps92 rfl fun W A=> ?_
 refine aA ?_
 refine aH ?_
 refine bE ?_
 refine ax ?_
 obtain⟨aD,bp,h⟩:=ar h
 refine cH Nn (JR bp) ?_
 refine aH ?_
 refine bE ?_
 refine ax ?_
 obtain⟨aM,b9,h⟩:=ar h
 refine cH Nn (JR b9) ?_
 refine aH ?_
 refine bx ?_
 refine aA ?_
 refine ax ?_
 refine aJ ?_
 refine b0 h (fun h=>?_) fun h=>?_
 ·refine ag.seq ?_
  refine aA ?_
  refine ax ?_
  refine aJ ?_
  refine b0 h (fun h=>?_) fun h=>?_
  ·refine aA ?_
   refine aH ?_
   refine aJ ?_
   refine ag.ret ?_
   refine ae.ret ?_
   refine ae.ret ?_
   obtain rfl:=aG h
   exact c3
  ·refine cn ?_
   refine aA ?_
   refine aH ?_
   refine aJ ?_
   refine ag.ret ?_
   refine ae.ret ?_
   obtain rfl:=aG h
   exact c3
 ·refine cn ?_
  refine ag.seq ?_
  refine aA ?_
  refine ax ?_
  refine aJ ?_
  refine b0 h (fun h=>?_) fun h=>?_
  ·refine aA ?_
   refine aH ?_
   refine aJ ?_
   refine ag.ret ?_
   refine ae.ret ?_
   obtain rfl:=aG h
   exact c3
  ·refine cn ?_
   refine ag.seq ?_
   refine aA ?_
   refine ax ?_
   refine ax ?_
   refine a5 dd ?_
   refine aJ ?_
   refine b0 h (fun h=>?_) fun h=>?_
   ·refine aA ?_
    refine aH ?_
    refine aJ ?_
    refine ag.ret ?_
    refine ae.ret ?_
    obtain rfl:=aG h
    exact c3
   ·refine cn ?_
    refine ag.seq ?_
    refine aA ?_
    refine ax ?_
    refine ax ?_
    refine a5 lY ?_
    refine aJ ?_
    refine b0 h (fun h=>?_) fun h=>?_
    ·refine aA ?_
     refine aH ?_
     refine aJ ?_
     refine ag.ret ?_
     refine ae.ret ?_
     obtain rfl:=aG h
     exact c3
    ·refine cn ?_
     refine aA ?_
     refine aH ?_
     refine aJ ?_
     refine ag.ret ?_
     obtain rfl:=aG h
     exact c3
theorem Qo {aa:List cJ} {ai:cJ→Option Bool} {r:Bool} (h:xt aa ai=some r):bn Tryz.prog 112 [I.of (aa),I.o9 Tryz.prog ai] (I.of (r)):=by
 unfold xt at h
 refine bn.of Tryz.func112 rfl Tryz.ntmps112 rfl fun W A=> ?_
 refine aA ?_
 refine aH ?_
 refine bE ?_
 refine ax ?_
 refine ax ?_
 obtain⟨aD,bp,h⟩:=ar h
 refine cH No (Jz bp) ?_
 refine a5 lZ ?_
 refine aH ?_
 refine aJ ?_
 refine ag.ret ?_
 obtain rfl:=aG h
 exact c3
theorem Ko {aa:a1} {ai:a1} {r:a1 × Bool} (h:vR aa ai=some r):bn Tryz.prog 154 [I.of (aa),I.of (ai)] (I.eI [I.of (r.1),I.of (r.2)]):=by
 unfold vR at h
 refine bn.of Tryz.func154 rfl Tryz.ntmps154 rfl fun W A=> ?_
 refine aA ?_
 refine ca fun bf=> ?_
 refine ca fun bw=> ?_
 refine ch hX fun cz=> ?_
 refine aH ?_
 refine bE ?_
 refine aY (a2 mR) ?_
 refine b5 2 lz dR ?_
 refine aY (a2 mR) ?_
 refine b5 1 lz dR ?_
 obtain⟨aD,bp,h⟩:=ar h
 refine bh (h1 zo (x3 bp) ⟨ad rfl,ad rfl,v5 qV (fun _ _ _=>qs),trivial⟩) ?_
 refine ch iV fun ff=> ?_
 refine bS 0 dR ?_
 refine bx ?_
 refine ag.seq ?_
 obtain⟨aM,b9,h⟩:=ar h
 obtain⟨a8,dP,h⟩:=ar h
 refine ag.draw mixed 9 [some 12,some 13,some 14,some 15,some 16,some 17,some 18,some 19,some 20] [[],[0],[],[2],[1,3],[],[4,5],[],[6,7]] [.val _,.val _,.val _,.val _,.val _,.val _,.val _,.val _,.val _] [false,false,false,false,false,false,false,false,false] (by kernel_rfl) rfl rfl rfl (fun c5=>⟨H1 (a2 oa),dN 3 mi dR,H1 (a2 oa),dN 2 mi dR,df fun aC av=>h1 zo (x3 b9) ⟨ad rfl,ad rfl,v5 C2 (fun _ _ _=>B1),trivial⟩,fz 0 dR,df fun aC av=>h1 zo (x3 dP) ⟨ad rfl,ad rfl,v5 qV (fun _ _ _=>qs),trivial⟩,df fun aC av=>oQ (b:=(default:Vector aw 4)) (sz:=2) rfl Tryz.underlying45 (by kernel_rfl) iV (.nil),lq (zn C3 rfl Np rfl),trivial⟩) fun c5=> ?_
 refine aJ ?_
 refine b0 h (fun h=>?_) fun h=>?_
 ·refine aA ?_
  refine hH wH hX (default:a1) .nil ?_
  refine bS 1 cY ?_
  refine aH ?_
  refine aJ ?_
  refine ag.ret ?_
  refine ae.ret ?_
  obtain rfl:=aG h
  exact ae.mr rfl (dF 1 cY) (fw rfl)
 ·refine cn ?_
  refine ag.seq ?_
  obtain⟨br,eW,h⟩:=ar h
  obtain⟨cj,gH,h⟩:=ar h
  refine ag.draw mixed 11 [some 22,some 23,some 24,some 25,some 26,some 27,some 28,some 29,some 30,some 31,some 32] [[],[0],[],[2],[1,3],[],[5],[],[7],[6,8],[4,9]] [.val _,.val _,.val _,.val _,.val _,.val _,.val _,.val _,.val _,.val _,.val _] [false,false,false,false,false,false,false,false,false,false,false] (by kernel_rfl) rfl rfl rfl (fun iz=>⟨H1 (a2 oa),dN 3 mi dR,H1 (a2 oa),dN 2 mi dR,df fun aC av=>h1 zo (x3 eW) ⟨ad rfl,ad rfl,v5 qW (fun _ _ _=>qu),trivial⟩,H1 (a2 mR),dN 3 lz dR,H1 (a2 mR),dN 2 lz dR,df fun aC av=>h1 zo (x3 gH) ⟨ad rfl,ad rfl,v5 qW (fun _ _ _=>qu),trivial⟩,df fun aC av=>cU (b:= { bW:=br,bR:=cj:a1 }) rfl wH hX (.cons mi rfl (ad rfl) rfl (.cons lz rfl (ad rfl) rfl (.nil))),trivial⟩) fun iz=> ?_
  refine bS 1 cY ?_
  refine aH ?_
  refine aJ ?_
  refine ag.ret ?_
  obtain rfl:=aG h
  exact ae.mr rfl (dF 1 cY) (fw rfl)
end Go.Proofs.YtmnggbjcnoffeaaGreat
namespace Go.Proofs.YtmnggbjcnoffeaaGreat
open Go Gv
set_option linter.unusedVariables false
set_option linter.unusedSimpArgs false
set_option maxRecDepth 100000
set_option maxHeartbeats 2000000
theorem R7 {aa:aw} {ai:Int} {r:aw} (h:yp aa ai=some r):bn Tryz.prog 165 [I.of (aa),I.of (ai)] (I.of (r)):=by
 unfold yp at h
 refine bn.of Tryz.func165 rfl Tryz.ntmps165 rfl fun W A=> ?_
 refine aA ?_
 refine ca fun bf=> ?_
 refine ch dY fun bw=> ?_
 refine bx ?_
 refine ag.block ?_
 refine aA ?_
 refine ax ?_
 refine a5 zl ?_
 refine aH ?_
 refine aJ ?_
 refine b0 h (fun h=>?_) fun h=>?_
 ·refine aA ?_
  refine bY 1 bT ?_
  refine bS 0 bT ?_
  refine aJ ?_
  refine ag.ret ?_
  refine ae.dQ ?_
  refine ae.ret ?_
  obtain rfl:=aG h
  exact ae.gh rfl (dF 0 bT)
 ·refine aA ?_
  refine ax ?_
  refine a5 lZ ?_
  refine aH ?_
  refine aJ ?_
  refine b0 h (fun h=>?_) fun h=>?_
  ·refine aA ?_
   refine aY (a2 jD) ?_
   refine b5 1 eO fx ?_
   refine ax ?_
   refine a5 jn ?_
   refine aY (ic Tryz.underlying3 Tryz.underlying130) ?_
   refine a5 mQ ?_
   obtain⟨bN,dg,h⟩:=ar h
   refine dm dg (cU (b:=({ (default:aw) with dS:=aa.b7 <<< (BitVec.ofInt 64 (bm (ai - 64))).toNat } :aw)) rfl hv dY (.cons h9 rfl (ad rfl) rfl (.nil))) ?_
   refine bS 0 bT ?_
   refine aJ ?_
   refine ag.ret ?_
   refine ae.dQ ?_
   refine ae.ret ?_
   obtain rfl:=aG h
   exact ae.gh rfl (dF 0 bT)
  ·refine ag.skip ?_
   refine ae.db ?_
   refine ae.next ?_
   refine aA ?_
   refine aY (a2 mm) ?_
   refine b5 1 h9 fx ?_
   refine ax ?_
   refine aY (ic Tryz.underlying3 Tryz.underlying130) ?_
   refine a5 mQ ?_
   refine aY (a2 jD) ?_
   refine b5 1 eO fx ?_
   refine ax ?_
   refine a5 jn ?_
   refine aY (ic Tryz.underlying3 Tryz.underlying130) ?_
   refine a5 tI ?_
   obtain⟨c7,gG,h⟩:=ar h
   refine dm gG (sh (ad rfl) (ad rfl)) ?_
   refine aY (a2 jD) ?_
   refine b5 1 eO fx ?_
   refine ax ?_
   refine aY (ic Tryz.underlying3 Tryz.underlying130) ?_
   refine a5 mQ ?_
   obtain⟨fA,j1,h⟩:=ar h
   refine dm j1 (cU (b:= { dS:=c7,b7:=aa.b7 <<< (BitVec.ofInt 64 ai).toNat:aw }) rfl hv dY (.cons h9 rfl (ad rfl) rfl (.cons eO rfl (ad rfl) rfl (.nil)))) ?_
   refine bS 0 bT ?_
   refine aJ ?_
   refine ag.ret ?_
   obtain rfl:=aG h
   exact ae.gh rfl (dF 0 bT)
end Go.Proofs.YtmnggbjcnoffeaaGreat
namespace Go.Proofs.YtmnggbjcnoffeaaGreat
open Go Gv
set_option linter.unusedVariables false
set_option linter.unusedSimpArgs false
set_option maxRecDepth 100000
set_option maxHeartbeats 2000000
theorem Rv {aa:Int} {ai:Int} {r:aw} (h:x5 aa ai=some r):bn Tryz.prog 171 [I.of (aa),I.of (ai)] (I.of (r)):=by
 unfold x5 at h
 refine bn.of Tryz.func171 rfl Tryz.ntmps171 rfl fun W A=> ?_
 refine aA ?_
 refine ch dY fun bf=> ?_
 refine bE ?_
 refine ch ug fun bw=> ?_
 refine bE ?_
 refine ax ?_
 obtain⟨aD,bp,h⟩:=ar h
 refine cH Nq (J9 bp) ?_
 refine aH ?_
 refine bE ?_
 refine ax ?_
 refine ax ?_
 refine a5 uf ?_
 refine a5 wC ?_
 refine aH ?_
 refine bx ?_
 refine aA ?_
 refine ax ?_
 refine ax ?_
 refine a5 jn ?_
 refine aH ?_
 refine aJ ?_
 refine ag.block ?_
 obtain⟨ay,al,h⟩:=ar h
 refine eD (γ:=Unit) (δ:=Unit) al [0,1,4,5] (fun s1 au=> [(6,I.of (s1.1))]) (fun s1 au=> [(0,⟨some bw,.var (s1.2:Vector Bool 128)⟩)]) (fun az=>Exit.exit 0) (fun az au=> [(6,I.of (az.1)),(18,I.of (az.2.1))]) (fun az au=> [(0,⟨some bw,.var (az.2.2:Vector Bool 128)⟩)]) () (fun s1 r h au=> ?_) fun au=> ?_
 ·clear al
  refine ag.seq ?_
  refine aA ?_
  refine ax ?_
  refine ax ?_
  refine a5 dd ?_
  refine aJ ?_
  refine b0 h (fun h=>?_) fun h=>?_
  ·refine cn ?_
   refine ag.seq ?_
   refine ag.block ?_
   refine ag.b1 ?_
   refine ax ?_
   obtain⟨aV,b4,h⟩:=ar h
   refine bh (dc (k:=aV) qQ (ad rfl) (ad rfl) (bC b4)) ?_
   refine jt 0 ((aI.id (Vector Bool 128)).comp (aI.idx (α:=Bool) 128 aV (bC b4).1)) hR ?_
   refine ak.nil ?_
   refine ae.db ?_
   refine ae.next ?_
   refine ag.b1 ?_
   refine ax ?_
   refine a5 cL ?_
   refine aH ?_
   refine ak.nil ?_
   obtain rfl:=aG h
   exact dO () 0
  ·refine ag.exit ?_
   refine ae.exit ?_
   obtain rfl:=aG h
   exact c6 () 0
 ·clear al
  refine ae.dD ?_
  refine ae.next ?_
  refine aA ?_
  refine bY 0 sn ?_
  obtain⟨aM,b9,h⟩:=ar h
  refine cH GA (EU b9) ?_
  refine bS 1 bT ?_
  refine aJ ?_
  refine ag.ret ?_
  obtain rfl:=aG h
  exact ae.gh rfl (dF 1 bT)
theorem R8 {aa:Vector aw 4} {ai:Vector aw 4} {r:(Vector (BitVec 8) 512)} (h:yq aa ai=some r):bn Tryz.prog 172 [I.of (aa),I.of (ai)] (I.of (r)):=by
 unfold yq at h
 refine bn.of Tryz.func172 rfl Tryz.ntmps172 rfl fun W A=> ?_
 refine aA ?_
 refine ca fun bf=> ?_
 refine ca fun bw=> ?_
 refine ch iS fun cz=> ?_
 refine bE ?_
 refine ch iS fun ff=> ?_
 refine bx ?_
 refine aA ?_
 refine ax ?_
 refine aJ ?_
 refine ag.block ?_
 obtain⟨ay,al,h⟩:=ar h
 refine eD (γ:=Unit) (δ:=Unit) al [0,1,2,3,4,5] (fun s1 au=> [(11,I.of (s1.1))]) (fun s1 au=> [(0,⟨some ff,.var (s1.2:Vector (BitVec 8) 512)⟩)]) (fun az=>Exit.exit 0) (fun az au=> [(11,I.of (az.1)),(12,I.of (az.2.1))]) (fun az au=> [(0,⟨some ff,.var (az.2.2:Vector (BitVec 8) 512)⟩)]) () (fun s1 r h au=> ?_) fun au=> ?_
 ·clear al
  refine aA ?_
  refine a5 dd ?_
  refine bx ?_
  refine b0 h (fun h=>?_) fun h=>?_
  ·refine cn ?_
   refine ag.seq ?_
   refine ag.block ?_
   refine aA ?_
   refine ax ?_
   refine aH ?_
   refine bx ?_
   obtain⟨aV,b4,h⟩:=ar h
   obtain⟨aD,bp,h⟩:=ar h
   obtain⟨bu,cD,h⟩:=ar h
   obtain⟨aM,b9,h⟩:=ar h
   refine ag.draw mixed 10 [some 14,some 15,some 16,some 17,some 18,some 19,some 20,some 21,some 7,some 8] [[],[0],[1],[2],[],[4],[5],[6],[],[]] [.val _,.val _,.val _,.val _,.val _,.val _,.val _,.val _,.new (.var (default:Vector Bool 128)),.new (.var (default:Vector Bool 128))] [false,false,false,false,false,false,false,false,false,false] (by kernel_rfl) rfl rfl rfl (fun c5=>⟨cw,df fun aC av=>dc (k:=aV) gq (ad rfl) (ad rfl) (bC b4),dN 3 ((aI.id (Vector aw 4)).comp (aI.idx (α:=aw) 4 aV (bC b4).1)) bT,fc Nr (Kh bp),cw,df fun aC av=>dc (k:=bu) gq (ad rfl) (ad rfl) (bC cD),dN 2 ((aI.id (Vector aw 4)).comp (aI.idx (α:=aw) 4 bu (bC cD).1)) bT,fc Nr (Kh b9),oS ug,oS ug,trivial⟩) fun c5=> ?_
   refine bS 0 sn ?_
   refine bS 1 sn ?_
   refine bE ?_
   refine aH ?_
   refine aJ ?_
   refine ag.block ?_
   obtain⟨aS,al,h⟩:=ar h
   refine eD (γ:=Unit) (δ:=Unit) al [0,1,2,3,4,5,6,7,8,11,12] (fun s2 aT=> [(9,I.of (s2.1))]) (fun s2 aT=> [(2,⟨some ff,.var (s2.2:Vector (BitVec 8) 512)⟩)]) (fun ck=>Exit.exit 2) (fun ck aT=> [(9,I.of (ck.1)),(23,I.of (ck.2.1))]) (fun ck aT=> [(2,⟨some ff,.var (ck.2.2:Vector (BitVec 8) 512)⟩)]) () (fun s2 r h aT=> ?_) fun aT=> ?_
   ·clear al
    refine ag.seq ?_
    refine aA ?_
    refine ax ?_
    refine a5 dd ?_
    refine aJ ?_
    refine b0 h (fun h=>?_) fun h=>?_
    ·refine cn ?_
     refine ag.seq ?_
     refine ag.block ?_
     refine aA ?_
     refine ax ?_
     refine a5 Gz ?_
     refine a5 cL ?_
     refine ax ?_
     refine a5 jn ?_
     refine aH ?_
     refine aJ ?_
     refine ag.block ?_
     refine aA ?_
     refine ax ?_
     obtain⟨cb,eu,h⟩:=ar h
     refine bh (dc (k:=cb) qQ (ad rfl) (ad rfl) (bC eu)) ?_
     refine b5 1 ((aI.id (Vector Bool 128)).comp (aI.idx (α:=Bool) 128 cb (bC eu).1)) hR ?_
     refine aY iT ?_
     refine aH ?_
     refine aJ ?_
     obtain⟨bJ,cB,h⟩:=ar h
     refine hQ (γ:=Unit) [0,1,2,3,4,5,6,7,8,9,10,11,12,23,31] (fun bq=> []) (fun bq=> [(2,⟨some ff,.var (bJ:Vector (BitVec 8) 512)⟩)]) (fun bq=> ?_) (fun hm ao=> ?_) fun hm ao=> ?_
     ·clear cB
      refine ae.db ?_
      refine ae.db ?_
      refine ae.next ?_
      refine ag.b1 ?_
      refine ax ?_
      refine a5 cL ?_
      refine aH ?_
      refine ak.nil ?_
      obtain rfl:=aG h
      exact dO () 0
     ·have h:=gK ao cB
      refine ag.b1 ?_
      refine ax ?_
      obtain⟨du,hx,h⟩:=ar h
      refine bh (dc (k:=du) jE (ad rfl) (ad rfl) (bC hx)) ?_
      refine ak.store (i:=2) ((aI.id (Vector (BitVec 8) 512)).comp (aI.idx (α:=BitVec 8) 512 du (bC hx).1)) (v:=(2#8:BitVec 8)) (b':=(cq s2.2 du (2#8):Vector (BitVec 8) 512)) iy (ad rfl) (nn 2 rfl) rfl rfl rfl ?_
      refine ak.nil ?_
      obtain rfl:=aG h
      exact dj 0 (hm ())
     ·have h:=gL ao cB
      refine aA ?_
      refine ax ?_
      obtain⟨dA,ij,h⟩:=ar h
      refine bh (dc (k:=dA) qQ (ad rfl) (ad rfl) (bC ij)) ?_
      refine b5 0 ((aI.id (Vector Bool 128)).comp (aI.idx (α:=Bool) 128 dA (bC ij).1)) hR ?_
      refine aH ?_
      refine aJ ?_
      obtain⟨cy,dE,h⟩:=ar h
      refine hQ (γ:=Unit) [0,1,2,3,4,5,6,7,8,9,10,11,12,23,31,38] (fun cx=> []) (fun cx=> [(2,⟨some ff,.var (cy:Vector (BitVec 8) 512)⟩)]) (fun cx=> ?_) (fun hm ao=> ?_) fun hm ao=> ?_
      ·clear dE
       obtain rfl:=aG h
       exact dj 0 (hm ())
      ·have h:=gK ao dE
       refine ag.b1 ?_
       refine ax ?_
       obtain⟨eM,ju,h⟩:=ar h
       refine bh (dc (k:=eM) jE (ad rfl) (ad rfl) (bC ju)) ?_
       refine ak.store (i:=2) ((aI.id (Vector (BitVec 8) 512)).comp (aI.idx (α:=BitVec 8) 512 eM (bC ju).1)) (v:=(1#8:BitVec 8)) (b':=(cq s2.2 eM (1#8):Vector (BitVec 8) 512)) iy (ad rfl) (nn 1 rfl) rfl rfl rfl ?_
       refine ak.nil ?_
       obtain rfl:=aG h
       exact dj 0 (hm ())
      ·have h:=gL ao dE
       refine ag.skip ?_
       obtain rfl:=aG h
       exact dj 0 (hm ())
    ·refine ag.exit ?_
     refine ae.exit ?_
     obtain rfl:=aG h
     exact c6 () 0
   ·clear al
    refine ae.dD ?_
    refine ae.db ?_
    refine ae.next ?_
    refine ag.b1 ?_
    refine a5 cL ?_
    refine ax ?_
    refine ak.nil ?_
    obtain rfl:=aG h
    exact dO () 2
  ·refine ag.exit ?_
   refine ae.exit ?_
   obtain rfl:=aG h
   exact c6 () 0
 ·clear al
  refine ae.dD ?_
  refine ae.next ?_
  refine aA ?_
  refine bY 0 ej ?_
  refine bS 1 ej ?_
  refine aJ ?_
  refine ag.ret ?_
  obtain rfl:=aG h
  exact ae.gh rfl (dF 1 ej)
theorem EV {aa:Vector (BitVec 8) 512} {ai:List (Vector (BitVec 8) 512)} {r:(List (Vector (BitVec 8) 512))} (h:tx aa ai=some r):bn Tryz.prog 128 [I.of (aa),I.of (ai)] (I.of (r)):=by
 unfold tx at h
 refine bn.of Tryz.func128 rfl Tryz.ntmps128 rfl fun W A=> ?_
 refine aA ?_
 refine ca fun bf=> ?_
 refine bh (eC (look_nil (α:=Vector (BitVec 8) 512))) ?_
 refine bE ?_
 refine ak.own (α:=Vector (BitVec 8) 512) 181 ?_
 refine bh (eC pI) ?_
 refine bx ?_
 refine aA ?_
 refine ax ?_
 refine aY (er Tryz.underlying182) ?_
 refine ax ?_
 refine aJ ?_
 refine ag.block ?_
 obtain⟨ay,al,h⟩:=ar h
 refine eD (γ:=(Option Nat × Nat)) (δ:=(Option Nat × Nat)) al [0,1,2,4,10,11] (fun s1 au=> [(5,I.eq (aZ au.1 s1.2.length au.2)),(12,I.of (s1.1))]) (fun s1 au=> [(0,⟨au.1,.row 181 (s1.2:List (Vector (BitVec 8) 512)) au.2⟩)]) (fun az=>Exit.exit 0) (fun az au=> [(5,I.eq (aZ au.1 az.2.2.length au.2)),(12,I.of (az.1)),(13,I.of (az.2.1))]) (fun az au=> [(0,⟨au.1,.row 181 (az.2.2:List (Vector (BitVec 8) 512)) au.2⟩)]) (none,0) (fun s1 r h au=> ?_) fun au=> ?_
 ·clear al
  refine aA ?_
  refine a5 dd ?_
  refine bx ?_
  refine b0 h (fun h=>?_) fun h=>?_
  ·refine cn ?_
   refine ag.seq ?_
   refine ag.block ?_
   refine aA ?_
   obtain⟨aV,b4,h⟩:=ar h
   refine fq b4 Tryz.underlying182 ej ?_
   refine aY (cK ej) ?_
   refine ch iS fun bw=> ?_
   refine bS 0 ej ?_
   refine bE ?_
   refine bY 2 ej ?_
   refine bY 0 ej ?_
   obtain⟨aD,bp,h⟩:=ar h
   refine cH V1 (R5 bp) ?_
   refine ax ?_
   refine dG ?_
   refine dG ?_
   refine ch iS fun cz=> ?_
   refine bS 0 ej ?_
   refine aH ?_
   refine bE ?_
   refine ax ?_
   refine aJ ?_
   obtain⟨bJ,cB,h⟩:=ar h
   refine hQ (γ:=(Option Nat × Nat)) [0,1,2,4,7,9,10,11,12,13,22] (fun aT=> [(5,I.eq (aZ aT.1 bJ.length aT.2))]) (fun aT=> [(2,⟨aT.1,.row 181 (bJ:List (Vector (BitVec 8) 512)) aT.2⟩)]) (fun aT=> ?_) (fun hm ao=> ?_) fun hm ao=> ?_
   ·clear cB
    refine ae.db ?_
    refine ae.next ?_
    refine ag.b1 ?_
    refine a5 cL ?_
    refine ax ?_
    refine ak.nil ?_
    obtain rfl:=aG h
    exact dO (aT.1,aT.2) 2
   ·have h:=gK ao cB
    refine ag.b1 ?_
    refine ax ?_
    refine bY 1 ej ?_
    refine fQ [(aB ai aV)] Tryz.underlying182 ej iS ?_
    obtain⟨aM,b9,h⟩:=ar h
    refine jv 2 Tryz.underlying182 ej iS b9 fun gE e2=> ?_
    refine aH ?_
    refine ak.nil ?_
    obtain rfl:=aG h
    exact dj 0 (hm (gE,e2))
   ·have h:=gL ao cB
    refine ag.skip ?_
    obtain rfl:=aG h
    exact dj 0 (hm (au.1,au.2))
  ·refine ag.exit ?_
   refine ae.exit ?_
   obtain rfl:=aG h
   exact c6 (au.1,au.2) 0
 ·clear al
  refine ae.dD ?_
  refine ae.next ?_
  refine aA ?_
  refine ax ?_
  refine aH ?_
  refine aJ ?_
  refine ag.ret ?_
  refine ae.kF (α:=Vector (BitVec 8) 512) 0 [4,5,28] ⟨rfl,rfl,rfl,trivial⟩ rfl ?_
  obtain rfl:=aG h
  exact c3
end Go.Proofs.YtmnggbjcnoffeaaGreat
namespace Go.Proofs.YtmnggbjcnoffeaaGreat
open Go Gv
set_option linter.unusedVariables false
set_option linter.unusedSimpArgs false
set_option maxRecDepth 100000
set_option maxHeartbeats 2000000
theorem Qh {aa:List cP} {ai:Int} {aR:Int} {cQ:cP→cP→Option Int} {hc:Option Nat} {eH:Nat} {r:(List cP)} (h:xo aa ai aR cQ=some r):cG Tryz.prog 168 [I.eq (aZ hc aa.length eH),I.of (ai),I.of (aR),I.rk Tryz.prog cQ] [⟨hc,.row 97 (aa:List cP) eH⟩] (δ:=Unit) (fun d=>I.eI []) (fun d=> [⟨hc,.row 97 (r:List cP) eH⟩]):=by
 unfold xo at h
 refine cG.of Tryz.func168 rfl Tryz.ntmps168 rfl fun W A=> ?_
 refine aA ?_
 refine ax ?_
 refine a5 cL ?_
 refine aH ?_
 refine aJ ?_
 refine ag.block ?_
 obtain⟨ay,al,h⟩:=ar h
 refine eD (γ:=Unit) (δ:=Unit) al [1,2,3] (fun s1 au=> [(0,I.eq (aZ hc s1.2.length eH)),(8,I.of (s1.1))]) (fun s1 au=> [(0,⟨hc,.row 97 (s1.2:List cP) eH⟩)]) (fun az=>Exit.exit 0) (fun az au=> [(0,I.eq (aZ hc az.2.2.length eH)),(8,I.of (az.1)),(14,I.of (az.2.1))]) (fun az au=> [(0,⟨hc,.row 97 (az.2.2:List cP) eH⟩)]) () (fun s1 r h au=> ?_) fun au=> ?_
 ·clear al
  refine ag.seq ?_
  refine aA ?_
  refine ax ?_
  refine ax ?_
  refine a5 dd ?_
  refine aJ ?_
  refine b0 h (fun h=>?_) fun h=>?_
  ·refine cn ?_
   refine ag.seq ?_
   refine ag.block ?_
   refine aA ?_
   refine ax ?_
   refine aH ?_
   refine aJ ?_
   refine ag.block ?_
   obtain⟨aS,al,h⟩:=ar h
   refine eD (γ:=Unit) (δ:=Unit) al [1,2,3,8,14] (fun s2 aT=> [(0,I.eq (aZ hc s2.2.length eH)),(9,I.of (s2.1))]) (fun s2 aT=> [(0,⟨hc,.row 97 (s2.2:List cP) eH⟩)]) (fun ck=>Exit.exit 2) (fun ck aT=> [(0,I.eq (aZ hc ck.2.2.length eH)),(9,I.of (ck.1)),(34,I.of (ck.2.1))]) (fun ck aT=> [(0,⟨hc,.row 97 (ck.2.2:List cP) eH⟩)]) () (fun s2 r h aT=> ?_) fun aT=> ?_
   ·clear al
    refine ag.seq ?_
    refine ag.seq ?_
    obtain⟨aV,b4,h⟩:=ar h
    obtain⟨bu,cD,h⟩:=ar h
    obtain⟨aD,bp,h⟩:=ar h
    refine ag.draw mixed 17 ((some 18) :: (some 19) :: (some 20) :: (some 21) :: (some 22) :: (some 23) :: (some 24) :: (some 25) :: (some 26) :: (some 27) :: (some 28) :: (some 29) :: (some 30) :: (some 31) :: (some 32) :: (some 33) :: (some 34) :: []) ([] :: [] :: [0,1] :: [2] :: [3] :: [3] :: [3] :: [3,5,6] :: [3,7] :: [3] :: [3] :: [3,10] :: [3,9,11] :: [3,12] :: [3,4,8,13] :: [3,14] :: [3,15] :: []) (.val _ :: .val _ :: .val _ :: .val _ :: .val _ :: .val _ :: .val _ :: .val _ :: .val _ :: .val _ :: .val _ :: .val _ :: .val _ :: .val _ :: .val _ :: .val _ :: .val _ :: []) (false :: false :: false :: false :: false :: false :: false :: false :: false :: false :: false :: false :: false :: false :: false :: false :: false :: []) (by kernel_rfl) rfl rfl rfl (fun c5=>⟨cw,cw,lq lY,cw,ew fun aC av=>fun hb=>cN (ad rfl),ew fun aC av=>fun hb=>cN (ad rfl),ew fun aC av=>fun hb=>cN (ad rfl),ew fun aC av=>fun hb=>mX (i:=0) (k:=aV) (xs:=(s2.2:List cP)) Tryz.underlying94 k3 (ct rfl hb) (ct rfl hb) (av _ _ rfl rfl) (bC (fE b4 hb)),ew fun aC av=>fun hb=>wc (i:=0) (k:=aV) (aI.id cP) (r:=(aB s2.2 aV)) k3 (ct rfl hb) (av _ _ rfl rfl) (bC (fE b4 hb)).1 rfl rfl,ew fun aC av=>fun hb=>cN (ad rfl),ew fun aC av=>fun hb=>cN (ad rfl),ew fun aC av=>fun hb=>jn (ct rfl hb) (bF 1),ew fun aC av=>fun hb=>mX (i:=0) (k:=bu) (xs:=(s2.2:List cP)) Tryz.underlying94 k3 (ct rfl hb) (ct rfl hb) (av _ _ rfl rfl) (bC (fE cD hb)),ew fun aC av=>fun hb=>wc (i:=0) (k:=bu) (aI.id cP) (r:=(aB s2.2 bu)) k3 (ct rfl hb) (av _ _ rfl rfl) (bC (fE cD hb)).1 rfl rfl,ew fun aC av=>fun hb=>Cj (ct rfl hb) (ct rfl hb) (ct rfl hb) (fE bp hb),ew fun aC av=>fun hb=>dd (ct rfl hb) (bF 0),df fun aC av=>oh (ad rfl) (ad rfl) (fun h=>h),trivial⟩) fun c5=> ?_
    refine aJ ?_
    refine b0 h (fun h=>?_) fun h=>?_
    ·refine cn ?_
     refine ag.seq ?_
     refine ag.block ?_
     obtain⟨cb,eu,h⟩:=ar h
     obtain⟨du,hx,h⟩:=ar h
     obtain⟨dA,ij,h⟩:=ar h
     obtain⟨eM,ju,h⟩:=ar h
     refine lI [0,1,2,3,8,9,14,18,19,20,21,22,23,24,25,26,27,28,29,30,31,32,33,34] ?_
     refine ag.kn mixed (bt 37 [] [] _ :: bt 38 [] [] _ :: bt 39 [] [] _ :: bt 40 [] [] _ :: bt 41 (3 :: []) [] _ :: bt 42 [] [] _ :: bt 43 [] [] _ :: bt 44 (6 :: []) [] _ :: bt 45 (5 :: 7 :: []) (0 :: []) _ :: bt 46 (8 :: []) (0 :: []) _ :: bt 47 [] [] _ :: bt 48 [] [] _ :: bt 49 (10 :: 11 :: []) (0 :: []) _ :: bt 50 (12 :: []) (0 :: []) _ :: bt 51 (0 :: 1 :: []) (0 :: []) _ :: ⟨none,(8 :: 9 :: 12 :: 13 :: 14 :: []),(0 :: []),(0 :: []),fun _=>I.any,fun hd _=>⟨hc,.row 97 (et s2.2 dA (aB s2.2 cb):List cP) eH⟩⟩ :: bt 52 (2 :: 4 :: 15 :: []) (0 :: []) _ :: ⟨none,(8 :: 9 :: 12 :: 13 :: 14 :: 15 :: 16 :: []),(0 :: []),(0 :: []),fun _=>I.any,fun hd _=>⟨hc,.row 97 (et (et s2.2 dA (aB s2.2 cb)) eM (aB s2.2 du):List cP) eH⟩⟩ :: []) _ (0 :: 1 :: 2 :: 3 :: 8 :: 9 :: 14 :: 18 :: 19 :: 20 :: 21 :: 22 :: 23 :: 24 :: 25 :: 26 :: 27 :: 28 :: 29 :: 30 :: 31 :: 32 :: 33 :: 34 :: []) rfl rfl (by kernel_rfl) ⟨gb,gb,gb,gb,xf jn,gb,gb,xf jn,c2 fun hd E' aC aL av=>mX (i:=0) (k:=cb) (xs:=(s2.2:List cP)) Tryz.underlying94 k3 (ad (aL _ _ rfl)) (ad (aL _ _ rfl)) (av 0 _ rfl rfl) (bC eu),c2 fun hd E' aC aL av=>wc (i:=0) (k:=cb) (aI.id cP) (r:=(aB s2.2 cb)) k3 (ad (aL _ _ rfl)) (av 0 _ rfl rfl) (bC eu).1 rfl rfl,gb,gb,c2 fun hd E' aC aL av=>mX (i:=0) (k:=du) (xs:=(s2.2:List cP)) Tryz.underlying94 k3 (ad (aL _ _ rfl)) (ad (aL _ _ rfl)) (av 0 _ rfl rfl) (bC hx),c2 fun hd E' aC aL av=>wc (i:=0) (k:=du) (aI.id cP) (r:=(aB s2.2 du)) k3 (ad (aL _ _ rfl)) (av 0 _ rfl rfl) (bC hx).1 rfl rfl,c2 fun hd E' aC aL av=>mX (i:=0) (k:=dA) (xs:=(s2.2:List cP)) Tryz.underlying94 k3 (ad (aL _ _ rfl)) (ad (aL _ _ rfl)) (av 0 _ rfl rfl) (bC ij),?_,c2 fun hd E' aC aL av=>mX (i:=0) (k:=eM) (xs:=(et s2.2 dA (aB s2.2 cb):List cP)) Tryz.underlying94 k3 (TA (m:=(et s2.2 dA (aB s2.2 cb)).length) (ir rfl) (ad (aL _ _ rfl))) (ad (aL _ _ rfl)) (av 0 _ rfl rfl) (bC ju),?_,trivial⟩ fun gO=> ?_
     ·intro hd E' aC aL av
      refine ak.si (i:=0) (k:=dA) (aI.id cP) (v:=((aB s2.2 cb):cP)) (r:=(et s2.2 dA (aB s2.2 cb):List cP)) k3 (ad (aL _ _ rfl)) (ad (aL _ _ rfl)) (av 0 _ rfl rfl) (bC ij).1 rfl rfl ?_
      refine ak.nil ?_
      exact ae.fin (fI []) rfl rfl
     ·intro hd E' aC aL av
      refine ak.si (i:=0) (k:=eM) (aI.id cP) (v:=((aB s2.2 du):cP)) (r:=(et (et s2.2 dA (aB s2.2 cb)) eM (aB s2.2 du):List cP)) k3 (ad (aL _ _ rfl)) (ad (aL _ _ rfl)) (av 0 _ rfl rfl) (bC ju).1 rfl rfl ?_
      refine ak.nil ?_
      exact ae.fin (fI []) rfl rfl
     refine ae.gu (L2:= [⟨hc,.row 97 (et (et s2.2 dA (aB s2.2 cb)) eM (aB s2.2 du):List cP) eH⟩]) rfl ?_
     refine ae.gY (m:=(et s2.2 dA (aB s2.2 cb)).length) 0 rfl (ir rfl) ?_
     refine ae.gY (m:=(et s2.2 dA (aB s2.2 cb)).length) 37 rfl (ir rfl) ?_
     refine ae.gY (m:=(et s2.2 dA (aB s2.2 cb)).length) 39 rfl (ir rfl) ?_
     refine ae.gY (m:=(et s2.2 dA (aB s2.2 cb)).length) 42 rfl (ir rfl) ?_
     refine ae.gY (m:=(et s2.2 dA (aB s2.2 cb)).length) 47 rfl (ir rfl) ?_
     refine ae.gY (m:=(et (et s2.2 dA (aB s2.2 cb)) eM (aB s2.2 du)).length) 0 rfl (ir rfl) ?_
     refine ae.gY (m:=(et (et s2.2 dA (aB s2.2 cb)) eM (aB s2.2 du)).length) 37 rfl (ir rfl) ?_
     refine ae.gY (m:=(et (et s2.2 dA (aB s2.2 cb)) eM (aB s2.2 du)).length) 39 rfl (ir rfl) ?_
     refine ae.gY (m:=(et (et s2.2 dA (aB s2.2 cb)) eM (aB s2.2 du)).length) 42 rfl (ir rfl) ?_
     refine ae.gY (m:=(et (et s2.2 dA (aB s2.2 cb)) eM (aB s2.2 du)).length) 47 rfl (ir rfl) ?_
     refine l8 [0,1,2,3,8,9,14,18,19,20,21,22,23,24,25,26,27,28,29,30,31,32,33,34,37,38,39,40,41,42,43,44,45,46,47,48,49,50,51,52] ?_
     refine ae.db ?_
     refine ae.next ?_
     refine ag.b1 ?_
     refine ax ?_
     refine a5 jn ?_
     refine aH ?_
     refine ak.nil ?_
     obtain rfl:=aG h
     exact dO () 0
    ·refine ag.exit ?_
     refine ae.exit ?_
     obtain rfl:=aG h
     exact c6 () 0
   ·clear al
    refine ae.dD ?_
    refine ae.db ?_
    refine ae.next ?_
    refine ag.b1 ?_
    refine ax ?_
    refine a5 cL ?_
    refine aH ?_
    refine ak.nil ?_
    obtain rfl:=aG h
    exact dO () 0
  ·refine ag.exit ?_
   refine ae.exit ?_
   obtain rfl:=aG h
   exact c6 () 0
 ·clear al
  refine ae.dD ?_
  refine ae.q5 ?_
  refine ae.cd 0 rfl ?_
  obtain rfl:=aG h
  exact ae.oq () (.cons_cons _ (List.nil_sublist _)) rfl rfl
end Go.Proofs.YtmnggbjcnoffeaaGreat
namespace Go.Proofs.YtmnggbjcnoffeaaGreat
open Go Gv
set_option linter.unusedVariables false
set_option linter.unusedSimpArgs false
set_option maxRecDepth 100000
set_option maxHeartbeats 2000000
theorem Kp {aa:a0} {r:(Vector (List Int) 6)} (h:vS aa=some r):bn Tryz.prog 142 [I.of (aa)] (I.of (r)):=by
 unfold vS at h
 refine bn.of Tryz.func142 rfl Tryz.ntmps142 rfl fun W A=> ?_
 refine aA ?_
 refine ca fun bf=> ?_
 refine ch Ns fun bw=> ?_
 refine bE ?_
 refine ak.oV (z:=(default:Vector (List Int) 6)) [0,1,2,3,4,5] Rj Ns rfl fun cz=> ?_
 refine ak.own (α:=Int) 3 ?_
 refine ak.own (α:=Int) 3 ?_
 refine ak.own (α:=Int) 3 ?_
 refine ak.own (α:=Int) 3 ?_
 refine ak.own (α:=Int) 3 ?_
 refine ak.own (α:=Int) 3 ?_
 refine bx ?_
 refine aA ?_
 refine aY (a2 tU) ?_
 refine b5 8 tl sE ?_
 refine aY (er Tryz.underlying24) ?_
 refine ax ?_
 refine aJ ?_
 refine ag.block ?_
 obtain⟨ay,al,h⟩:=ar h
 refine eD (γ:=(Option Nat × Nat)) (δ:=(Option Nat × Nat)) al [0,1,2,3,17,18] (fun s1 au=> [(19,I.of (s1.1))]) (fun s1 au=> [(5,⟨au.1,.row 3 (s1.2.1:List Int) au.2⟩),(6,⟨some cz,.cC (s1.2.2:Vector (List Int) 6) [(0,aZ au.1 s1.2.1.length au.2),(1,aZ none ([]:List Int).length 0),(2,aZ none ([]:List Int).length 0),(3,aZ none ([]:List Int).length 0),(4,aZ none ([]:List Int).length 0),(5,aZ none ([]:List Int).length 0)]⟩)]) (fun az=>Exit.exit 0) (fun az au=> [(19,I.of (az.1)),(20,I.of (az.2.1))]) (fun az au=> [(5,⟨au.1,.row 3 (az.2.2.1:List Int) au.2⟩),(6,⟨some cz,.cC (az.2.2.2:Vector (List Int) 6) [(0,aZ au.1 az.2.2.1.length au.2),(1,aZ none ([]:List Int).length 0),(2,aZ none ([]:List Int).length 0),(3,aZ none ([]:List Int).length 0),(4,aZ none ([]:List Int).length 0),(5,aZ none ([]:List Int).length 0)]⟩)]) (none,0) (fun s1 r h au=> ?_) fun au=> ?_
 ·clear al
  refine aA ?_
  refine a5 dd ?_
  refine bx ?_
  refine b0 h (fun h=>?_) fun h=>?_
  ·refine cn ?_
   refine ag.seq ?_
   refine ag.block ?_
   refine aA ?_
   obtain⟨aV,b4,h⟩:=ar h
   refine fq b4 Tryz.underlying24 oj ?_
   refine aY (cK oj) ?_
   refine ch oi fun ff=> ?_
   refine bS 0 oj ?_
   refine aJ ?_
   refine ag.b1 ?_
   refine bh (dc (k:=0) ot (ad rfl) (bF 0) ⟨by decide,rfl⟩) ?_
   refine bh (iR (i:=7) (q:=0) (β:=Vector (List Int) 6) (γ:=Int) k4 (ad rfl) rfl rfl) ?_
   refine aY (a2 FE) ?_
   refine b5 0 n4 bM ?_
   refine fQ [(aB aa.fg aV).bU] Tryz.underlying63 bM h3 ?_
   obtain⟨aD,bp,h⟩:=ar h
   refine jv 6 Tryz.underlying63 bM h3 bp fun gE e2=> ?_
   refine bh (dc (k:=0) ot (ad rfl) (bF 0) ⟨by decide,rfl⟩) ?_
   refine ak.jm (i:=7) (γ:=Int) (b':=(cq s1.2.2 0 []:Vector (List Int) 6)) (os':= [(0,aZ gE aD.length e2),(1,aZ none ([]:List Int).length 0),(2,aZ none ([]:List Int).length 0),(3,aZ none ([]:List Int).length 0),(4,aZ none ([]:List Int).length 0),(5,aZ none ([]:List Int).length 0)]) ((aI.id (Vector (List Int) 6)).comp (aI.idx (α:=List Int) 6 0 (by decide))) k4 (ad rfl) (ad rfl) iu rfl rfl rfl rfl ?_
   refine ak.nil ?_
   refine ae.db ?_
   refine ae.next ?_
   refine ag.b1 ?_
   refine a5 cL ?_
   refine ax ?_
   refine ak.nil ?_
   obtain rfl:=aG h
   exact dO (gE,e2) 1
  ·refine ag.exit ?_
   refine ae.exit ?_
   obtain rfl:=aG h
   exact c6 (au.1,au.2) 0
 ·clear al
  refine ae.dD ?_
  refine ae.next ?_
  refine ag.seq ?_
  refine aA ?_
  refine aY (a2 Mv) ?_
  refine b5 8 JA Hi ?_
  refine aY (er Tryz.underlying25) ?_
  refine ax ?_
  refine aJ ?_
  refine ag.block ?_
  obtain⟨aS,al,h⟩:=ar h
  refine eD (γ:=(Option Nat × Nat)) (δ:=(Option Nat × Nat)) al [0,1,2,3,17,18,19,20,32,33] (fun s2 aT=> [(34,I.of (s2.1))]) (fun s2 aT=> [(4,⟨aT.1,.row 3 (s2.2.1:List Int) aT.2⟩),(6,⟨some cz,.cC (s2.2.2:Vector (List Int) 6) [(0,aZ au.1 ay.2.2.1.length au.2),(1,aZ aT.1 s2.2.1.length aT.2),(2,aZ none ([]:List Int).length 0),(3,aZ none ([]:List Int).length 0),(4,aZ none ([]:List Int).length 0),(5,aZ none ([]:List Int).length 0)]⟩)]) (fun ck=>Exit.exit 2) (fun ck aT=> [(34,I.of (ck.1)),(35,I.of (ck.2.1))]) (fun ck aT=> [(4,⟨aT.1,.row 3 (ck.2.2.1:List Int) aT.2⟩),(6,⟨some cz,.cC (ck.2.2.2:Vector (List Int) 6) [(0,aZ au.1 ay.2.2.1.length au.2),(1,aZ aT.1 ck.2.2.1.length aT.2),(2,aZ none ([]:List Int).length 0),(3,aZ none ([]:List Int).length 0),(4,aZ none ([]:List Int).length 0),(5,aZ none ([]:List Int).length 0)]⟩)]) (none,0) (fun s2 r h aT=> ?_) fun aT=> ?_
  ·clear al
   refine aA ?_
   refine a5 dd ?_
   refine bx ?_
   refine b0 h (fun h=>?_) fun h=>?_
   ·refine cn ?_
    refine ag.seq ?_
    refine ag.block ?_
    refine aA ?_
    obtain⟨bu,cD,h⟩:=ar h
    refine fq cD Tryz.underlying25 CY ?_
    refine aY (cK CY) ?_
    refine ch zi fun nd=> ?_
    refine bS 0 CY ?_
    refine aJ ?_
    refine ag.b1 ?_
    refine bh (dc (k:=1) ot (ad rfl) (bF 1) ⟨by decide,rfl⟩) ?_
    refine bh (iR (i:=7) (q:=1) (β:=Vector (List Int) 6) (γ:=Int) k4 (ad rfl) rfl rfl) ?_
    refine aY (a2 Uf) ?_
    refine b5 0 BK bM ?_
    refine fQ [(aB aa.lA bu).bU] Tryz.underlying63 bM h3 ?_
    obtain⟨aM,b9,h⟩:=ar h
    refine jv 5 Tryz.underlying63 bM h3 b9 fun kq oy=> ?_
    refine bh (dc (k:=1) ot (ad rfl) (bF 1) ⟨by decide,rfl⟩) ?_
    refine ak.jm (i:=7) (γ:=Int) (b':=(cq s2.2.2 1 []:Vector (List Int) 6)) (os':= [(0,aZ au.1 ay.2.2.1.length au.2),(1,aZ kq aM.length oy),(2,aZ none ([]:List Int).length 0),(3,aZ none ([]:List Int).length 0),(4,aZ none ([]:List Int).length 0),(5,aZ none ([]:List Int).length 0)]) ((aI.id (Vector (List Int) 6)).comp (aI.idx (α:=List Int) 6 1 (by decide))) k4 (ad rfl) (ad rfl) iu rfl rfl rfl rfl ?_
    refine ak.nil ?_
    refine ae.db ?_
    refine ae.next ?_
    refine ag.b1 ?_
    refine a5 cL ?_
    refine ax ?_
    refine ak.nil ?_
    obtain rfl:=aG h
    exact dO (kq,oy) 1
   ·refine ag.exit ?_
    refine ae.exit ?_
    obtain rfl:=aG h
    exact c6 (aT.1,aT.2) 0
  ·clear al
   refine ae.dD ?_
   refine ae.next ?_
   refine ag.seq ?_
   refine aA ?_
   refine aY (a2 Mw) ?_
   refine b5 8 JC Hj ?_
   refine aY (er Tryz.underlying26) ?_
   refine ax ?_
   refine aJ ?_
   refine ag.block ?_
   obtain⟨cW,al,h⟩:=ar h
   refine eD (γ:=(Option Nat × Nat)) (δ:=(Option Nat × Nat)) al [0,1,2,3,17,18,19,20,32,33,34,35,47,48] (fun kT bq=> [(49,I.of (kT.1))]) (fun kT bq=> [(3,⟨bq.1,.row 3 (kT.2.1:List Int) bq.2⟩),(6,⟨some cz,.cC (kT.2.2:Vector (List Int) 6) [(0,aZ au.1 ay.2.2.1.length au.2),(1,aZ aT.1 aS.2.2.1.length aT.2),(2,aZ bq.1 kT.2.1.length bq.2),(3,aZ none ([]:List Int).length 0),(4,aZ none ([]:List Int).length 0),(5,aZ none ([]:List Int).length 0)]⟩)]) (fun fS=>Exit.exit 4) (fun fS bq=> [(49,I.of (fS.1)),(50,I.of (fS.2.1))]) (fun fS bq=> [(3,⟨bq.1,.row 3 (fS.2.2.1:List Int) bq.2⟩),(6,⟨some cz,.cC (fS.2.2.2:Vector (List Int) 6) [(0,aZ au.1 ay.2.2.1.length au.2),(1,aZ aT.1 aS.2.2.1.length aT.2),(2,aZ bq.1 fS.2.2.1.length bq.2),(3,aZ none ([]:List Int).length 0),(4,aZ none ([]:List Int).length 0),(5,aZ none ([]:List Int).length 0)]⟩)]) (none,0) (fun kT r h bq=> ?_) fun bq=> ?_
   ·clear al
    refine aA ?_
    refine a5 dd ?_
    refine bx ?_
    refine b0 h (fun h=>?_) fun h=>?_
    ·refine cn ?_
     refine ag.seq ?_
     refine ag.block ?_
     refine aA ?_
     obtain⟨cb,eu,h⟩:=ar h
     refine fq eu Tryz.underlying26 pO ?_
     refine aY (cK pO) ?_
     refine ch so fun PW=> ?_
     refine bS 0 pO ?_
     refine aJ ?_
     refine ag.b1 ?_
     refine bh (dc (k:=2) ot (ad rfl) (bF 2) ⟨by decide,rfl⟩) ?_
     refine bh (iR (i:=7) (q:=2) (β:=Vector (List Int) 6) (γ:=Int) k4 (ad rfl) rfl rfl) ?_
     refine aY (a2 Ug) ?_
     refine b5 0 BM bM ?_
     refine fQ [(aB aa.lW cb).bU] Tryz.underlying63 bM h3 ?_
     obtain⟨a8,dP,h⟩:=ar h
     refine jv 4 Tryz.underlying63 bM h3 dP fun m3 pX=> ?_
     refine bh (dc (k:=2) ot (ad rfl) (bF 2) ⟨by decide,rfl⟩) ?_
     refine ak.jm (i:=7) (γ:=Int) (b':=(cq kT.2.2 2 []:Vector (List Int) 6)) (os':= [(0,aZ au.1 ay.2.2.1.length au.2),(1,aZ aT.1 aS.2.2.1.length aT.2),(2,aZ m3 a8.length pX),(3,aZ none ([]:List Int).length 0),(4,aZ none ([]:List Int).length 0),(5,aZ none ([]:List Int).length 0)]) ((aI.id (Vector (List Int) 6)).comp (aI.idx (α:=List Int) 6 2 (by decide))) k4 (ad rfl) (ad rfl) iu rfl rfl rfl rfl ?_
     refine ak.nil ?_
     refine ae.db ?_
     refine ae.next ?_
     refine ag.b1 ?_
     refine a5 cL ?_
     refine ax ?_
     refine ak.nil ?_
     obtain rfl:=aG h
     exact dO (m3,pX) 1
    ·refine ag.exit ?_
     refine ae.exit ?_
     obtain rfl:=aG h
     exact c6 (bq.1,bq.2) 0
   ·clear al
    refine ae.dD ?_
    refine ae.next ?_
    refine ag.seq ?_
    refine aA ?_
    refine aY (a2 F9) ?_
    refine b5 8 Er Dh ?_
    refine aY (er Tryz.underlying27) ?_
    refine ax ?_
    refine aJ ?_
    refine ag.block ?_
    obtain⟨eh,al,h⟩:=ar h
    refine eD (γ:=(Option Nat × Nat)) (δ:=(Option Nat × Nat)) al [0,1,2,3,17,18,19,20,32,33,34,35,47,48,49,50,62,63] (fun lQ cx=> [(64,I.of (lQ.1))]) (fun lQ cx=> [(2,⟨cx.1,.row 3 (lQ.2.1:List Int) cx.2⟩),(6,⟨some cz,.cC (lQ.2.2:Vector (List Int) 6) [(0,aZ au.1 ay.2.2.1.length au.2),(1,aZ aT.1 aS.2.2.1.length aT.2),(2,aZ bq.1 cW.2.2.1.length bq.2),(3,aZ cx.1 lQ.2.1.length cx.2),(4,aZ none ([]:List Int).length 0),(5,aZ none ([]:List Int).length 0)]⟩)]) (fun je=>Exit.exit 6) (fun je cx=> [(64,I.of (je.1)),(65,I.of (je.2.1))]) (fun je cx=> [(2,⟨cx.1,.row 3 (je.2.2.1:List Int) cx.2⟩),(6,⟨some cz,.cC (je.2.2.2:Vector (List Int) 6) [(0,aZ au.1 ay.2.2.1.length au.2),(1,aZ aT.1 aS.2.2.1.length aT.2),(2,aZ bq.1 cW.2.2.1.length bq.2),(3,aZ cx.1 je.2.2.1.length cx.2),(4,aZ none ([]:List Int).length 0),(5,aZ none ([]:List Int).length 0)]⟩)]) (none,0) (fun lQ r h cx=> ?_) fun cx=> ?_
    ·clear al
     refine aA ?_
     refine a5 dd ?_
     refine bx ?_
     refine b0 h (fun h=>?_) fun h=>?_
     ·refine cn ?_
      refine ag.seq ?_
      refine ag.block ?_
      refine aA ?_
      obtain⟨du,hx,h⟩:=ar h
      refine fq hx Tryz.underlying27 mW ?_
      refine aY (cK mW) ?_
      refine ch o0 fun abw=> ?_
      refine bS 0 mW ?_
      refine aJ ?_
      refine ag.b1 ?_
      refine bh (dc (k:=3) ot (ad rfl) (bF 3) ⟨by decide,rfl⟩) ?_
      refine bh (iR (i:=7) (q:=3) (β:=Vector (List Int) 6) (γ:=Int) k4 (ad rfl) rfl rfl) ?_
      refine aY (a2 LU) ?_
      refine b5 0 rP bM ?_
      refine fQ [(aB aa.di du).bU] Tryz.underlying63 bM h3 ?_
      obtain⟨br,eW,h⟩:=ar h
      refine jv 3 Tryz.underlying63 bM h3 eW fun q3 zK=> ?_
      refine bh (dc (k:=3) ot (ad rfl) (bF 3) ⟨by decide,rfl⟩) ?_
      refine ak.jm (i:=7) (γ:=Int) (b':=(cq lQ.2.2 3 []:Vector (List Int) 6)) (os':= [(0,aZ au.1 ay.2.2.1.length au.2),(1,aZ aT.1 aS.2.2.1.length aT.2),(2,aZ bq.1 cW.2.2.1.length bq.2),(3,aZ q3 br.length zK),(4,aZ none ([]:List Int).length 0),(5,aZ none ([]:List Int).length 0)]) ((aI.id (Vector (List Int) 6)).comp (aI.idx (α:=List Int) 6 3 (by decide))) k4 (ad rfl) (ad rfl) iu rfl rfl rfl rfl ?_
      refine ak.nil ?_
      refine ae.db ?_
      refine ae.next ?_
      refine ag.b1 ?_
      refine a5 cL ?_
      refine ax ?_
      refine ak.nil ?_
      obtain rfl:=aG h
      exact dO (q3,zK) 1
     ·refine ag.exit ?_
      refine ae.exit ?_
      obtain rfl:=aG h
      exact c6 (cx.1,cx.2) 0
    ·clear al
     refine ae.dD ?_
     refine ae.next ?_
     refine ag.seq ?_
     refine aA ?_
     refine aY (a2 lE) ?_
     refine b5 8 ly k2 ?_
     refine aY (er Tryz.underlying28) ?_
     refine ax ?_
     refine aJ ?_
     refine ag.block ?_
     obtain⟨gS,al,h⟩:=ar h
     refine eD (γ:=(Option Nat × Nat)) (δ:=(Option Nat × Nat)) al [0,1,2,3,17,18,19,20,32,33,34,35,47,48,49,50,62,63,64,65,77,78] (fun hL gT=> [(79,I.of (hL.1))]) (fun hL gT=> [(1,⟨gT.1,.row 3 (hL.2.1:List Int) gT.2⟩),(6,⟨some cz,.cC (hL.2.2:Vector (List Int) 6) [(0,aZ au.1 ay.2.2.1.length au.2),(1,aZ aT.1 aS.2.2.1.length aT.2),(2,aZ bq.1 cW.2.2.1.length bq.2),(3,aZ cx.1 eh.2.2.1.length cx.2),(4,aZ gT.1 hL.2.1.length gT.2),(5,aZ none ([]:List Int).length 0)]⟩)]) (fun ey=>Exit.exit 8) (fun ey gT=> [(79,I.of (ey.1)),(80,I.of (ey.2.1))]) (fun ey gT=> [(1,⟨gT.1,.row 3 (ey.2.2.1:List Int) gT.2⟩),(6,⟨some cz,.cC (ey.2.2.2:Vector (List Int) 6) [(0,aZ au.1 ay.2.2.1.length au.2),(1,aZ aT.1 aS.2.2.1.length aT.2),(2,aZ bq.1 cW.2.2.1.length bq.2),(3,aZ cx.1 eh.2.2.1.length cx.2),(4,aZ gT.1 ey.2.2.1.length gT.2),(5,aZ none ([]:List Int).length 0)]⟩)]) (none,0) (fun hL r h gT=> ?_) fun gT=> ?_
     ·clear al
      refine aA ?_
      refine a5 dd ?_
      refine bx ?_
      refine b0 h (fun h=>?_) fun h=>?_
      ·refine cn ?_
       refine ag.seq ?_
       refine ag.block ?_
       refine aA ?_
       obtain⟨dA,ij,h⟩:=ar h
       refine fq ij Tryz.underlying28 fO ?_
       refine aY (cK fO) ?_
       refine ch l3 fun abx=> ?_
       refine bS 0 fO ?_
       refine aJ ?_
       refine ag.b1 ?_
       refine bh (dc (k:=4) ot (ad rfl) (bF 4) ⟨by decide,rfl⟩) ?_
       refine bh (iR (i:=7) (q:=4) (β:=Vector (List Int) 6) (γ:=Int) k4 (ad rfl) rfl rfl) ?_
       refine aY (a2 tQ) ?_
       refine b5 0 oN bM ?_
       refine fQ [(aB aa.bB dA).bU] Tryz.underlying63 bM h3 ?_
       obtain⟨cj,gH,h⟩:=ar h
       refine jv 2 Tryz.underlying63 bM h3 gH fun pW Ou=> ?_
       refine bh (dc (k:=4) ot (ad rfl) (bF 4) ⟨by decide,rfl⟩) ?_
       refine ak.jm (i:=7) (γ:=Int) (b':=(cq hL.2.2 4 []:Vector (List Int) 6)) (os':= [(0,aZ au.1 ay.2.2.1.length au.2),(1,aZ aT.1 aS.2.2.1.length aT.2),(2,aZ bq.1 cW.2.2.1.length bq.2),(3,aZ cx.1 eh.2.2.1.length cx.2),(4,aZ pW cj.length Ou),(5,aZ none ([]:List Int).length 0)]) ((aI.id (Vector (List Int) 6)).comp (aI.idx (α:=List Int) 6 4 (by decide))) k4 (ad rfl) (ad rfl) iu rfl rfl rfl rfl ?_
       refine ak.nil ?_
       refine ae.db ?_
       refine ae.next ?_
       refine ag.b1 ?_
       refine a5 cL ?_
       refine ax ?_
       refine ak.nil ?_
       obtain rfl:=aG h
       exact dO (pW,Ou) 1
      ·refine ag.exit ?_
       refine ae.exit ?_
       obtain rfl:=aG h
       exact c6 (gT.1,gT.2) 0
     ·clear al
      refine ae.dD ?_
      refine ae.next ?_
      refine ag.seq ?_
      refine aA ?_
      refine aY (a2 Mx) ?_
      refine b5 8 JE Hk ?_
      refine aY (er Tryz.underlying30) ?_
      refine ax ?_
      refine aJ ?_
      refine ag.block ?_
      obtain⟨hC,al,h⟩:=ar h
      refine eD (γ:=(Option Nat × Nat)) (δ:=(Option Nat × Nat)) al [0,1,2,3,17,18,19,20,32,33,34,35,47,48,49,50,62,63,64,65,77,78,79,80,92,93] (fun il kU=> [(94,I.of (il.1))]) (fun il kU=> [(0,⟨kU.1,.row 3 (il.2.1:List Int) kU.2⟩),(6,⟨some cz,.cC (il.2.2:Vector (List Int) 6) [(0,aZ au.1 ay.2.2.1.length au.2),(1,aZ aT.1 aS.2.2.1.length aT.2),(2,aZ bq.1 cW.2.2.1.length bq.2),(3,aZ cx.1 eh.2.2.1.length cx.2),(4,aZ gT.1 gS.2.2.1.length gT.2),(5,aZ kU.1 il.2.1.length kU.2)]⟩)]) (fun jf=>Exit.exit 10) (fun jf kU=> [(94,I.of (jf.1)),(95,I.of (jf.2.1))]) (fun jf kU=> [(0,⟨kU.1,.row 3 (jf.2.2.1:List Int) kU.2⟩),(6,⟨some cz,.cC (jf.2.2.2:Vector (List Int) 6) [(0,aZ au.1 ay.2.2.1.length au.2),(1,aZ aT.1 aS.2.2.1.length aT.2),(2,aZ bq.1 cW.2.2.1.length bq.2),(3,aZ cx.1 eh.2.2.1.length cx.2),(4,aZ gT.1 gS.2.2.1.length gT.2),(5,aZ kU.1 jf.2.2.1.length kU.2)]⟩)]) (none,0) (fun il r h kU=> ?_) fun kU=> ?_
      ·clear al
       refine aA ?_
       refine a5 dd ?_
       refine bx ?_
       refine b0 h (fun h=>?_) fun h=>?_
       ·refine cn ?_
        refine ag.seq ?_
        refine ag.block ?_
        refine aA ?_
        obtain⟨eM,ju,h⟩:=ar h
        refine fq ju Tryz.underlying30 pP ?_
        refine aY (cK pP) ?_
        refine ch ss fun aby=> ?_
        refine bS 0 pP ?_
        refine aJ ?_
        refine ag.b1 ?_
        refine bh (dc (k:=5) ot (ad rfl) (bF 5) ⟨by decide,rfl⟩) ?_
        refine bh (iR (i:=7) (q:=5) (β:=Vector (List Int) 6) (γ:=Int) k4 (ad rfl) rfl rfl) ?_
        refine aY (a2 Uh) ?_
        refine b5 0 BQ bM ?_
        refine fQ [(aB aa.jl eM).bU] Tryz.underlying63 bM h3 ?_
        obtain⟨cM,hh,h⟩:=ar h
        refine jv 1 Tryz.underlying63 bM h3 hh fun zG Ov=> ?_
        refine bh (dc (k:=5) ot (ad rfl) (bF 5) ⟨by decide,rfl⟩) ?_
        refine ak.jm (i:=7) (γ:=Int) (b':=(cq il.2.2 5 []:Vector (List Int) 6)) (os':= [(0,aZ au.1 ay.2.2.1.length au.2),(1,aZ aT.1 aS.2.2.1.length aT.2),(2,aZ bq.1 cW.2.2.1.length bq.2),(3,aZ cx.1 eh.2.2.1.length cx.2),(4,aZ gT.1 gS.2.2.1.length gT.2),(5,aZ zG cM.length Ov)]) ((aI.id (Vector (List Int) 6)).comp (aI.idx (α:=List Int) 6 5 (by decide))) k4 (ad rfl) (ad rfl) iu rfl rfl rfl rfl ?_
        refine ak.nil ?_
        refine ae.db ?_
        refine ae.next ?_
        refine ag.b1 ?_
        refine a5 cL ?_
        refine ax ?_
        refine ak.nil ?_
        obtain rfl:=aG h
        exact dO (zG,Ov) 1
       ·refine ag.exit ?_
        refine ae.exit ?_
        obtain rfl:=aG h
        exact c6 (kU.1,kU.2) 0
      ·clear al
       refine ae.dD ?_
       refine ae.next ?_
       refine aA ?_
       refine ak.iW (β:=Vector (List Int) 6) (γ:=Int) (b':=(cq hC.2.2.2 0 ay.2.2.1:Vector (List Int) 6)) ((aI.id (Vector (List Int) 6)).comp (aI.idx (α:=List Int) 6 0 (by decide))) 6 5 0 rfl rfl rfl rfl rfl rfl ?_
       refine ak.iW (β:=Vector (List Int) 6) (γ:=Int) (b':=(cq (cq hC.2.2.2 0 ay.2.2.1) 1 aS.2.2.1:Vector (List Int) 6)) ((aI.id (Vector (List Int) 6)).comp (aI.idx (α:=List Int) 6 1 (by decide))) 6 4 0 rfl rfl rfl rfl rfl rfl ?_
       refine ak.iW (β:=Vector (List Int) 6) (γ:=Int) (b':=(cq (cq (cq hC.2.2.2 0 ay.2.2.1) 1 aS.2.2.1) 2 cW.2.2.1:Vector (List Int) 6)) ((aI.id (Vector (List Int) 6)).comp (aI.idx (α:=List Int) 6 2 (by decide))) 6 3 0 rfl rfl rfl rfl rfl rfl ?_
       refine ak.iW (β:=Vector (List Int) 6) (γ:=Int) (b':=(cq (cq (cq (cq hC.2.2.2 0 ay.2.2.1) 1 aS.2.2.1) 2 cW.2.2.1) 3 eh.2.2.1:Vector (List Int) 6)) ((aI.id (Vector (List Int) 6)).comp (aI.idx (α:=List Int) 6 3 (by decide))) 6 2 0 rfl rfl rfl rfl rfl rfl ?_
       refine ak.iW (β:=Vector (List Int) 6) (γ:=Int) (b':=(cq (cq (cq (cq (cq hC.2.2.2 0 ay.2.2.1) 1 aS.2.2.1) 2 cW.2.2.1) 3 eh.2.2.1) 4 gS.2.2.1:Vector (List Int) 6)) ((aI.id (Vector (List Int) 6)).comp (aI.idx (α:=List Int) 6 4 (by decide))) 6 1 0 rfl rfl rfl rfl rfl rfl ?_
       refine ak.iW (β:=Vector (List Int) 6) (γ:=Int) (b':=(cq (cq (cq (cq (cq (cq hC.2.2.2 0 ay.2.2.1) 1 aS.2.2.1) 2 cW.2.2.1) 3 eh.2.2.1) 4 gS.2.2.1) 5 hC.2.2.1:Vector (List Int) 6)) ((aI.id (Vector (List Int) 6)).comp (aI.idx (α:=List Int) 6 5 (by decide))) 6 0 0 rfl rfl rfl rfl rfl rfl ?_
       refine ak.nx 6 rfl ?_
       obtain⟨bN,dg,h⟩:=ar h
       refine dm dg (fb (i:=6) (aI.id (Vector (List Int) 6)) (r:=(cq (cq (cq (cq (cq (cq hC.2.2.2 0 ay.2.2.1) 1 aS.2.2.1) 2 cW.2.2.1) 3 eh.2.2.1) 4 gS.2.2.1) 5 hC.2.2.1)) GP (ad rfl) rfl rfl rfl) ?_
       refine bS 7 GP ?_
       refine aJ ?_
       refine ag.ret ?_
       obtain rfl:=aG h
       exact ae.gh rfl (dF 7 GP)
end Go.Proofs.YtmnggbjcnoffeaaGreat
namespace Go.Proofs.YtmnggbjcnoffeaaGreat
open Go Gv
set_option linter.unusedVariables false
set_option linter.unusedSimpArgs false
set_option maxRecDepth 100000
set_option maxHeartbeats 2000000
theorem RQ {aa:a1} {ai:Vector aw 4} {aR:Vector aw 4} {r:a1} (h:yg aa ai aR=some r):bn Tryz.prog 159 [I.of (aa),I.of (ai),I.of (aR)] (I.of (r)):=by
 unfold yg at h
 refine bn.of Tryz.func159 rfl Tryz.ntmps159 rfl fun W A=> ?_
 refine aA ?_
 refine ca fun bf=> ?_
 refine ca fun bw=> ?_
 refine ca fun cz=> ?_
 refine ch hX fun ff=> ?_
 refine bx ?_
 refine aA ?_
 refine ax ?_
 refine aJ ?_
 refine ag.block ?_
 obtain⟨ay,al,h⟩:=ar h
 refine eD (γ:=Unit) (δ:=Unit) al [0,1,2,3,4,5,6] (fun s1 au=> [(9,I.of (s1.1))]) (fun s1 au=> [(3,⟨some bf,.var (s1.2:a1)⟩)]) (fun az=>Exit.exit 0) (fun az au=> [(9,I.of (az.1)),(10,I.of (az.2.1))]) (fun az au=> [(3,⟨some bf,.var (az.2.2:a1)⟩)]) () (fun s1 r h au=> ?_) fun au=> ?_
 ·clear al
  refine aA ?_
  refine a5 dd ?_
  refine bx ?_
  refine b0 h (fun h=>?_) fun h=>?_
  ·refine cn ?_
   refine ag.seq ?_
   refine ag.block ?_
   refine aA ?_
   refine ax ?_
   refine aH ?_
   refine bx ?_
   obtain⟨aV,b4,h⟩:=ar h
   obtain⟨bu,cD,h⟩:=ar h
   obtain⟨aD,bp,h⟩:=ar h
   refine ag.draw mixed 8 [some 12,some 13,some 14,some 15,some 16,some 17,some 18,some 8] [[],[0],[1],[],[3],[4],[2,5],[]] [.val _,.val _,.val _,.val _,.val _,.val _,.val _,.new (.var (default:aw))] [false,false,false,false,false,false,false,false] (by kernel_rfl) rfl rfl rfl (fun c5=>⟨cw,df fun aC av=>dc (k:=aV) gq (ad rfl) (ad rfl) (bC b4),dN 2 ((aI.id (Vector aw 4)).comp (aI.idx (α:=aw) 4 aV (bC b4).1)) bT,cw,df fun aC av=>dc (k:=bu) gq (ad rfl) (ad rfl) (bC cD),dN 1 ((aI.id (Vector aw 4)).comp (aI.idx (α:=aw) 4 bu (bC cD).1)) bT,fc qV (qs bp),oS dY,trivial⟩) fun c5=> ?_
   refine bS 0 bT ?_
   refine bx ?_
   obtain⟨cb,eu,h⟩:=ar h
   obtain⟨du,hx,h⟩:=ar h
   obtain⟨dA,ij,h⟩:=ar h
   obtain⟨aM,b9,h⟩:=ar h
   obtain⟨a8,dP,h⟩:=ar h
   obtain⟨br,eW,h⟩:=ar h
   obtain⟨eM,ju,h⟩:=ar h
   refine ag.draw mixed 17 ((some 19) :: (some 20) :: (some 21) :: (some 22) :: (some 23) :: (some 24) :: (some 25) :: (some 26) :: (some 27) :: (some 28) :: (some 29) :: (some 30) :: (some 31) :: (some 32) :: (some 33) :: (some 34) :: (some 35) :: []) ([] :: [] :: [] :: [1,2] :: [3] :: [] :: [5] :: [6] :: [] :: [8] :: [9] :: [7,10] :: [] :: [11,12] :: [4,13] :: [] :: [0,15] :: []) (.val _ :: .val _ :: .val _ :: .val _ :: .val _ :: .val _ :: .val _ :: .val _ :: .val _ :: .val _ :: .val _ :: .val _ :: .val _ :: .val _ :: .val _ :: .val _ :: .val _ :: []) (false :: false :: false :: false :: false :: false :: false :: false :: false :: false :: false :: false :: false :: false :: false :: false :: false :: []) (by kernel_rfl) rfl rfl rfl (fun iz=>⟨cw,cw,H1 (a2 mR),df fun aC av=>dc (k:=cb) gq (ad rfl) (ad rfl) (bC eu),dN 4 (((aI.id a1).comp lz).comp (aI.idx (α:=aw) 4 cb (bC eu).1)) bT,cw,df fun aC av=>dc (k:=du) gq (ad rfl) (ad rfl) (bC hx),dN 3 ((aI.id (Vector aw 4)).comp (aI.idx (α:=aw) 4 du (bC hx).1)) bT,cw,df fun aC av=>dc (k:=dA) gq (ad rfl) (ad rfl) (bC ij),dN 2 ((aI.id (Vector aw 4)).comp (aI.idx (α:=aw) 4 dA (bC ij).1)) bT,fc qW (qu b9),fz 0 bT,fc C2 (B1 dP),fc qW (qu eW),H1 (a2 mR),df fun aC av=>dc (k:=eM) gq (ad rfl) (ad rfl) (bC ju),trivial⟩) fun iz=> ?_
   refine jt 4 (((aI.id a1).comp lz).comp (aI.idx (α:=aw) 4 eM (bC ju).1)) bT ?_
   refine aJ ?_
   obtain⟨jy,nK,h⟩:=ar h
   obtain⟨jg,nL,h⟩:=ar h
   obtain⟨cj,gH,h⟩:=ar h
   obtain⟨cM,hh,h⟩:=ar h
   obtain⟨mg,sU,h⟩:=ar h
   refine ag.draw mixed 13 [some 36,some 37,some 38,some 39,some 40,some 41,some 42,some 43,some 44,some 45,some 46,some 47,some 48] [[],[],[],[1,2],[3],[],[5],[6],[],[7,8],[4,9],[],[0,11]] [.val _,.val _,.val _,.val _,.val _,.val _,.val _,.val _,.val _,.val _,.val _,.val _,.val _] [false,false,false,false,false,false,false,false,false,false,false,false,false] (by kernel_rfl) rfl rfl rfl (fun sT=>⟨cw,cw,H1 (a2 oa),df fun aC av=>dc (k:=jy) gq (ad rfl) (ad rfl) (bC nK),dN 4 (((aI.id a1).comp mi).comp (aI.idx (α:=aw) 4 jy (bC nK).1)) bT,cw,df fun aC av=>dc (k:=jg) gq (ad rfl) (ad rfl) (bC nL),dN 3 ((aI.id (Vector aw 4)).comp (aI.idx (α:=aw) 4 jg (bC nL).1)) bT,fz 0 bT,fc C2 (B1 gH),fc qW (qu hh),H1 (a2 oa),df fun aC av=>dc (k:=mg) gq (ad rfl) (ad rfl) (bC sU),trivial⟩) fun sT=> ?_
   obtain⟨bN,dg,h⟩:=ar h
   refine sP 4 (((aI.id a1).comp mi).comp (aI.idx (α:=aw) 4 mg (bC sU).1)) bT (hb:=by exact dg) ?_
   refine ak.nil ?_
   refine ae.db ?_
   refine ae.next ?_
   refine ag.b1 ?_
   refine a5 cL ?_
   refine ax ?_
   refine ak.nil ?_
   obtain rfl:=aG h
   exact dO () 1
  ·refine ag.exit ?_
   refine ae.exit ?_
   obtain rfl:=aG h
   exact c6 () 0
 ·clear al
  refine ae.dD ?_
  refine ae.next ?_
  refine aA ?_
  refine bY 3 cY ?_
  refine bS 0 cY ?_
  refine aJ ?_
  refine ag.ret ?_
  obtain rfl:=aG h
  exact ae.gh rfl (dF 0 cY)
theorem Qk {aa:List cP} {ai:Int} {aR:cP→cP→Option Int} {hc:Option Nat} {eH:Nat} {r:(List cP)} (h:Be aa ai aR=some r):cG Tryz.prog 125 [I.eq (aZ hc aa.length eH),I.of (ai),I.rk Tryz.prog aR] [⟨hc,.row 97 (aa:List cP) eH⟩] (δ:=Unit) (fun d=>I.eI []) (fun d=> [⟨hc,.row 97 (r:List cP) eH⟩]):=by
 unfold Be at h
 refine cG.of Tryz.func125 rfl Tryz.ntmps125 rfl fun W A=> ?_
 refine aA ?_
 refine aH ?_
 refine bE ?_
 refine ax ?_
 refine aH ?_
 refine aH ?_
 refine bx ?_
 refine ag.block ?_
 obtain⟨ay,al,h⟩:=ar h
 refine eD (γ:=Unit) (δ:=Unit) al [0,1,2,6,7,8] (fun s1 au=> []) (fun s1 au=> []) (fun az=>Exit.exit 0) (fun az au=> [(13,I.of (az))]) (fun az au=> []) () (fun s1 r h au=> ?_) fun au=> ?_
 ·clear al
  refine ag.seq ?_
  refine aA ?_
  refine ax ?_
  refine ax ?_
  refine a5 zl ?_
  refine aJ ?_
  refine b0 h (fun h=>?_) fun h=>?_
  ·cases h
  ·refine ag.exit ?_
   refine ae.exit ?_
   obtain rfl:=aG h
   exact c6 () 0
 ·clear al
  refine ae.dD ?_
  refine ae.next ?_
  refine aA ?_
  refine ax ?_
  refine ax ?_
  refine ax ?_
  refine ax ?_
  refine ak.cd 0 rfl ?_
  obtain⟨aD,bp,h⟩:=ar h
  refine eT 1 V2 (Qh (FI bp)) fun ck=> ?_
  refine ak.gY (m:=aD.length) 0 rfl ((tF bp).symm) ?_
  refine ak.gY (m:=aD.length) 23 rfl ((tF bp).symm) ?_
  refine aJ ?_
  refine ag.block ?_
  obtain⟨aS,al,h⟩:=ar h
  refine eD (γ:=Unit) (δ:=Unit) al [0,1,2,6,7,8,13] (fun s2 aT=> []) (fun s2 aT=> []) (fun fS=>Exit.exit 2) (fun fS aT=> [(30,I.of (fS))]) (fun fS aT=> []) () (fun s2 r h aT=> ?_) fun aT=> ?_
  ·clear al
   refine ag.seq ?_
   refine aA ?_
   refine ax ?_
   refine ax ?_
   refine a5 dd ?_
   refine aJ ?_
   refine b0 h (fun h=>?_) fun h=>?_
   ·cases h
   ·refine ag.exit ?_
    refine ae.exit ?_
    obtain rfl:=aG h
    exact c6 () 0
  ·clear al
   refine ae.dD ?_
   refine ae.q5 ?_
   refine ae.cd 0 rfl ?_
   obtain rfl:=aG h
   exact ae.oq () (.cons_cons _ (List.nil_sublist _)) rfl rfl
theorem JT {aa:a0} {ai:Int} {r:Int} (h:vz aa ai=some r):bn Tryz.prog 106 [I.of (aa),I.of (ai)] (I.of (r)):=by
 unfold vz at h
 refine bn.of Tryz.func106 rfl Tryz.ntmps106 rfl fun W A=> ?_
 refine aA ?_
 refine ca fun bf=> ?_
 refine aH ?_
 refine bE ?_
 refine bY 0 eP ?_
 obtain⟨aD,bp,h⟩:=ar h
 refine cH Nt (Kp bp) ?_
 refine bh (FJ (k:=4) Tryz.underlying248 k4 (ad rfl) (bF 4) ⟨by decide,rfl⟩) ?_
 refine ax ?_
 obtain⟨aM,b9,h⟩:=ar h
 refine cH Nu (J8 b9) ?_
 refine aH ?_
 refine aJ ?_
 refine ag.ret ?_
 obtain rfl:=aG h
 exact c3
theorem Rw {aa:a0} {ai:Int} {r:Int} (h:x6 aa ai=some r):bn Tryz.prog 124 [I.of (aa),I.of (ai)] (I.of (r)):=by
 unfold x6 at h
 refine bn.of Tryz.func124 rfl Tryz.ntmps124 rfl fun W A=> ?_
 refine aA ?_
 refine ca fun bf=> ?_
 refine aH ?_
 refine bE ?_
 refine bY 0 eP ?_
 obtain⟨aD,bp,h⟩:=ar h
 refine cH Nt (Kp bp) ?_
 refine bh (FJ (k:=0) Tryz.underlying248 k4 (ad rfl) (bF 0) ⟨by decide,rfl⟩) ?_
 refine ax ?_
 obtain⟨aM,b9,h⟩:=ar h
 refine cH Nu (J8 b9) ?_
 refine aH ?_
 refine aJ ?_
 refine ag.ret ?_
 obtain rfl:=aG h
 exact c3
theorem R9 {aa:Int} {r:aw} (h:yr aa=some r):bn Tryz.prog 170 [I.of (aa)] (I.of (r)):=by
 unfold yr at h
 refine bn.of Tryz.func170 rfl Tryz.ntmps170 rfl fun W A=> ?_
 refine aA ?_
 refine ch dY fun bf=> ?_
 refine bE ?_
 refine ch ug fun bw=> ?_
 refine bx ?_
 refine aA ?_
 refine aH ?_
 refine aJ ?_
 refine ag.block ?_
 obtain⟨ay,al,h⟩:=ar h
 refine eD (γ:=Unit) (δ:=Unit) al [0,2,3] (fun s1 au=> [(4,I.of (s1.1))]) (fun s1 au=> [(0,⟨some bw,.var (s1.2:Vector Bool 128)⟩)]) (fun az=>Exit.exit 0) (fun az au=> [(4,I.of (az.1)),(8,I.of (az.2.1))]) (fun az au=> [(0,⟨some bw,.var (az.2.2:Vector Bool 128)⟩)]) () (fun s1 r h au=> ?_) fun au=> ?_
 ·clear al
  refine ag.seq ?_
  refine aA ?_
  refine ax ?_
  refine ax ?_
  obtain⟨aD,bp,h⟩:=ar h
  refine cH Nq (J9 bp) ?_
  refine a5 dd ?_
  refine aJ ?_
  refine b0 h (fun h=>?_) fun h=>?_
  ·refine cn ?_
   refine ag.seq ?_
   refine ag.block ?_
   refine ag.b1 ?_
   refine ax ?_
   obtain⟨aV,b4,h⟩:=ar h
   refine bh (dc (k:=aV) qQ (ad rfl) (ad rfl) (bC b4)) ?_
   refine jt 0 ((aI.id (Vector Bool 128)).comp (aI.idx (α:=Bool) 128 aV (bC b4).1)) hR ?_
   refine ak.nil ?_
   refine ae.db ?_
   refine ae.next ?_
   refine ag.b1 ?_
   refine ax ?_
   refine a5 cL ?_
   refine aH ?_
   refine ak.nil ?_
   obtain rfl:=aG h
   exact dO () 0
  ·refine ag.exit ?_
   refine ae.exit ?_
   obtain rfl:=aG h
   exact c6 () 0
 ·clear al
  refine ae.dD ?_
  refine ae.next ?_
  refine aA ?_
  refine bY 0 sn ?_
  obtain⟨aM,b9,h⟩:=ar h
  refine cH GA (EU b9) ?_
  refine bS 1 bT ?_
  refine aJ ?_
  refine ag.ret ?_
  obtain rfl:=aG h
  exact ae.gh rfl (dF 1 bT)
end Go.Proofs.YtmnggbjcnoffeaaGreat
namespace Go.Proofs.YtmnggbjcnoffeaaGreat
open Go Gv
set_option linter.unusedVariables false
set_option linter.unusedSimpArgs false
set_option maxRecDepth 100000
set_option maxHeartbeats 2000000
theorem RW {aa:a0} {ai:bL} {r:bX × Bool} (h:yk aa ai=some r):bn Tryz.prog 206 [I.of (aa),I.of (ai)] (I.eI [I.of (r.1),I.of (r.2)]):=by
 unfold yk at h
 refine bn.of Tryz.func206 rfl Tryz.ntmps206 rfl fun W A=> ?_
 refine aA ?_
 refine ca fun bf=> ?_
 refine ca fun bw=> ?_
 refine ch l3 fun cz=> ?_
 refine aH ?_
 refine bE ?_
 refine bY 2 eP ?_
 refine aY (a2 tW) ?_
 refine b5 1 pC bM ?_
 obtain⟨aD,bp,h⟩:=ar h
 refine cH Dj (BS bp) ?_
 refine aH ?_
 refine bx ?_
 refine aA ?_
 refine ax ?_
 refine a5 dd ?_
 refine aJ ?_
 refine b0 h (fun h=>?_) fun h=>?_
 ·refine aA ?_
  refine hH zF l3 (default:bX) .nil ?_
  refine bS 0 fO ?_
  refine aH ?_
  refine aJ ?_
  refine ag.ret ?_
  refine ae.ret ?_
  obtain rfl:=aG h
  exact ae.mr rfl (dF 0 fO) (fw rfl)
 ·refine cn ?_
  refine aA ?_
  refine aY (a2 lE) ?_
  refine b5 2 ly k2 ?_
  refine ax ?_
  obtain⟨aV,b4,h⟩:=ar h
  refine fq b4 Tryz.underlying28 fO ?_
  refine aY (cK fO) ?_
  refine bS 0 fO ?_
  refine aH ?_
  refine aJ ?_
  refine ag.ret ?_
  obtain rfl:=aG h
  exact ae.mr rfl (dF 0 fO) (fw rfl)
theorem Ro {aa:a1} {ai:a1} {r:Bool} (h:vw aa ai=some r):bn Tryz.prog 153 [I.of (aa),I.ptr ai] (I.of (r)):=by
 unfold vw at h
 refine bn.of Tryz.func153 rfl Tryz.ntmps153 rfl fun W A=> ?_
 refine aA ?_
 refine ca fun bf=> ?_
 refine aH ?_
 refine bE ?_
 refine aY (cK cY) ?_
 refine bY 0 cY ?_
 obtain⟨aD,bp,h⟩:=ar h
 refine cH Nv (Ko bp) ?_
 refine ax ?_
 refine dG ?_
 refine dG ?_
 refine ch hX fun bw=> ?_
 refine bS 0 cY ?_
 refine aH ?_
 refine bE ?_
 refine ax ?_
 refine aY iT ?_
 refine aH ?_
 refine aJ ?_
 refine ag.ret ?_
 obtain rfl:=aG h
 exact c3
theorem RX {aa:a1} {ai:a1} {r:Bool} (h:yl aa ai=some r):bn Tryz.prog 157 [I.of (aa),I.of (ai)] (I.of (r)):=by
 unfold yl at h
 refine bn.of Tryz.func157 rfl Tryz.ntmps157 rfl fun W A=> ?_
 refine aA ?_
 refine ca fun bf=> ?_
 refine ca fun bw=> ?_
 refine aH ?_
 refine bE ?_
 refine bY 1 cY ?_
 refine bY 0 cY ?_
 obtain⟨aD,bp,h⟩:=ar h
 refine cH Nv (Ko bp) ?_
 refine ax ?_
 refine dG ?_
 refine dG ?_
 refine ch hX fun cz=> ?_
 refine bS 0 cY ?_
 refine aH ?_
 refine bE ?_
 refine ax ?_
 refine ax ?_
 refine eN (fun hb=>fb (i:=0) (aI.id a1) (r:=aD.1) cY (ad rfl) rfl rfl rfl) ?_
 refine eN (fun hb=>fb (i:=2) (aI.id a1) (r:=aa) cY (ad rfl) rfl rfl rfl) ?_
 refine k7 (GQ Gc rfl Gd rfl) ?_
 refine j4 ?_
 refine aH ?_
 refine aJ ?_
 refine ag.ret ?_
 obtain rfl:=aG h
 exact c3
theorem Kq {aa:aw} {ai:Int} {r:aw} (h:vT aa ai=some r):bn Tryz.prog 194 [I.of (aa),I.of (ai)] (I.of (r)):=by
 unfold vT at h
 refine bn.of Tryz.func194 rfl Tryz.ntmps194 rfl fun W A=> ?_
 refine aA ?_
 refine ca fun bf=> ?_
 refine ch dY fun bw=> ?_
 refine bx ?_
 obtain⟨aD,bp,h⟩:=ar h
 obtain⟨aM,b9,h⟩:=ar h
 refine ag.draw mixed 10 [some 5,some 6,some 7,some 8,some 9,some 10,some 11,some 12,some 13,some 14] [[],[0],[],[2],[3],[],[5],[6],[4,7],[1,8]] [.val _,.val _,.val _,.val _,.val _,.val _,.val _,.val _,.val _,.val _] [false,false,false,false,false,false,false,false,false,false] (by kernel_rfl) rfl rfl rfl (fun c5=>⟨cw,fc C4 (BX bp),H1 (a2 mm),dN 1 h9 fx,H1 LX,H1 (a2 jD),dN 1 eO fx,H1 LX,df fun aC av=>cU (b:= { dS:= ~~~aa.dS,b7:= ~~~aa.b7:aw }) rfl hv dY (.cons h9 rfl (ad rfl) rfl (.cons eO rfl (ad rfl) rfl (.nil))),fc qV (qs b9),trivial⟩) fun c5=> ?_
 refine bS 0 bT ?_
 refine aJ ?_
 refine ag.ret ?_
 obtain rfl:=aG h
 exact ae.gh rfl (dF 0 bT)
theorem Kr {aa:Vector aw 4} {ai:Int} {r:Bool} (h:vU aa ai=some r):bn Tryz.prog 195 [I.of (aa),I.of (ai)] (I.of (r)):=by
 unfold vU at h
 refine bn.of Tryz.func195 rfl Tryz.ntmps195 rfl fun W A=> ?_
 refine aA ?_
 refine ca fun bf=> ?_
 refine aH ?_
 refine bE ?_
 refine ax ?_
 obtain⟨aD,bp,h⟩:=ar h
 refine bh (Nj (ad rfl) (bF 128) (KU bp)) ?_
 obtain⟨aV,b4,h⟩:=ar h
 refine bh (dc (k:=aV) gq (ad rfl) (ad rfl) (bC b4)) ?_
 refine b5 0 ((aI.id (Vector aw 4)).comp (aI.idx (α:=aw) 4 aV (bC b4).1)) bT ?_
 refine ax ?_
 obtain⟨aM,b9,h⟩:=ar h
 refine bh (ze (ad rfl) (bF 128) (yC b9)) ?_
 refine a5 jn ?_
 obtain⟨a8,dP,h⟩:=ar h
 refine cH C5 (B2 dP) ?_
 refine aH ?_
 refine aJ ?_
 refine ag.ret ?_
 obtain rfl:=aG h
 exact c3
theorem SF {aa:Vector aw 4} {ai:Int} {r:Bool} (h:yz aa ai=some r):bn Tryz.prog 163 [I.of (aa),I.of (ai)] (I.of (r)):=by
 unfold yz at h
 refine bn.of Tryz.func163 rfl Tryz.ntmps163 rfl fun W A=> ?_
 refine aA ?_
 refine ca fun bf=> ?_
 refine aH ?_
 refine bE ?_
 refine ax ?_
 obtain⟨aD,bp,h⟩:=ar h
 refine cH Nw (Ki bp) ?_
 refine ax ?_
 refine dG ?_
 refine dG ?_
 refine aH ?_
 refine aH ?_
 refine bE ?_
 refine ax ?_
 obtain⟨aV,b4,h⟩:=ar h
 refine bh (dc (k:=aV) gq (ad rfl) (ad rfl) (bC b4)) ?_
 refine b5 0 ((aI.id (Vector aw 4)).comp (aI.idx (α:=aw) 4 aV (bC b4).1)) bT ?_
 refine ax ?_
 obtain⟨aM,b9,h⟩:=ar h
 refine cH C5 (B2 b9) ?_
 refine aH ?_
 refine aJ ?_
 refine ag.ret ?_
 obtain rfl:=aG h
 exact c3
theorem Qj {aa:List cP} {ai:cP→cP→Option Int} {hc:Option Nat} {eH:Nat} {r:(List cP)} (h:xq aa ai=some r):cG Tryz.prog 90 [I.eq (aZ hc aa.length eH),I.rk Tryz.prog ai] [⟨hc,.row 97 (aa:List cP) eH⟩] (δ:=Unit) (fun d=>I.eI []) (fun d=> [⟨hc,.row 97 (r:List cP) eH⟩]):=by
 unfold xq at h
 refine cG.of Tryz.func90 rfl Tryz.ntmps90 rfl fun W A=> ?_
 refine ag.b1 ?_
 refine ax ?_
 refine ax ?_
 refine bh (tT (i:=0) Tryz.underlying94 (ad rfl) rfl rfl) ?_
 refine ax ?_
 refine ak.cd 0 rfl ?_
 obtain⟨aD,bp,h⟩:=ar h
 refine eT 1 V3 (Qk (FI bp)) fun az=> ?_
 refine ak.gY (m:=aD.length) 0 rfl ((tF bp).symm) ?_
 refine ak.gY (m:=aD.length) 4 rfl ((tF bp).symm) ?_
 refine ak.gY (m:=aD.length) 5 rfl ((tF bp).symm) ?_
 refine ak.nil ?_
 refine ae.q5 ?_
 refine ae.cd 0 rfl ?_
 obtain rfl:=aG h
 exact ae.oq () (.cons_cons _ (List.nil_sublist _)) rfl rfl
theorem Q2 {aa:cP} {ai:cP} {r:Int} (h:BE aa ai=some r):bn Tryz.prog 91 [I.of (aa),I.of (ai)] (I.of (r)):=by
 unfold BE at h
 refine bn.of Tryz.func91 rfl Tryz.ntmps91 rfl fun W A=> ?_
 refine aA ?_
 refine ca fun bf=> ?_
 refine ca fun bw=> ?_
 refine aH ?_
 refine bE ?_
 refine aY (a2 Mz) ?_
 refine b5 1 vk bM ?_
 refine aY (a2 Mz) ?_
 refine b5 0 vk bM ?_
 obtain⟨aD,bp,h⟩:=ar h
 refine cH Dk (BP bp) ?_
 refine aH ?_
 refine aJ ?_
 refine ag.ret ?_
 obtain rfl:=aG h
 exact c3
theorem Sa {aa:a0} {ai:Int} {r:Int} (h:BY aa ai=some r):bn Tryz.prog 89 [I.of (aa),I.of (ai)] (I.of (r)):=by
 unfold BY at h
 refine bn.of Tryz.func89 rfl Tryz.ntmps89 rfl fun W A=> ?_
 refine aA ?_
 refine ca fun bf=> ?_
 refine aH ?_
 refine bx ?_
 obtain⟨aD,bp,h⟩:=ar h
 obtain⟨aV,b4,h⟩:=ar h
 refine ag.draw mixed 8 [some 5,some 6,some 7,some 8,some 9,some 10,some 11,some 12] [[],[0],[],[],[2,3],[1,4],[5],[6]] [.val _,.val _,.val _,.val _,.val _,.val _,.val _,.val _] [false,false,false,false,false,false,false,false] (by kernel_rfl) rfl rfl rfl (fun c5=>⟨H1 (a2 tU),dN 0 tl sE,fz 0 eP,cw,fc V4 (Rw bp),j0 b4 Tryz.underlying24 oj,m7 ni Cs,H1 (cK bM),trivial⟩) fun c5=> ?_
 refine aH ?_
 refine aJ ?_
 refine ag.ret ?_
 obtain rfl:=aG h
 exact c3
end Go.Proofs.YtmnggbjcnoffeaaGreat
namespace Go.Proofs.YtmnggbjcnoffeaaGreat
open Go Gv
set_option linter.unusedVariables false
set_option linter.unusedSimpArgs false
set_option maxRecDepth 100000
set_option maxHeartbeats 2000000
theorem J1 {aa:a0} {ai:bL} {r:Int} (h:vJ aa ai=some r):bn Tryz.prog 79 [I.of (aa),I.of (ai)] (I.of (r)):=by
 unfold vJ at h
 refine bn.of Tryz.func79 rfl Tryz.ntmps79 rfl fun W A=> ?_
 refine aA ?_
 refine ca fun bf=> ?_
 refine ca fun bw=> ?_
 refine aH ?_
 refine bE ?_
 refine bY 1 eP ?_
 refine aY (a2 tW) ?_
 refine b5 0 pC bM ?_
 obtain⟨aD,bp,h⟩:=ar h
 refine cH Nx (JT bp) ?_
 refine aH ?_
 refine bx ?_
 refine aA ?_
 refine ax ?_
 refine a5 dd ?_
 refine aJ ?_
 refine b0 h (fun h=>?_) fun h=>?_
 ·refine aA ?_
  refine aH ?_
  refine aJ ?_
  refine ag.ret ?_
  refine ae.ret ?_
  obtain rfl:=aG h
  exact c3
 ·refine cn ?_
  refine ag.seq ?_
  refine aA ?_
  refine aY (a2 lE) ?_
  refine b5 1 ly k2 ?_
  refine ax ?_
  obtain⟨aV,b4,h⟩:=ar h
  refine fq b4 Tryz.underlying28 fO ?_
  refine uO iP kl ?_
  refine aY (cK jW) ?_
  refine aY (er Tryz.underlying62) ?_
  refine ax ?_
  refine aJ ?_
  refine ag.block ?_
  obtain⟨ay,al,h⟩:=ar h
  refine eD (γ:=Unit) (δ:=Unit) al [0,1,2,3,5,13,19,20] (fun s1 au=> [(4,I.of (0:Int)),(21,I.of (s1))]) (fun s1 au=> []) (fun az=>Sum.elim (fun az=>Exit.exit 0) (fun az=>Exit.ret) az) (fun az au=>Sum.elim (fun az=> [(4,I.of (0:Int)),(21,I.of (az.1)),(22,I.of (az.2))]) (fun az=> [(4,I.of (az.1)),(6,I.of (az.2.1)),(21,I.of (az.2.2.1)),(22,I.of (az.2.2.2.1)),(35,I.of (az.2.2.2.2))]) az) (fun az au=>Sum.elim (fun az=> []) (fun az=> []) az) () (fun s1 r h au=> ?_) fun au=> ?_
  ·clear al
   refine aA ?_
   refine a5 dd ?_
   refine bx ?_
   refine b0 h (fun h=>?_) fun h=>?_
   ·refine cn ?_
    refine ag.seq ?_
    refine ag.block ?_
    refine aA ?_
    refine ax ?_
    obtain⟨bu,cD,h⟩:=ar h
    refine fq cD Tryz.underlying62 hP ?_
    refine aY (cK hP) ?_
    refine ch iU fun cz=> ?_
    refine aH ?_
    refine bS 0 hP ?_
    refine bE ?_
    refine aY (a2 od) ?_
    refine b5 0 jR bM ?_
    refine a5 fW ?_
    refine ax ?_
    refine eg cN ?_
    refine eg (a2 kY) ?_
    refine eN (fun hb=>fb (i:=1) ((aI.id bL).comp kh) (r:=ai.cu) kI (ct rfl hb) rfl rfl rfl) ?_
    refine eg (er Tryz.underlying47) ?_
    refine k7 dd ?_
    obtain⟨bN,dg,h⟩:=ar h
    refine dm dg (oh (ad rfl) (ad rfl) (fun h=>h)) ?_
    refine aJ ?_
    refine b0 h (fun h=>?_) fun h=>?_
    ·refine aA ?_
     refine aY (a2 kY) ?_
     refine b5 1 kh kI ?_
     refine ax ?_
     obtain⟨cb,eu,h⟩:=ar h
     refine fq eu Tryz.underlying47 gF ?_
     refine uO rO y4 ?_
     refine aY (cK bM) ?_
     refine aH ?_
     refine aJ ?_
     refine ag.ret ?_
     refine ae.dQ ?_
     refine ae.ret ?_
     obtain rfl:=aG h
     exact c6 () 1
    ·refine ag.skip ?_
     refine ae.db ?_
     refine ae.next ?_
     refine ag.b1 ?_
     refine a5 cL ?_
     refine ax ?_
     refine ak.nil ?_
     obtain rfl:=aG h
     exact dO () 1
   ·refine ag.exit ?_
    refine ae.exit ?_
    obtain rfl:=aG h
    exact c6 () 0
  ·clear al
   rcases ay with ay | ay
   ·simp only [Sum.elim_inl] at h
    refine ae.dD ?_
    refine ae.next ?_
    refine aA ?_
    refine aH ?_
    refine aJ ?_
    refine ag.ret ?_
    obtain rfl:=aG h
    exact c3
   ·simp only [Sum.elim_inr] at h
    refine ae.dQ ?_
    refine ae.ret ?_
    obtain rfl:=aG h
    exact c3
end Go.Proofs.YtmnggbjcnoffeaaGreat
