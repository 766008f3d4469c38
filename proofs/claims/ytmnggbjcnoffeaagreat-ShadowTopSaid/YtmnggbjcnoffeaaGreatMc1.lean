/-
  Each function meets its functional program. Conditions: none.
-/
import Derived.Test.YtmnggbjcnoffeaaGreatMc0
import Derived.Test.YtmnggbjcnoffeaaGreatMd
namespace Go.Proofs.YtmnggbjcnoffeaaGreat
open Go Gv
set_option linter.unusedVariables false
set_option linter.unusedSimpArgs false
set_option maxRecDepth 100000
set_option maxHeartbeats 2000000
theorem Ov {aa:a2} {aj:List a2} {r:(Vector ao 4) × (Vector ao 4)} (h:wP aa aj=some r):bx Tryz.prog 158 [I.of (aa),I.of (aj)] (I.cF [I.of (r.1),I.of (r.2)]):=by
 unfold wP at h
 refine bx.of Tryz.func158 rfl Tryz.ntmps158 rfl fun W A=> ?_
 refine aD ?_
 refine cd fun aT=> ?_
 refine cG pW fun a7=> ?_
 refine cG pW fun bU=> ?_
 refine bM ?_
 refine aD ?_
 refine aB ?_
 refine aW (eJ Tryz.underlying156) ?_
 refine aB ?_
 refine aN ?_
 refine ai.block ?_
 obtain⟨az,aq,h⟩:=aw h
 refine gB (γ:=Unit) (δ:=Unit) aq [0,1,2,4,5,11,12] (fun s1 ax=> [(13,I.of (s1.1))]) (fun s1 ax=> [(0,⟨some bU,.var (s1.2.1:Vector ao 4)⟩),(1,⟨some a7,.var (s1.2.2:Vector ao 4)⟩)]) (fun aE=>Exit.exit 0) (fun aE ax=> [(13,I.of (aE.1)),(14,I.of (aE.2.1))]) (fun aE ax=> [(0,⟨some bU,.var (aE.2.2.1:Vector ao 4)⟩),(1,⟨some a7,.var (aE.2.2.2:Vector ao 4)⟩)]) () (fun s1 r h ax=> ?_) fun ax=> ?_
 ·clear aq
  refine aD ?_
  refine bj dZ ?_
  refine bM ?_
  refine ck h (fun h=>?_) fun h=>?_
  ·refine cO ?_
   refine ai.seq ?_
   refine ai.block ?_
   refine aD ?_
   obtain⟨a4,cw,h⟩:=aw h
   refine fL cw Tryz.underlying156 c0 ?_
   refine aW (cL c0) ?_
   refine cG hJ fun cR=> ?_
   refine ca 0 c0 ?_
   refine bS ?_
   refine aW (a0 l0) ?_
   refine b3 0 kz fI ?_
   refine aB ?_
   refine aN ?_
   refine ai.block ?_
   obtain⟨aX,aq,h⟩:=aw h
   refine gB (γ:=Unit) (δ:=Unit) aq [0,1,2,4,5,7,11,12,13,14,18] (fun s2 a1=> [(19,I.of (s2.1))]) (fun s2 a1=> [(1,⟨some bU,.var (s2.2.1:Vector ao 4)⟩),(2,⟨some a7,.var (s2.2.2:Vector ao 4)⟩)]) (fun da=>Exit.exit 2) (fun da a1=> [(19,I.of (da.1)),(20,I.of (da.2.1))]) (fun da a1=> [(1,⟨some bU,.var (da.2.2.1:Vector ao 4)⟩),(2,⟨some a7,.var (da.2.2.2:Vector ao 4)⟩)]) () (fun s2 r h a1=> ?_) fun a1=> ?_
   ·clear aq
    refine aD ?_
    refine bj dZ ?_
    refine bM ?_
    refine ck h (fun h=>?_) fun h=>?_
    ·refine cO ?_
     refine ai.seq ?_
     refine ai.block ?_
     refine aD ?_
     refine aB ?_
     obtain⟨bZ,c7,h⟩:=aw h
     refine bp (Jy (k:=bZ) Tryz.underlying45 bT (ae rfl) (ae rfl) (cu c7)) ?_
     refine cG dP fun ts=> ?_
     refine aQ ?_
     refine ca 0 bT ?_
     refine bM ?_
     obtain⟨dj,fB,h⟩:=aw h
     obtain⟨ak,bB,h⟩:=aw h
     obtain⟨aP,cg,h⟩:=aw h
     refine ai.draw mixed 8 [some 23,some 24,some 25,some 26,some 27,some 28,some 29,some 10] [[],[],[],[1,2],[3],[4],[0,5],[]] [.val _,.val _,.val _,.val _,.val _,.val _,.val _,.new (.var (default:ao))] [false,false,false,false,false,false,false,false] (by kernel_rfl) rfl rfl rfl (fun dx=>⟨fA 0 bT,cW,H1 (a0 l0),dT fun ay au=>eV (k:=dj) g1 (ae rfl) (ae rfl) (cu fB),ee 4 (((aL.id a2).comp kz).comp (aL.idx (α:=ao) 4 dj (cu fB).1)) bT,fb KY (Ib bB),fb pO (pr cg),uy dP,trivial⟩) fun dx=> ?_
     refine ca 0 bT ?_
     refine bM ?_
     obtain⟨hj,k7,h⟩:=aw h
     obtain⟨j6,o2,h⟩:=aw h
     obtain⟨bc,ek,h⟩:=aw h
     obtain⟨bf,fh,h⟩:=aw h
     obtain⟨lj,p7,h⟩:=aw h
     refine ai.draw mixed 12 [some 30,some 31,some 32,some 33,some 34,some 35,some 36,some 37,some 38,some 39,some 40,some 41] [[],[],[1],[2],[],[],[],[5,6],[7],[4,8],[3,9],[0]] [.val _,.val _,.val _,.val _,.val _,.val _,.val _,.val _,.val _,.val _,.val _,.val _] [false,false,false,false,false,false,false,false,false,false,false,false] (by kernel_rfl) rfl rfl rfl (fun il=>⟨cW,cW,dT fun ay au=>eV (k:=hj) g1 (ae rfl) (ae rfl) (cu k7),ee 3 ((aL.id (Vector ao 4)).comp (aL.idx (α:=ao) 4 hj (cu k7).1)) bT,fA 0 bT,cW,H1 (a0 nR),dT fun ay au=>eV (k:=j6) g1 (ae rfl) (ae rfl) (cu o2),ee 2 (((aL.id a2).comp lS).comp (aL.idx (α:=ao) 4 j6 (cu o2).1)) bT,fb pO (pr ek),fb pP (pt fh),dT fun ay au=>eV (k:=lj) g1 (ae rfl) (ae rfl) (cu p7),trivial⟩) fun il=> ?_
     refine nB 3 ((aL.id (Vector ao 4)).comp (aL.idx (α:=ao) 4 lj (cu p7).1)) bT ?_
     refine aN ?_
     obtain⟨mr,ru,h⟩:=aw h
     obtain⟨mu,rv,h⟩:=aw h
     obtain⟨cb,gL,h⟩:=aw h
     obtain⟨cN,g4,h⟩:=aw h
     obtain⟨dm,kK,h⟩:=aw h
     obtain⟨qp,yW,h⟩:=aw h
     refine ai.draw mixed 13 [some 42,some 43,some 44,some 45,some 46,some 47,some 48,some 49,some 50,some 51,some 52,some 53,some 54] [[],[],[1],[2],[],[],[],[5,6],[7],[8],[4,9],[3,10],[0]] [.val _,.val _,.val _,.val _,.val _,.val _,.val _,.val _,.val _,.val _,.val _,.val _,.val _] [false,false,false,false,false,false,false,false,false,false,false,false,false] (by kernel_rfl) rfl rfl rfl (fun s5=>⟨cW,cW,dT fun ay au=>eV (k:=mr) g1 (ae rfl) (ae rfl) (cu ru),ee 4 ((aL.id (Vector ao 4)).comp (aL.idx (α:=ao) 4 mr (cu ru).1)) bT,fA 0 bT,cW,H1 (a0 nR),dT fun ay au=>eV (k:=mu) g1 (ae rfl) (ae rfl) (cu rv),ee 2 (((aL.id a2).comp lS).comp (aL.idx (α:=ao) 4 mu (cu rv).1)) bT,fb KY (Ib gL),fb pO (pr g4),fb pP (pt kK),dT fun ay au=>eV (k:=qp) g1 (ae rfl) (ae rfl) (cu yW),trivial⟩) fun s5=> ?_
     refine nB 4 ((aL.id (Vector ao 4)).comp (aL.idx (α:=ao) 4 qp (cu yW).1)) bT ?_
     refine ah.nil ?_
     refine ag.ea ?_
     refine ag.next ?_
     refine ai.cl ?_
     refine bj dg ?_
     refine aB ?_
     refine ah.nil ?_
     obtain rfl:=aI h
     exact fo () 2
    ·refine ai.exit ?_
     refine ag.exit ?_
     obtain rfl:=aI h
     exact eh () 0
   ·clear aq
    refine ag.fe ?_
    refine ag.ea ?_
    refine ag.next ?_
    refine ai.cl ?_
    refine bj dg ?_
    refine aB ?_
    refine ah.nil ?_
    obtain rfl:=aI h
    exact fo () 1
  ·refine ai.exit ?_
   refine ag.exit ?_
   obtain rfl:=aI h
   exact eh () 0
 ·clear aq
  refine ag.fe ?_
  refine ag.next ?_
  refine ai.seq ?_
  refine ai.draw mixed 3 [some 57,some 58,none] [[],[],[0]] [.val _,.val _,.jB 1 (.var (az.2.2.2:Vector ao 4))] [false,false,true] (by kernel_rfl) rfl rfl rfl (fun FO=>⟨fA 1 fI,fA 0 fI,⟨_,_,rfl,fun ay au=>q0 (i:=1) (aL.id (Vector ao 4)) (v:=(az.2.2.2:Vector ao 4)) (b':=(az.2.2.2:Vector ao 4)) fI (ae rfl) (ae rfl) (au _ _ rfl) rfl rfl⟩,trivial⟩) fun FO=> ?_
  refine ca 0 fI ?_
  refine aN ?_
  refine ai.ret ?_
  obtain rfl:=aI h
  exact ag.oU rfl (eL 1 fI) (eL 0 fI)
theorem Oh {aa:Vector ao 4} {aj:List a2} {r:Int} (h:wL aa aj=some r):bx Tryz.prog 160 [I.of (aa),I.of (aj)] (I.of (r)):=by
 unfold wL at h
 refine bx.of Tryz.func160 rfl Tryz.ntmps160 rfl fun W A=> ?_
 refine aD ?_
 refine cd fun aT=> ?_
 refine aQ ?_
 refine bS ?_
 refine aQ ?_
 refine aQ ?_
 refine bM ?_
 refine aD ?_
 refine aB ?_
 refine aN ?_
 refine ai.block ?_
 obtain⟨az,aq,h⟩:=aw h
 refine gB (γ:=Unit) (δ:=Unit) aq [0,1,2,4] (fun s1 ax=> [(5,I.of (s1.1)),(6,I.of (s1.2.1)),(11,I.of (s1.2.2))]) (fun s1 ax=> []) (fun aE=>Exit.exit 0) (fun aE ax=> [(5,I.of (aE.1)),(6,I.of (aE.2.1)),(11,I.of (aE.2.2.1)),(12,I.of (aE.2.2.2))]) (fun aE ax=> []) () (fun s1 r h ax=> ?_) fun ax=> ?_
 ·clear aq
  refine aD ?_
  refine bj dZ ?_
  refine bM ?_
  refine ck h (fun h=>?_) fun h=>?_
  ·refine cO ?_
   refine ai.seq ?_
   refine ai.block ?_
   refine aD ?_
   refine aB ?_
   refine aQ ?_
   refine bM ?_
   refine aD ?_
   refine cc 0 fI ?_
   refine aB ?_
   obtain⟨ak,bB,h⟩:=aw h
   refine dF KZ (Ic bB) ?_
   refine aW ju ?_
   refine aN ?_
   refine ck h (fun h=>?_) fun h=>?_
   ·refine ai.exit ?_
    refine ag.exit ?_
    refine ag.fe ?_
    refine ag.next ?_
    refine ai.cl ?_
    refine bj dg ?_
    refine aB ?_
    refine ah.nil ?_
    obtain rfl:=aI h
    exact fo () 0
   ·refine cO ?_
    refine aD ?_
    refine aQ ?_
    refine bM ?_
    refine aD ?_
    refine aB ?_
    refine aW (eJ Tryz.underlying156) ?_
    refine aB ?_
    refine aN ?_
    refine ai.block ?_
    obtain⟨aX,aq,h⟩:=aw h
    refine gB (γ:=Unit) (δ:=Unit) aq [0,1,2,4,5,6,7,11,12,17,18,19] (fun s2 a1=> [(8,I.of (s2.1)),(20,I.of (s2.2))]) (fun s2 a1=> []) (fun da=>Exit.exit 2) (fun da a1=> [(8,I.of (da.1)),(20,I.of (da.2.1)),(21,I.of (da.2.2))]) (fun da a1=> []) () (fun s2 r h a1=> ?_) fun a1=> ?_
    ·clear aq
     refine aD ?_
     refine bj dZ ?_
     refine bM ?_
     refine ck h (fun h=>?_) fun h=>?_
     ·refine cO ?_
      refine ai.seq ?_
      refine ai.block ?_
      refine aD ?_
      obtain⟨a4,cw,h⟩:=aw h
      refine fL cw Tryz.underlying156 c0 ?_
      refine aW (cL c0) ?_
      refine cG hJ fun a7=> ?_
      refine ca 0 c0 ?_
      refine bS ?_
      refine aW (a0 l0) ?_
      refine b3 0 kz fI ?_
      refine aB ?_
      obtain⟨aP,cg,h⟩:=aw h
      refine dF KZ (Ic cg) ?_
      refine aN ?_
      obtain⟨bO,cM,h⟩:=aw h
      refine jd (γ:=Unit) [0,1,2,4,5,6,7,10,11,12,17,18,19,20,21,27] (fun br=> [(8,I.of (bO))]) (fun br=> []) (fun br=> ?_) (fun hm ar=> ?_) fun hm ar=> ?_
      ·clear cM
       refine ag.ea ?_
       refine ag.next ?_
       refine ai.cl ?_
       refine bj dg ?_
       refine aB ?_
       refine ah.nil ?_
       obtain rfl:=aI h
       exact fo () 1
      ·have h:=ht ar cM
       refine ai.cl ?_
       refine aB ?_
       refine bj dg ?_
       refine aQ ?_
       refine ah.nil ?_
       obtain rfl:=aI h
       exact dI 0 (hm ())
      ·have h:=hv ar cM
       refine ai.skip ?_
       obtain rfl:=aI h
       exact dI 0 (hm ())
     ·refine ai.exit ?_
      refine ag.exit ?_
      obtain rfl:=aI h
      exact eh () 0
    ·clear aq
     refine ag.fe ?_
     refine ag.next ?_
     refine aD ?_
     refine aB ?_
     refine aB ?_
     refine bj mJ ?_
     refine aN ?_
     obtain⟨cD,dS,h⟩:=aw h
     refine jd (γ:=Unit) [0,1,2,4,7,8,11,12,17,18,19,20,21,33] (fun cr=> [(5,I.of (cD.1)),(6,I.of (cD.2))]) (fun cr=> []) (fun cr=> ?_) (fun hm ar=> ?_) fun hm ar=> ?_
     ·clear dS
      refine ag.ea ?_
      refine ag.next ?_
      refine ai.cl ?_
      refine bj dg ?_
      refine aB ?_
      refine ah.nil ?_
      obtain rfl:=aI h
      exact fo () 0
     ·have h:=ht ar dS
      refine ai.cl ?_
      refine aB ?_
      refine aB ?_
      refine aQ ?_
      refine aQ ?_
      refine ah.nil ?_
      obtain rfl:=aI h
      exact dI 0 (hm ())
     ·have h:=hv ar dS
      refine ai.skip ?_
      obtain rfl:=aI h
      exact dI 0 (hm ())
  ·refine ai.exit ?_
   refine ag.exit ?_
   obtain rfl:=aI h
   exact eh () 0
 ·clear aq
  refine ag.fe ?_
  refine ag.next ?_
  refine aD ?_
  refine aB ?_
  refine aQ ?_
  refine aN ?_
  refine ai.ret ?_
  obtain rfl:=aI h
  exact c9
end Go.Proofs.YtmnggbjcnoffeaaGreat
namespace Go.Proofs.YtmnggbjcnoffeaaGreat
open Go Gv
set_option linter.unusedVariables false
set_option linter.unusedSimpArgs false
set_option maxRecDepth 100000
set_option maxHeartbeats 2000000
theorem IH {aa:a3} {aj:bE} {r:a2 × Bool} (h:qK aa aj=some r):bx Tryz.prog 114 [I.of (aa),I.of (aj)] (I.cF [I.of (r.1),I.of (r.2)]):=by
 unfold qK at h
 refine bx.of Tryz.func114 rfl Tryz.ntmps114 rfl fun W A=> ?_
 refine aD ?_
 refine cd fun aT=> ?_
 refine cd fun a7=> ?_
 refine cG hJ fun bU=> ?_
 refine aQ ?_
 refine bS ?_
 refine cc 2 fy ?_
 refine aW (a0 uJ) ?_
 refine b3 1 pg bG ?_
 obtain⟨ak,bB,h⟩:=aw h
 refine dF BJ (AA bB) ?_
 refine aQ ?_
 refine bM ?_
 refine aD ?_
 refine aB ?_
 refine bj dZ ?_
 refine aN ?_
 refine ck h (fun h=>?_) fun h=>?_
 ·refine aD ?_
  refine g2 u2 hJ (default:a2) .nil ?_
  refine ca 0 c0 ?_
  refine aQ ?_
  refine aN ?_
  refine ai.ret ?_
  refine ag.ret ?_
  obtain rfl:=aI h
  exact ag.oU rfl (eL 0 c0) (kh rfl)
 ·refine cO ?_
  refine aD ?_
  refine cG hJ fun cR=> ?_
  refine bM ?_
  refine aD ?_
  refine aW (a0 lp) ?_
  refine b3 3 lk k1 ?_
  refine aB ?_
  obtain⟨a4,cw,h⟩:=aw h
  refine fL cw Tryz.underlying28 fQ ?_
  refine vy iM kc ?_
  refine aW (cL jT) ?_
  refine aW (eJ Tryz.underlying62) ?_
  refine aB ?_
  refine aN ?_
  refine ai.block ?_
  obtain⟨az,aq,h⟩:=aw h
  refine gB (γ:=Unit) (δ:=Unit) aq [0,1,2,3,4,5,6,7,16,23,24] (fun s1 ax=> [(25,I.of (s1.1))]) (fun s1 ax=> [(0,⟨some cR,.var (s1.2:a2)⟩)]) (fun aE=>Sum.elim (fun aE=>Exit.exit 0) (fun aE=>Exit.ret) aE) (fun aE ax=>Sum.elim (fun aE=> [(25,I.of (aE.1)),(26,I.of (aE.2.1))]) (fun aE=> [(8,I.of (aE.1)),(10,I.of (aE.2.1)),(25,I.of (aE.2.2.1)),(26,I.of (aE.2.2.2.1)),(51,I.of (aE.2.2.2.2.1))]) aE) (fun aE ax=>Sum.elim (fun aE=> [(0,⟨some cR,.var (aE.2.2:a2)⟩)]) (fun aE=> [(0,⟨some cR,.var (aE.2.2.2.2.2:a2)⟩)]) aE) () (fun s1 r h ax=> ?_) fun ax=> ?_
  ·clear aq
   refine aD ?_
   refine bj dZ ?_
   refine bM ?_
   refine ck h (fun h=>?_) fun h=>?_
   ·refine cO ?_
    refine ai.seq ?_
    refine ai.block ?_
    refine aD ?_
    refine aB ?_
    obtain⟨bZ,c7,h⟩:=aw h
    refine fL c7 Tryz.underlying62 hS ?_
    refine aW (cL hS) ?_
    refine cG iB fun ts=> ?_
    refine aQ ?_
    refine ca 0 hS ?_
    refine bS ?_
    refine cc 4 fy ?_
    refine aW (a0 Ef) ?_
    refine b3 0 m8 bG ?_
    obtain⟨aP,cg,h⟩:=aw h
    refine dF LF (HL cg) ?_
    refine aQ ?_
    refine bM ?_
    refine aD ?_
    refine aW (a0 pB) ?_
    refine b3 0 ka bG ?_
    refine bj gb ?_
    refine aB ?_
    refine dU cQ ?_
    refine jX dZ ?_
    obtain⟨bk,dc,h⟩:=aw h
    refine cZ dc (vi (ae rfl) (ae rfl) (fun h=>h)) ?_
    refine aB ?_
    refine dU cQ ?_
    refine dU (a0 kD) ?_
    refine eY (fun hb=>gx (i:=3) ((aL.id bE).comp jM) (r:=aj.cA) kg (cY rfl hb) rfl rfl rfl) ?_
    refine dU (eJ Tryz.underlying47) ?_
    refine jX kX ?_
    refine o1 ?_
    refine aB ?_
    refine dU cQ ?_
    refine jX kX ?_
    obtain⟨c8,ho,h⟩:=aw h
    refine cZ ho (vi (ae rfl) (ae rfl) (fun h=>h)) ?_
    refine aN ?_
    refine ck h (fun h=>?_) fun h=>?_
    ·refine aD ?_
     refine g2 u2 hJ (default:a2) .nil ?_
     refine ca 2 c0 ?_
     refine aQ ?_
     refine aN ?_
     refine ai.ret ?_
     refine ag.ret ?_
     refine ag.eC ?_
     refine ag.ret ?_
     obtain rfl:=aI h
     exact eh () 1
    ·refine cO ?_
     refine ai.seq ?_
     obtain⟨dj,fB,h⟩:=aw h
     obtain⟨hj,k7,h⟩:=aw h
     obtain⟨bc,ek,h⟩:=aw h
     obtain⟨j6,o2,h⟩:=aw h
     refine ai.draw mixed 17 ((some 53) :: (some 54) :: (some 55) :: (some 56) :: (some 57) :: (some 58) :: (some 59) :: (some 60) :: (some 61) :: (some 62) :: (some 63) :: (some 64) :: (some 65) :: (some 66) :: (some 67) :: (some 68) :: (some 69) :: []) ([] :: [] :: [1] :: [] :: [2,3] :: [4] :: [] :: [6] :: [] :: [8] :: [] :: [9,10] :: [11] :: [12] :: [5,7,13] :: [] :: [0,15] :: []) (.val _ :: .val _ :: .val _ :: .val _ :: .val _ :: .val _ :: .val _ :: .val _ :: .val _ :: .val _ :: .val _ :: .val _ :: .val _ :: .val _ :: .val _ :: .val _ :: .val _ :: []) (false :: false :: false :: false :: false :: false :: false :: false :: false :: false :: false :: false :: false :: false :: false :: false :: false :: []) (by kernel_rfl) rfl rfl rfl (fun dx=>⟨cW,H1 (a0 kD),ee 3 jM kg,cW,mg fB Tryz.underlying47 gA,H1 (cL gA),H1 (a0 pB),ee 0 ka bG,H1 (a0 uK),ee 4 tJ sM,cW,mg k7 Tryz.underlying24 n0,nC m7 DP,H1 (cL bG),fb SU (OK ek),H1 (a0 l0),dT fun ay au=>eV (k:=j6) g1 (ae rfl) (ae rfl) (cu o2),trivial⟩) fun dx=> ?_
     refine nB 1 (((aL.id a2).comp kz).comp (aL.idx (α:=ao) 4 j6 (cu o2).1)) bT ?_
     refine aN ?_
     obtain⟨lj,p7,h⟩:=aw h
     obtain⟨mr,ru,h⟩:=aw h
     obtain⟨bf,fh,h⟩:=aw h
     obtain⟨mu,rv,h⟩:=aw h
     refine ai.draw mixed 14 [some 70,some 71,some 72,some 73,some 74,some 75,some 76,some 77,some 78,some 79,some 80,some 81,some 82,some 83] [[],[],[1],[],[2,3],[4],[5],[],[],[7,8],[9],[6,10],[],[0,12]] [.val _,.val _,.val _,.val _,.val _,.val _,.val _,.val _,.val _,.val _,.val _,.val _,.val _,.val _] [false,false,false,false,false,false,false,false,false,false,false,false,false,false] (by kernel_rfl) rfl rfl rfl (fun il=>⟨cW,H1 (a0 kD),ee 3 jM kg,cW,mg p7 Tryz.underlying47 gA,nC qz J6,H1 (cL bT),cW,H1 (a0 l0),dT fun ay au=>eV (k:=mr) g1 (ae rfl) (ae rfl) (cu ru),ee 1 (((aL.id a2).comp kz).comp (aL.idx (α:=ao) 4 mr (cu ru).1)) bT,fb pO (pr fh),H1 (a0 nR),dT fun ay au=>eV (k:=mu) g1 (ae rfl) (ae rfl) (cu rv),trivial⟩) fun il=> ?_
     obtain⟨e8,jf,h⟩:=aw h
     refine B3 1 (((aL.id a2).comp lS).comp (aL.idx (α:=ao) 4 mu (cu rv).1)) bT (hb:=by exact jf) ?_
     refine ah.nil ?_
     refine ag.ea ?_
     refine ag.next ?_
     refine ai.cl ?_
     refine bj dg ?_
     refine aB ?_
     refine ah.nil ?_
     obtain rfl:=aI h
     exact fo () 1
   ·refine ai.exit ?_
    refine ag.exit ?_
    obtain rfl:=aI h
    exact eh () 0
  ·clear aq
   rcases az with az | az
   ·simp only [Sum.elim_inl] at h
    refine ag.fe ?_
    refine ag.next ?_
    refine aD ?_
    refine cc 0 c0 ?_
    refine ca 1 c0 ?_
    refine aQ ?_
    refine aN ?_
    refine ai.ret ?_
    obtain rfl:=aI h
    exact ag.oU rfl (eL 1 c0) (kh rfl)
   ·simp only [Sum.elim_inr] at h
    refine ag.eC ?_
    refine ag.ret ?_
    obtain rfl:=aI h
    exact ag.oU rfl (eL 1 c0) (kh rfl)
theorem Oc (n:Nat):∀ (aa:a2) (aj:List a2) (r:Bool),pn n aa aj=some r→bx Tryz.prog 117 [I.of (aa),I.of (aj)] (I.of (r)):=by
 induction n with
 | zero=>intro aa aj r h; simp [pn] at h
 | succ n bI=>
   intro aa aj r h
   simp only [pn] at h
   refine bx.of Tryz.func117 rfl Tryz.ntmps117 rfl fun W A=> ?_
   refine aD ?_
   refine cd fun aT=> ?_
   refine aQ ?_
   refine bS ?_
   refine cc 0 c0 ?_
   refine aB ?_
   obtain⟨ak,bB,h⟩:=aw h
   refine dF K0 (H3 bB) ?_
   refine aQ ?_
   refine bM ?_
   refine aD ?_
   refine aB ?_
   refine ah.share (α:=a2) 0 2 rfl rfl ?_
   refine bp (uL (F:=(fun fu=>wx fu aa)) (τs:= [I.ptr aa]) SV ⟨ae rfl,trivial⟩ (fun _ _ h=>NR h)) ?_
   obtain⟨aP,cg,h⟩:=aw h
   refine dF SW (Nb cg) ?_
   refine aN ?_
   refine ck h (fun h=>?_) fun h=>?_
   ·refine aD ?_
    refine aQ ?_
    refine aN ?_
    refine ai.ret ?_
    refine ag.ret ?_
    obtain rfl:=aI h
    exact c9
   ·refine cO ?_
    refine ai.seq ?_
    refine aD ?_
    refine aB ?_
    refine aW (eJ Tryz.underlying156) ?_
    refine bj gb ?_
    refine aN ?_
    refine ck h (fun h=>?_) fun h=>?_
    ·refine aD ?_
     refine aQ ?_
     refine aN ?_
     refine ai.ret ?_
     refine ag.ret ?_
     obtain rfl:=aI h
     exact c9
    ·refine cO ?_
     refine aD ?_
     refine aW (cL c0) ?_
     refine aB ?_
     obtain⟨bc,ek,h⟩:=aw h
     refine dF SX (Ov ek) ?_
     refine aB ?_
     refine gf ?_
     refine gf ?_
     refine cG pW fun a7=> ?_
     refine cG pW fun bU=> ?_
     refine ca 1 fI ?_
     refine ca 0 fI ?_
     refine bM ?_
     refine aD ?_
     refine aW (cL c0) ?_
     refine cc 1 fI ?_
     refine cc 0 fI ?_
     obtain⟨bf,fh,h⟩:=aw h
     refine dF SY (Ou fh) ?_
     refine cG hJ fun cR=> ?_
     refine ca 0 c0 ?_
     refine bS ?_
     refine cc 0 c0 ?_
     refine aW (cL c0) ?_
     refine bj (Ez Kd rfl Ke rfl) ?_
     refine aN ?_
     refine ck h (fun h=>?_) fun h=>?_
     ·refine aD ?_
      refine cc 0 c0 ?_
      refine aB ?_
      obtain⟨cb,gL,h⟩:=aw h
      refine dF Bz (bI _ _ _ gL) ?_
      refine aQ ?_
      refine aN ?_
      refine ai.ret ?_
      refine ag.ret ?_
      obtain rfl:=aI h
      exact c9
     ·refine cO ?_
      refine aD ?_
      refine cc 2 fI ?_
      refine aB ?_
      obtain⟨cN,g4,h⟩:=aw h
      refine dF SZ (Oh g4) ?_
      refine aQ ?_
      refine bS ?_
      refine aW (cL c0) ?_
      refine aB ?_
      obtain⟨dm,kK,h⟩:=aw h
      refine dF K1 (Io kK) ?_
      refine aB ?_
      obtain⟨et,kk,h⟩:=aw h
      refine dF Bz (bI _ _ _ kk) ?_
      refine aB ?_
      refine dU (cL c0) ?_
      refine dU cQ ?_
      obtain⟨fk,mT,h⟩:=aw h
      refine eY (fun hb=>hP K1 (Io (ib mT hb)) ⟨cY rfl hb,cY rfl hb,fr true,trivial⟩) ?_
      refine dU cQ ?_
      obtain⟨hz,p0,h⟩:=aw h
      refine eY (fun hb=>hP Bz (bI _ _ _ (ib p0 hb)) ⟨cY rfl hb,cY rfl hb,trivial⟩) ?_
      refine k6 ?_
      refine aQ ?_
      refine aN ?_
      refine ai.ret ?_
      obtain rfl:=aI h
      exact c9
theorem Oi {aa:a2} {aj:List a2} {r:Bool} (h:C3 aa aj=some r):bx Tryz.prog 117 [I.of (aa),I.of (aj)] (I.of (r)):=Oc ep aa aj r h
end Go.Proofs.YtmnggbjcnoffeaaGreat
namespace Go.Proofs.YtmnggbjcnoffeaaGreat
open Go Gv
set_option linter.unusedVariables false
set_option linter.unusedSimpArgs false
set_option maxRecDepth 100000
set_option maxHeartbeats 2000000
theorem NI {aj:List aM} {aR:a3} {c3:aM} :xA Tryz.prog 149 [I.ptr aj,I.ptr aR,I.ptr c3] [] (fun v:a2=>I.of v) (fun {σ ε} =>wi (σ:=σ) (ε:=ε) aj aR c3):=by
 refine xA.of Tryz.func149 rfl Tryz.ntmps149 rfl ?_
 intro σ ε γ Ls Lx step b2 g0 r h W A u rN
 replace h:wi aj aR c3 step b2=some r:=h
 unfold wi at h
 refine aD ?_
 refine aW (cL sN) ?_
 refine aW (eJ Tryz.underlying38) ?_
 refine aB ?_
 refine aN ?_
 refine ai.block ?_
 obtain⟨az,aq,h⟩:=aw h
 refine ai.uY (σ:=Int × (σ)) (ε:=(Int × Bool × (σ)) ⊕ (Bool × Int × Bool × Bool × Bool × (ε))) (γ:=γ) (δ:=γ) aq (fun s1 ax=> [(0,I.eq u),(1,I.ptr aj),(2,I.ptr aR),(3,I.ptr c3),(9,I.of (aj)),(10,I.of (aj.length:Int)),(11,I.of (s1.1))]) (fun s1 ax=>(Ls s1.2 ax)) (fun aE=>Sum.elim (fun aE=>Exit.exit 0) (fun aE=>Exit.ret) aE) (fun aE ax=>Sum.elim (fun aE=> [(0,I.eq u),(1,I.ptr aj),(2,I.ptr aR),(3,I.ptr c3),(9,I.of (aj)),(10,I.of (aj.length:Int)),(11,I.of (aE.1)),(12,I.of (aE.2.1))]) (fun aE=> [(0,I.eq u),(1,I.ptr aj),(2,I.ptr aR),(3,I.ptr c3),(8,I.of (aE.1)),(9,I.of (aj)),(10,I.of (aj.length:Int)),(11,I.of (aE.2.1)),(12,I.of (aE.2.2.1)),(19,I.of (aE.2.2.2.1)),(33,I.of (aE.2.2.2.2.1))]) aE) (fun aE ax=>Sum.elim (fun aE=>(Ls aE.2.2 ax)) (fun aE=>(Lx aE.2.2.2.2.2 ax)) aE) g0 rfl (.same rfl (.same rfl (.same rfl (.same rfl (.same rfl (.same rfl (.same rfl .nil))))))) (fun s1 r h ax=> ?_) (fun ax=> ?_)
 ·clear aq
  refine aD ?_
  refine bj dZ ?_
  refine bM ?_
  refine ck h (fun h=>?_) fun h=>?_
  ·refine cO ?_
   refine ai.seq ?_
   refine ai.block ?_
   refine aD ?_
   obtain⟨a4,cw,h⟩:=aw h
   refine fL cw Tryz.underlying38 cV ?_
   refine aW (cL cV) ?_
   refine cG h6 fun aT=> ?_
   refine ca 0 cV ?_
   refine bM ?_
   refine aD ?_
   refine aW (cL fy) ?_
   refine cc 0 cV ?_
   refine aW (cL cV) ?_
   obtain⟨ak,bB,h⟩:=aw h
   refine dF EP (C6 bB) ?_
   refine aW ju ?_
   refine aN ?_
   refine ck h (fun h=>?_) fun h=>?_
   ·refine ai.exit ?_
    refine ag.exit ?_
    refine ag.fe ?_
    refine ag.next ?_
    refine ai.cl ?_
    refine bj dg ?_
    refine aB ?_
    refine ah.nil ?_
    obtain rfl:=aI h
    exact fo ax 1
   ·refine cO ?_
    refine aD ?_
    refine aW (cL fy) ?_
    refine aW (a0 jQ) ?_
    refine b3 0 iL h5 ?_
    obtain⟨aP,cg,h⟩:=aw h
    refine dF K2 (IH cg) ?_
    refine aB ?_
    refine gf ?_
    refine gf ?_
    refine cG hJ fun a7=> ?_
    refine ca 0 c0 ?_
    refine aQ ?_
    refine bS ?_
    refine aB ?_
    refine aB ?_
    refine dU cQ ?_
    refine eY (fun hb=>gx (i:=0) (aL.id a2) (r:=aP.1) c0 (ae rfl) rfl rfl rfl) ?_
    refine ah.cases aP.2 (fun hb=> ?_) (fun hb=> ?_)
    ·replace h:=ht hb h
     obtain⟨bc,ek,h⟩:=aw h
     refine ah.RF (Lin:= [⟨some a7,.var (aP.1:a2)⟩,⟨some aT,.var (aA aj a4:aM)⟩]) (Ls:=Ls) (Lx:=Lx) (step:=step) (s:=s1.2) (gg:=ax) rfl rN hb rfl rfl rfl (cY rfl hb) ek rfl (fun s2 aS a1=> ?_) (fun da aS a1=> ?_)
     ·subst aS; simp only [Sum.elim_inl] at h
      refine ah.fg (L2:=(⟨some a7,.var (aP.1:a2)⟩ :: ⟨some aT,.var (aA aj a4:aM)⟩ :: Ls s2 a1)) rfl ?_
      refine dU ju ?_
      refine k6 ?_
      refine aN ?_
      refine ai.uX (ae rfl) (by first | rfl | (rw [hb]; rfl)) ?_
      refine ai.skip ?_
      refine ag.ea ?_
      refine ag.next ?_
      refine ai.cl ?_
      refine bj dg ?_
      refine aB ?_
      refine ah.nil ?_
      obtain rfl:=aI h
      exact fo a1 2
     ·subst aS; simp only [Sum.elim_inr] at h
      refine ah.fg (L2:=(⟨some a7,.var (aP.1:a2)⟩ :: ⟨some aT,.var (aA aj a4:aM)⟩ :: Lx da a1)) rfl ?_
      refine dU ju ?_
      refine k6 ?_
      refine aN ?_
      refine ai.EF (ae rfl) (by first | rfl | (rw [hb]; rfl)) ?_
      refine ai.ret ?_
      refine ag.eC ?_
      refine ag.ret ?_
      obtain rfl:=aI h
      exact eh a1 2
    ·replace h:=hv hb h
     refine ah.S0 (.of false) hb rfl rfl rfl rfl rfl ?_
     refine dU ju ?_
     refine k6 ?_
     refine aN ?_
     refine ai.uX (ae rfl) (by first | rfl | (rw [hb]; rfl)) ?_
     refine ai.skip ?_
     refine ag.ea ?_
     refine ag.next ?_
     refine ai.cl ?_
     refine bj dg ?_
     refine aB ?_
     refine ah.nil ?_
     obtain rfl:=aI h
     exact fo ax 2
  ·refine ai.exit ?_
   refine ag.exit ?_
   obtain rfl:=aI h
   exact eh ax 0
 ·clear aq
  rcases az with az | az
  ·simp only [Sum.elim_inl] at h
   refine ag.fe ?_
   refine ag.vg ?_
   obtain rfl:=aI h
   exact ag.pN ax (.refl _) rfl rfl
  ·simp only [Sum.elim_inr] at h
   refine ag.eC ?_
   obtain rfl:=aI h
   exact ag.pN ax (.refl _) rfl rfl
theorem Oj {aa:a2} {aj:List a2} {r:Bool × Int} (h:tX aa aj=some r):bx Tryz.prog 81 [I.of (aa),I.of (aj)] (I.cF [I.of (r.1),I.of (r.2)]):=by
 unfold tX at h
 refine bx.of Tryz.func81 rfl Tryz.ntmps81 rfl fun W A=> ?_
 refine aD ?_
 refine cd fun aT=> ?_
 refine aQ ?_
 refine aQ ?_
 refine bS ?_
 refine cc 0 c0 ?_
 refine aB ?_
 obtain⟨ak,bB,h⟩:=aw h
 refine dF K0 (H3 bB) ?_
 refine aQ ?_
 refine bM ?_
 refine aD ?_
 refine aB ?_
 refine aW (eJ Tryz.underlying156) ?_
 refine bj mJ ?_
 refine aN ?_
 refine ck h (fun h=>?_) fun h=>?_
 ·refine aD ?_
  refine aQ ?_
  refine aQ ?_
  refine aN ?_
  refine ai.ret ?_
  refine ag.ret ?_
  obtain rfl:=aI h
  exact s3
 ·refine cO ?_
  refine aD ?_
  refine cc 0 c0 ?_
  refine aB ?_
  obtain⟨aP,cg,h⟩:=aw h
  refine dF Bz (Oi cg) ?_
  refine aQ ?_
  refine aQ ?_
  refine aN ?_
  refine ai.ret ?_
  obtain rfl:=aI h
  exact s3
end Go.Proofs.YtmnggbjcnoffeaaGreat
namespace Go.Proofs.YtmnggbjcnoffeaaGreat
open Go Gv
set_option linter.unusedVariables false
set_option linter.unusedSimpArgs false
set_option maxRecDepth 100000
set_option maxHeartbeats 2000000
theorem Ok {hp:bb Cell} {aa:Ref} {aj:ao} {aR:Int} {c3:Int} {Q:Bool × (bb Cell)→Prop} (h:tY hp aa aj aR c3 Q):cz Tryz.prog 244 [I.of (aa),I.of (aj),I.of (aR),I.of (c3)] ([] ++ bd hp) (δ:= {r:Bool × (bb Cell) // Q r} × Unit) (fun d=>I.of (d.1.1.1)) (fun d=> [] ++ bd d.1.1.2):=by
 unfold tY at h
 refine cz.ofM Tryz.func244 rfl Tryz.ntmps244 rfl fun W A=> ?_
 refine aD ?_
 refine cd fun aT=> ?_
 refine aQ ?_
 refine bM ?_
 refine aD ?_
 refine aB ?_
 refine cc 0 bT ?_
 refine aB ?_
 obtain⟨ak,bB,h⟩:=aG.cT h
 refine ah.pa (iF.q6 1 rfl KU (HD bB) ⟨ae rfl,ae rfl,ae rfl,trivial⟩) rfl rfl rfl ?_
 refine aW ju ?_
 refine aN ?_
 refine ai.cond (ae rfl) (fun ar=> ?_) (fun ar=> ?_)
 ·replace h:=qU ar h
  refine aD ?_
  refine aQ ?_
  refine aN ?_
  refine ai.ret ?_
  refine ag.ret ?_
  refine ag.yA ?_
  exact ag.gR (⟨⟨(false,hp),h⟩,()⟩: {r // _} × _) (.cons _ (.refl _)) rfl rfl (fP rfl)
 ·replace h:=qV ar h
  refine cO ?_
  refine ai.seq ?_
  refine aD ?_
  refine aB ?_
  refine cc 0 bT ?_
  refine aB ?_
  obtain⟨aP,cg,h⟩:=aG.cT h
  refine ah.pa (iF.q6 1 rfl K3 (HI cg) ⟨ae rfl,ae rfl,ae rfl,trivial⟩) rfl rfl rfl ?_
  refine aQ ?_
  refine bS ?_
  refine aB ?_
  refine bp (IG Tryz.underlying331 (ae rfl)) ?_
  refine aB ?_
  refine dU cQ ?_
  obtain⟨dK,fz,h⟩:=aG.cT h
  refine eY (fun hb=>fw (gQ (cY rfl hb) (ib fz hb))) ?_
  refine dU (a0 uE) ?_
  obtain⟨cK,hg,h⟩:=aG.cT h
  refine eY (fun hb=>jt ((aL.id ew).comp tP) (r:=cK.e7) k8 (cY rfl hb) (h4 (n:=1) rfl (mD (ib hg hb)) rfl) rfl rfl) ?_
  refine k6 ?_
  refine aN ?_
  refine ai.cond (ae rfl) (fun ar=> ?_) (fun ar=> ?_)
  ·replace h:=qU ar h
   refine aD ?_
   refine aQ ?_
   refine aN ?_
   refine ai.ret ?_
   refine ag.ret ?_
   refine ag.yA ?_
   exact ag.gR (⟨⟨(false,hp),h⟩,()⟩: {r // _} × _) (.cons _ (.refl _)) rfl rfl (fP rfl)
  ·replace h:=qV ar h
   refine cO ?_
   refine ai.seq ?_
   refine aD ?_
   refine aB ?_
   obtain⟨cB,g3,h⟩:=aG.cT h
   refine bp (fw (gQ (ae rfl) g3)) ?_
   refine aW (a0 A2) ?_
   obtain⟨dL,ik,h⟩:=aG.cT h
   refine bp (jt ((aL.id fY).comp Ao) (r:=dL.c5) fx (ae rfl) (h4 (n:=1) rfl (pD ik) rfl) rfl rfl) ?_
   refine bp (qN Tryz.underlying331 (ae rfl)) ?_
   refine aN ?_
   refine ai.xB (γ:=Unit) h (fun bO ax=> [(0,I.of (aa)),(1,I.of (aj)),(2,I.of (aR)),(3,I.of (c3)),(5,I.eq (.pointer (some ⟨aT,0,none⟩))),(8,I.of (false)),(9,I.of (aP)),(16,I.of (!ak)),(28,I.of (aP.isSome && cK.e7)),(33,I.of (dL.c5.isNone))]) (fun bO ax=>(⟨some aT,.var (aj:ao)⟩ :: bd bO)) (ae rfl) (fun bO ax h=> ?_) (fun hm ar h=> ?_) (fun hm ar h=> ?_)
   ·refine ag.next ?_
    refine aD ?_
    refine aB ?_
    refine bp (fw (gQ (ae rfl) g3)) ?_
    refine aW (a0 A2) ?_
    obtain⟨fV,mU,h⟩:=aG.cT h
    refine bp (jt ((aL.id fY).comp Ao) (r:=fV.c5) fx (ae rfl) (h4 (n:=1) rfl (pD mU) rfl) rfl rfl) ?_
    refine cG EO fun a7=> ?_
    refine ca 0 fx ?_
    refine bM ?_
    refine aD ?_
    refine aB ?_
    refine cc 1 bT ?_
    refine aB ?_
    obtain⟨bc,ek,h⟩:=aG.cT h
    refine dF KV (HG ek) ?_
    refine aN ?_
    refine ai.block ?_
    refine PB (σ:=Ref × (bb Cell)) (ε:=Empty) (γ:=Unit) (g0:=()) (Ls:=fun s2 br=>(⟨some a7,.var (s2.1:Ref)⟩ :: ⟨some aT,.var (aj:ao)⟩ :: bd s2.2)) (Lx:=fun da br=>Empty.elim da) (hq:=fun s2=>s2.2) (fun s2 br=> [⟨some a7,.var (s2.1:Ref)⟩,⟨some aT,.var (aj:ao)⟩]) (fun da=>Empty.elim da) rfl KW rfl ND h (fun _ _=>rfl) rfl rfl (fun vA s2 R h br km kv kn l D rec yY=> ?_) (fun s2 h br D=> ?_) (fun da h br D=> ?_)
    ·refine ai.cl ?_
     refine aQ ?_
     refine ah.nil ?_
     refine ag.begin 0 rfl yY ?_
     refine ai.block ?_
     refine ai.seq ?_
     refine aD ?_
     refine cc 2 fx ?_
     refine aB ?_
     obtain⟨rO,yZ,h⟩:=aG.cT h
     refine bp (fw (gQ (ae rfl) yZ)) ?_
     refine aW (a0 A3) ?_
     obtain⟨a4,cw,h⟩:=aG.cT h
     refine bp (eV (k:=a4) By (ae rfl) (ae rfl) (cu cw)) ?_
     obtain⟨rP,FP,h⟩:=aG.cT h
     refine bp (jt (((aL.id ew).comp z4).comp (aL.idx (α:=Ref) 2 a4 (cu cw).1)) (r:=cf rP.e6 a4) fx (ae rfl) (h4 (n:=4) rfl (mD FP) rfl) rfl rfl) ?_
     refine bp (qN Tryz.underlying331 (ae rfl)) ?_
     refine aN ?_
     refine ai.xB (γ:=Unit) h (fun cD cr=> [(0,I.of (aa)),(1,I.of (aj)),(2,I.of (aR)),(3,I.of (c3)),(5,I.eq (.pointer (some ⟨aT,0,none⟩))),(8,I.of (false)),(9,I.of (aP)),(10,I.eq (.pointer (some ⟨a7,0,none⟩))),(11,I.of (vA)),(16,I.of (!ak)),(28,I.of (aP.isSome && cK.e7)),(33,I.of (dL.c5.isNone)),(46,I.gT 255 [I.ptr bc.1,I.ptr bc.2.1,I.ptr bc.2.2]),(47,I.of (vA)),(54,I.of ((cf rP.e6 a4).isNone))]) (fun cD cr=>(⟨some l,.is (.loop { rec with state:= .busy })⟩ :: ⟨some D,.di⟩ :: ⟨some a7,.var (s2.1:Ref)⟩ :: ⟨some aT,.var (aj:ao)⟩ :: bd cD)) (ae rfl) (fun cD cr h=> ?_) (fun hm ar h=> ?_) (fun hm ar h=> ?_)
     ·refine ag.next ?_
      refine ai.cl ?_
      refine cc 2 fx ?_
      refine aB ?_
      refine bp (fw (gQ (ae rfl) yZ)) ?_
      refine aW (a0 A3) ?_
      obtain⟨bZ,c7,h⟩:=aG.cT h
      refine bp (eV (k:=bZ) By (ae rfl) (ae rfl) (cu c7)) ?_
      obtain⟨tt,FQ,h⟩:=aG.cT h
      refine bp (jt (((aL.id ew).comp z4).comp (aL.idx (α:=Ref) 2 bZ (cu c7).1)) (r:=cf tt.e6 bZ) fx (ae rfl) (h4 (n:=4) rfl (mD FQ) rfl) rfl rfl) ?_
      refine ca 2 fx ?_
      refine ah.nil ?_
      refine ag.ea ?_
      exact ag.Ut h () 0 rfl
     ·refine ai.cl ?_
      refine cc 2 fx ?_
      refine aB ?_
      refine g2 K4 K5 (default:ew) .nil ?_
      refine ah.yl 4 rfl (Cell.gJ (default:ew)) (fun _=>rfl) (ae rfl) rfl fun eg s4=> ?_
      replace h:=aG.qT h eg s4
      refine bp (fw (gQ (ae rfl) yZ)) ?_
      refine aW (a0 A3) ?_
      obtain⟨dj,fB,h⟩:=aG.cT h
      refine bp (eV (k:=dj) By (ae rfl) (ae rfl) (cu fB)) ?_
      obtain⟨qq,FR,h⟩:=aG.cT h
      obtain⟨dy,n6,h⟩:=aG.cT h
      refine ah.oH (k':=Cell.gJ ({ qq with e6:=c1 qq.e6 dj (some eg.1:Ref) } :ew)) 4 rfl (((aL.id ew).comp z4).comp (aL.idx (α:=Ref) 2 dj (cu fB).1)) (v:=((some eg.1:Ref):Ref)) fx (ae rfl) (ae rfl) (mD FR) rfl rfl rfl rfl (aI n6) ?_
      refine ah.nil ?_
      exact dI 0 (hm dy () h)
     ·refine ai.skip ?_
      exact dI 0 (hm s2.2 () h)
    ·simp only [Sum.elim_inl] at h
     refine ag.fg (L2:=(⟨some D,.di⟩ :: ⟨some a7,.var (s2.1:Ref)⟩ :: ⟨some aT,.var (aj:ao)⟩ :: bd s2.2)) rfl ?_
     refine ag.ea ?_
     refine ag.next ?_
     refine ai.seq ?_
     obtain⟨iH,B6,h⟩:=aG.cT h
     obtain⟨vL,B7,h⟩:=aG.cT h
     obtain⟨eE,vj,h⟩:=aG.cT h
     refine ai.K6 mixed 9 (Array.mk (false :: false :: false :: false :: false :: false :: false :: false :: false :: [])) rfl rfl ?_
     refine bs.cut (γ:=Unit) 3 (Array.mk (true :: true :: true :: true :: true :: true :: false :: false :: false :: [])) (fun q2=> [(0,I.of (aa)),(1,I.of (aj)),(2,I.of (aR)),(3,I.of (c3)),(5,I.eq (.pointer (some ⟨aT,0,none⟩))),(8,I.of (false)),(9,I.of (aP)),(10,I.eq (.pointer (some ⟨a7,0,none⟩))),(16,I.of (!ak)),(28,I.of (aP.isSome && cK.e7)),(33,I.of (dL.c5.isNone)),(39,I.of (aa)),(40,I.eq (.pointer (some ⟨cB,0,none⟩))),(41,I.eq (.pointer (some ⟨cB,0 + 1,none⟩))),(42,I.of (fV.c5)),(43,I.of (aa)),(44,I.of (aj)),(45,I.of (aR)),(46,I.gT 255 [I.ptr bc.1,I.ptr bc.2.1,I.ptr bc.2.2]),(68,I.of (s2.1)),(69,I.of (s2.1)),(70,I.of (c3)),(71,I.eq (.pointer (some ⟨iH,0,none⟩))),(72,I.eq (.pointer (some ⟨iH,0 + 2,none⟩)))]) (fun q2=>(⟨some D,.di⟩ :: ⟨some a7,.var (s2.1:Ref)⟩ :: ⟨some aT,.var (aj:ao)⟩ :: bd eE)) (fun q2=> ?_) (fun u3=> ?_)
     ·refine bs.tail 6 rfl (by kernel_rfl) ?_
      obtain⟨GY,Vg,h⟩:=aG.cT h
      refine bp (fw (gQ (ae rfl) Vg)) ?_
      refine aW (a0 JD) ?_
      obtain⟨GZ,Vh,h⟩:=aG.cT h
      obtain⟨hV,Fi,h⟩:=aG.cT h
      refine ah.oH (k':=Cell.gJ ({ GZ with mL:=c3 } :ew)) 3 rfl ((aL.id ew).comp HE) (v:=(c3:Int)) bG (ae rfl) (ae rfl) (mD Vh) rfl rfl rfl rfl (aI Fi) ?_
      refine bS ?_
      refine aQ ?_
      refine aN ?_
      refine ai.ret ?_
      refine ag.BL 0 rfl rfl ?_
      exact ag.gR (⟨⟨(true,hV),h⟩,()⟩: {r // _} × _) (.cons _ (.cons _ (.cons _ (.refl _)))) rfl rfl (fP rfl)
     refine bs.cut (γ:=Unit) 4 (Array.mk (true :: false :: true :: true :: true :: true :: false :: false :: false :: [])) (fun pG=> [(0,I.of (aa)),(1,I.of (aj)),(2,I.of (aR)),(3,I.of (c3)),(5,I.eq (.pointer (some ⟨aT,0,none⟩))),(8,I.of (false)),(9,I.of (aP)),(10,I.eq (.pointer (some ⟨a7,0,none⟩))),(16,I.of (!ak)),(28,I.of (aP.isSome && cK.e7)),(33,I.of (dL.c5.isNone)),(39,I.of (aa)),(40,I.eq (.pointer (some ⟨cB,0,none⟩))),(41,I.eq (.pointer (some ⟨cB,0 + 1,none⟩))),(42,I.of (fV.c5)),(43,I.of (aa)),(44,I.of (aj)),(45,I.of (aR)),(46,I.gT 255 [I.ptr bc.1,I.ptr bc.2.1,I.ptr bc.2.2]),(68,I.of (s2.1)),(70,I.of (c3)),(71,I.eq (.pointer (some ⟨iH,0,none⟩))),(72,I.eq (.pointer (some ⟨iH,0 + 2,none⟩)))]) (fun pG=>(⟨some D,.di⟩ :: ⟨some a7,.var (s2.1:Ref)⟩ :: ⟨some aT,.var (aj:ao)⟩ :: bd eE)) (fun pG=> ?_) (fun x0=> ?_)
     ·clear h
      refine bs.step [1] (by kernel_rfl) rfl ⟨⟨_,rfl,?_⟩,trivial⟩
      ·refine cc 1 fx ?_
       refine ah.nil ?_
       exact ag.any rfl (bs.le (.same rfl (.same rfl (.same rfl (.same rfl (.same rfl (.same rfl (.same rfl (.same rfl (.same rfl (.same rfl (.same rfl (.same rfl (.same rfl (.same rfl (.same rfl (.same rfl (.same rfl (.same rfl (.same rfl (.same rfl (.same rfl (.same rfl (.same rfl (.same rfl .nil)))))))))))))))))))))))) (u3 ()))
     refine bs.cut (γ:=Unit) 4 (Array.mk (true :: true :: false :: true :: true :: true :: false :: false :: false :: [])) (fun xC=> [(0,I.of (aa)),(1,I.of (aj)),(2,I.of (aR)),(3,I.of (c3)),(5,I.eq (.pointer (some ⟨aT,0,none⟩))),(8,I.of (false)),(9,I.of (aP)),(10,I.eq (.pointer (some ⟨a7,0,none⟩))),(16,I.of (!ak)),(28,I.of (aP.isSome && cK.e7)),(33,I.of (dL.c5.isNone)),(39,I.of (aa)),(40,I.eq (.pointer (some ⟨cB,0,none⟩))),(41,I.eq (.pointer (some ⟨cB,0 + 1,none⟩))),(42,I.of (fV.c5)),(43,I.of (aa)),(44,I.of (aj)),(45,I.of (aR)),(46,I.gT 255 [I.ptr bc.1,I.ptr bc.2.1,I.ptr bc.2.2]),(68,I.of (s2.1)),(69,I.of (s2.1)),(71,I.eq (.pointer (some ⟨iH,0,none⟩))),(72,I.eq (.pointer (some ⟨iH,0 + 2,none⟩)))]) (fun xC=>(⟨some D,.di⟩ :: ⟨some a7,.var (s2.1:Ref)⟩ :: ⟨some aT,.var (aj:ao)⟩ :: bd eE)) (fun xC=> ?_) (fun u4=> ?_)
     ·clear h
      refine bs.step [2] (by kernel_rfl) rfl ⟨⟨_,rfl,?_⟩,trivial⟩
      ·refine aB ?_
       refine ah.nil ?_
       exact ag.any rfl (bs.le (.same rfl (.same rfl (.same rfl (.same rfl (.same rfl (.same rfl (.same rfl (.same rfl (.same rfl (.same rfl (.same rfl (.same rfl (.same rfl (.same rfl (.same rfl (.same rfl (.same rfl (.same rfl (.same rfl (.same rfl (.same rfl (.same rfl (.same rfl (.same rfl .nil)))))))))))))))))))))))) (u3 ()))
     refine bs.cut (γ:=Unit) 4 (Array.mk (true :: true :: true :: true :: true :: false :: false :: false :: false :: [])) (fun xD=> [(0,I.of (aa)),(1,I.of (aj)),(2,I.of (aR)),(3,I.of (c3)),(5,I.eq (.pointer (some ⟨aT,0,none⟩))),(8,I.of (false)),(9,I.of (aP)),(10,I.eq (.pointer (some ⟨a7,0,none⟩))),(16,I.of (!ak)),(28,I.of (aP.isSome && cK.e7)),(33,I.of (dL.c5.isNone)),(39,I.of (aa)),(40,I.eq (.pointer (some ⟨cB,0,none⟩))),(41,I.eq (.pointer (some ⟨cB,0 + 1,none⟩))),(42,I.of (fV.c5)),(43,I.of (aa)),(44,I.of (aj)),(45,I.of (aR)),(46,I.gT 255 [I.ptr bc.1,I.ptr bc.2.1,I.ptr bc.2.2]),(68,I.of (s2.1)),(69,I.of (s2.1)),(70,I.of (c3)),(71,I.eq (.pointer (some ⟨iH,0,none⟩))),(72,I.eq (.pointer (some ⟨iH,0 + 2,none⟩)))]) (fun xD=>(⟨some D,.di⟩ :: ⟨some a7,.var (s2.1:Ref)⟩ :: ⟨some aT,.var (aj:ao)⟩ :: bd s2.2)) (fun xD=> ?_) (fun u5=> ?_)
     ·clear h
      refine bs.step [5] (by kernel_rfl) rfl ⟨⟨_,rfl,?_⟩,trivial⟩
      ·refine ah.oH (k':=Cell.gJ ({ vL with e7:=true } :ew)) 3 rfl ((aL.id ew).comp tP) (v:=(true:Bool)) k8 (ae rfl) (fr true) (mD B7) rfl rfl rfl rfl (aI vj) ?_
       refine ah.nil ?_
       exact ag.any rfl (bs.le (.same rfl (.same rfl (.same rfl (.same rfl (.same rfl (.same rfl (.same rfl (.same rfl (.same rfl (.same rfl (.same rfl (.same rfl (.same rfl (.same rfl (.same rfl (.same rfl (.same rfl (.same rfl (.same rfl (.same rfl (.same rfl (.same rfl (.same rfl (.same rfl .nil)))))))))))))))))))))))) (u3 ()))
     refine bs.cut (γ:=Unit) 5 (Array.mk (true :: false :: false :: true :: true :: true :: false :: false :: false :: [])) (fun xE=> [(0,I.of (aa)),(1,I.of (aj)),(2,I.of (aR)),(3,I.of (c3)),(5,I.eq (.pointer (some ⟨aT,0,none⟩))),(8,I.of (false)),(9,I.of (aP)),(10,I.eq (.pointer (some ⟨a7,0,none⟩))),(16,I.of (!ak)),(28,I.of (aP.isSome && cK.e7)),(33,I.of (dL.c5.isNone)),(39,I.of (aa)),(40,I.eq (.pointer (some ⟨cB,0,none⟩))),(41,I.eq (.pointer (some ⟨cB,0 + 1,none⟩))),(42,I.of (fV.c5)),(43,I.of (aa)),(44,I.of (aj)),(45,I.of (aR)),(46,I.gT 255 [I.ptr bc.1,I.ptr bc.2.1,I.ptr bc.2.2]),(68,I.of (s2.1)),(71,I.eq (.pointer (some ⟨iH,0,none⟩))),(72,I.eq (.pointer (some ⟨iH,0 + 2,none⟩)))]) (fun xE=>(⟨some D,.di⟩ :: ⟨some a7,.var (s2.1:Ref)⟩ :: ⟨some aT,.var (aj:ao)⟩ :: bd eE)) (fun xE=> ?_) (fun x1=> ?_)
     ·clear h
      refine bs.step [1,2] (by kernel_rfl) rfl ⟨⟨_,rfl,?_⟩,⟨_,rfl,?_⟩,trivial⟩
      ·refine cc 1 fx ?_
       refine ah.nil ?_
       exact ag.any rfl (bs.le (.same rfl (.same rfl (.same rfl (.same rfl (.same rfl (.same rfl (.same rfl (.same rfl (.same rfl (.same rfl (.same rfl (.same rfl (.same rfl (.same rfl (.same rfl (.same rfl (.same rfl (.same rfl (.same rfl (.same rfl (.same rfl (.same rfl (.same rfl .nil))))))))))))))))))))))) (u4 ()))
      ·refine aB ?_
       refine ah.nil ?_
       exact ag.any rfl (bs.le (.same rfl (.same rfl (.same rfl (.same rfl (.same rfl (.same rfl (.same rfl (.same rfl (.same rfl (.same rfl (.same rfl (.same rfl (.same rfl (.same rfl (.same rfl (.same rfl (.same rfl (.same rfl (.same rfl (.same rfl (.same rfl (.same rfl (.same rfl .nil))))))))))))))))))))))) (x0 ()))
     refine bs.cut (γ:=Unit) 5 (Array.mk (true :: false :: true :: true :: true :: false :: false :: false :: false :: [])) (fun pH=> [(0,I.of (aa)),(1,I.of (aj)),(2,I.of (aR)),(3,I.of (c3)),(5,I.eq (.pointer (some ⟨aT,0,none⟩))),(8,I.of (false)),(9,I.of (aP)),(10,I.eq (.pointer (some ⟨a7,0,none⟩))),(16,I.of (!ak)),(28,I.of (aP.isSome && cK.e7)),(33,I.of (dL.c5.isNone)),(39,I.of (aa)),(40,I.eq (.pointer (some ⟨cB,0,none⟩))),(41,I.eq (.pointer (some ⟨cB,0 + 1,none⟩))),(42,I.of (fV.c5)),(43,I.of (aa)),(44,I.of (aj)),(45,I.of (aR)),(46,I.gT 255 [I.ptr bc.1,I.ptr bc.2.1,I.ptr bc.2.2]),(68,I.of (s2.1)),(70,I.of (c3)),(71,I.eq (.pointer (some ⟨iH,0,none⟩))),(72,I.eq (.pointer (some ⟨iH,0 + 2,none⟩)))]) (fun pH=>(⟨some D,.di⟩ :: ⟨some a7,.var (s2.1:Ref)⟩ :: ⟨some aT,.var (aj:ao)⟩ :: bd s2.2)) (fun pH=> ?_) (fun BA=> ?_)
     ·clear h
      refine bs.step [1,5] (by kernel_rfl) rfl ⟨⟨_,rfl,?_⟩,⟨_,rfl,?_⟩,trivial⟩
      ·refine cc 1 fx ?_
       refine ah.nil ?_
       exact ag.any rfl (bs.le (.same rfl (.same rfl (.same rfl (.same rfl (.same rfl (.same rfl (.same rfl (.same rfl (.same rfl (.same rfl (.same rfl (.same rfl (.same rfl (.same rfl (.same rfl (.same rfl (.same rfl (.same rfl (.same rfl (.same rfl (.same rfl (.same rfl (.same rfl (.same rfl .nil)))))))))))))))))))))))) (u5 ()))
      ·refine ah.oH (k':=Cell.gJ ({ vL with e7:=true } :ew)) 3 rfl ((aL.id ew).comp tP) (v:=(true:Bool)) k8 (ae rfl) (fr true) (mD B7) rfl rfl rfl rfl (aI vj) ?_
       refine ah.nil ?_
       exact ag.any rfl (bs.le (.same rfl (.same rfl (.same rfl (.same rfl (.same rfl (.same rfl (.same rfl (.same rfl (.same rfl (.same rfl (.same rfl (.same rfl (.same rfl (.same rfl (.same rfl (.same rfl (.same rfl (.same rfl (.same rfl (.same rfl (.same rfl (.same rfl (.same rfl .nil))))))))))))))))))))))) (x0 ()))
     refine bs.cut (γ:=Unit) 5 (Array.mk (true :: true :: false :: true :: true :: false :: false :: false :: false :: [])) (fun xF=> [(0,I.of (aa)),(1,I.of (aj)),(2,I.of (aR)),(3,I.of (c3)),(5,I.eq (.pointer (some ⟨aT,0,none⟩))),(8,I.of (false)),(9,I.of (aP)),(10,I.eq (.pointer (some ⟨a7,0,none⟩))),(16,I.of (!ak)),(28,I.of (aP.isSome && cK.e7)),(33,I.of (dL.c5.isNone)),(39,I.of (aa)),(40,I.eq (.pointer (some ⟨cB,0,none⟩))),(41,I.eq (.pointer (some ⟨cB,0 + 1,none⟩))),(42,I.of (fV.c5)),(43,I.of (aa)),(44,I.of (aj)),(45,I.of (aR)),(46,I.gT 255 [I.ptr bc.1,I.ptr bc.2.1,I.ptr bc.2.2]),(68,I.of (s2.1)),(69,I.of (s2.1)),(71,I.eq (.pointer (some ⟨iH,0,none⟩))),(72,I.eq (.pointer (some ⟨iH,0 + 2,none⟩)))]) (fun xF=>(⟨some D,.di⟩ :: ⟨some a7,.var (s2.1:Ref)⟩ :: ⟨some aT,.var (aj:ao)⟩ :: bd s2.2)) (fun xF=> ?_) (fun x2=> ?_)
     ·clear h
      refine bs.step [2,5] (by kernel_rfl) rfl ⟨⟨_,rfl,?_⟩,⟨_,rfl,?_⟩,trivial⟩
      ·refine aB ?_
       refine ah.nil ?_
       exact ag.any rfl (bs.le (.same rfl (.same rfl (.same rfl (.same rfl (.same rfl (.same rfl (.same rfl (.same rfl (.same rfl (.same rfl (.same rfl (.same rfl (.same rfl (.same rfl (.same rfl (.same rfl (.same rfl (.same rfl (.same rfl (.same rfl (.same rfl (.same rfl (.same rfl (.same rfl .nil)))))))))))))))))))))))) (u5 ()))
      ·refine ah.oH (k':=Cell.gJ ({ vL with e7:=true } :ew)) 3 rfl ((aL.id ew).comp tP) (v:=(true:Bool)) k8 (ae rfl) (fr true) (mD B7) rfl rfl rfl rfl (aI vj) ?_
       refine ah.nil ?_
       exact ag.any rfl (bs.le (.same rfl (.same rfl (.same rfl (.same rfl (.same rfl (.same rfl (.same rfl (.same rfl (.same rfl (.same rfl (.same rfl (.same rfl (.same rfl (.same rfl (.same rfl (.same rfl (.same rfl (.same rfl (.same rfl (.same rfl (.same rfl (.same rfl (.same rfl .nil))))))))))))))))))))))) (u4 ()))
     refine bs.cut (γ:=Unit) 5 (Array.mk (true :: true :: true :: true :: false :: false :: false :: false :: false :: [])) (fun xG=> [(0,I.of (aa)),(1,I.of (aj)),(2,I.of (aR)),(3,I.of (c3)),(5,I.eq (.pointer (some ⟨aT,0,none⟩))),(8,I.of (false)),(9,I.of (aP)),(10,I.eq (.pointer (some ⟨a7,0,none⟩))),(16,I.of (!ak)),(28,I.of (aP.isSome && cK.e7)),(33,I.of (dL.c5.isNone)),(39,I.of (aa)),(40,I.eq (.pointer (some ⟨cB,0,none⟩))),(41,I.eq (.pointer (some ⟨cB,0 + 1,none⟩))),(42,I.of (fV.c5)),(43,I.of (aa)),(44,I.of (aj)),(45,I.of (aR)),(46,I.gT 255 [I.ptr bc.1,I.ptr bc.2.1,I.ptr bc.2.2]),(68,I.of (s2.1)),(69,I.of (s2.1)),(70,I.of (c3)),(71,I.eq (.pointer (some ⟨iH,0,none⟩)))]) (fun xG=>(⟨some D,.di⟩ :: ⟨some a7,.var (s2.1:Ref)⟩ :: ⟨some aT,.var (aj:ao)⟩ :: bd s2.2)) (fun xG=> ?_) (fun u6=> ?_)
     ·clear h
      refine bs.step [4] (by kernel_rfl) rfl ⟨⟨_,rfl,?_⟩,trivial⟩
      ·refine aW (a0 uE) ?_
       refine ah.nil ?_
       exact ag.any rfl (bs.le (.same rfl (.same rfl (.same rfl (.same rfl (.same rfl (.same rfl (.same rfl (.same rfl (.same rfl (.same rfl (.same rfl (.same rfl (.same rfl (.same rfl (.same rfl (.same rfl (.same rfl (.same rfl (.same rfl (.same rfl (.same rfl (.same rfl (.same rfl (.same rfl .nil)))))))))))))))))))))))) (u5 ()))
     refine bs.cut (γ:=Unit) 6 (Array.mk (true :: false :: false :: true :: true :: false :: false :: false :: false :: [])) (fun xH=> [(0,I.of (aa)),(1,I.of (aj)),(2,I.of (aR)),(3,I.of (c3)),(5,I.eq (.pointer (some ⟨aT,0,none⟩))),(8,I.of (false)),(9,I.of (aP)),(10,I.eq (.pointer (some ⟨a7,0,none⟩))),(16,I.of (!ak)),(28,I.of (aP.isSome && cK.e7)),(33,I.of (dL.c5.isNone)),(39,I.of (aa)),(40,I.eq (.pointer (some ⟨cB,0,none⟩))),(41,I.eq (.pointer (some ⟨cB,0 + 1,none⟩))),(42,I.of (fV.c5)),(43,I.of (aa)),(44,I.of (aj)),(45,I.of (aR)),(46,I.gT 255 [I.ptr bc.1,I.ptr bc.2.1,I.ptr bc.2.2]),(68,I.of (s2.1)),(71,I.eq (.pointer (some ⟨iH,0,none⟩))),(72,I.eq (.pointer (some ⟨iH,0 + 2,none⟩)))]) (fun xH=>(⟨some D,.di⟩ :: ⟨some a7,.var (s2.1:Ref)⟩ :: ⟨some aT,.var (aj:ao)⟩ :: bd s2.2)) (fun xH=> ?_) (fun x3=> ?_)
     ·clear h
      refine bs.step [1,2,5] (by kernel_rfl) rfl ⟨⟨_,rfl,?_⟩,⟨_,rfl,?_⟩,⟨_,rfl,?_⟩,trivial⟩
      ·refine cc 1 fx ?_
       refine ah.nil ?_
       exact ag.any rfl (bs.le (.same rfl (.same rfl (.same rfl (.same rfl (.same rfl (.same rfl (.same rfl (.same rfl (.same rfl (.same rfl (.same rfl (.same rfl (.same rfl (.same rfl (.same rfl (.same rfl (.same rfl (.same rfl (.same rfl (.same rfl (.same rfl (.same rfl (.same rfl .nil))))))))))))))))))))))) (x2 ()))
      ·refine aB ?_
       refine ah.nil ?_
       exact ag.any rfl (bs.le (.same rfl (.same rfl (.same rfl (.same rfl (.same rfl (.same rfl (.same rfl (.same rfl (.same rfl (.same rfl (.same rfl (.same rfl (.same rfl (.same rfl (.same rfl (.same rfl (.same rfl (.same rfl (.same rfl (.same rfl (.same rfl (.same rfl (.same rfl .nil))))))))))))))))))))))) (BA ()))
      ·refine ah.oH (k':=Cell.gJ ({ vL with e7:=true } :ew)) 3 rfl ((aL.id ew).comp tP) (v:=(true:Bool)) k8 (ae rfl) (fr true) (mD B7) rfl rfl rfl rfl (aI vj) ?_
       refine ah.nil ?_
       exact ag.any rfl (bs.le (.same rfl (.same rfl (.same rfl (.same rfl (.same rfl (.same rfl (.same rfl (.same rfl (.same rfl (.same rfl (.same rfl (.same rfl (.same rfl (.same rfl (.same rfl (.same rfl (.same rfl (.same rfl (.same rfl (.same rfl (.same rfl (.same rfl .nil)))))))))))))))))))))) (x1 ()))
     refine bs.cut (γ:=Unit) 6 (Array.mk (true :: false :: true :: true :: false :: false :: false :: false :: false :: [])) (fun xI=> [(0,I.of (aa)),(1,I.of (aj)),(2,I.of (aR)),(3,I.of (c3)),(5,I.eq (.pointer (some ⟨aT,0,none⟩))),(8,I.of (false)),(9,I.of (aP)),(10,I.eq (.pointer (some ⟨a7,0,none⟩))),(16,I.of (!ak)),(28,I.of (aP.isSome && cK.e7)),(33,I.of (dL.c5.isNone)),(39,I.of (aa)),(40,I.eq (.pointer (some ⟨cB,0,none⟩))),(41,I.eq (.pointer (some ⟨cB,0 + 1,none⟩))),(42,I.of (fV.c5)),(43,I.of (aa)),(44,I.of (aj)),(45,I.of (aR)),(46,I.gT 255 [I.ptr bc.1,I.ptr bc.2.1,I.ptr bc.2.2]),(68,I.of (s2.1)),(70,I.of (c3)),(71,I.eq (.pointer (some ⟨iH,0,none⟩)))]) (fun xI=>(⟨some D,.di⟩ :: ⟨some a7,.var (s2.1:Ref)⟩ :: ⟨some aT,.var (aj:ao)⟩ :: bd s2.2)) (fun xI=> ?_) (fun x4=> ?_)
     ·clear h
      refine bs.step [1,4] (by kernel_rfl) rfl ⟨⟨_,rfl,?_⟩,⟨_,rfl,?_⟩,trivial⟩
      ·refine cc 1 fx ?_
       refine ah.nil ?_
       exact ag.any rfl (bs.le (.same rfl (.same rfl (.same rfl (.same rfl (.same rfl (.same rfl (.same rfl (.same rfl (.same rfl (.same rfl (.same rfl (.same rfl (.same rfl (.same rfl (.same rfl (.same rfl (.same rfl (.same rfl (.same rfl (.same rfl (.same rfl (.same rfl (.same rfl .nil))))))))))))))))))))))) (u6 ()))
      ·refine aW (a0 uE) ?_
       refine ah.nil ?_
       exact ag.any rfl (bs.le (.same rfl (.same rfl (.same rfl (.same rfl (.same rfl (.same rfl (.same rfl (.same rfl (.same rfl (.same rfl (.same rfl (.same rfl (.same rfl (.same rfl (.same rfl (.same rfl (.same rfl (.same rfl (.same rfl (.same rfl (.same rfl (.same rfl (.same rfl .nil))))))))))))))))))))))) (BA ()))
     refine bs.cut (γ:=Unit) 6 (Array.mk (true :: true :: false :: true :: false :: false :: false :: false :: false :: [])) (fun x5=> [(0,I.of (aa)),(1,I.of (aj)),(2,I.of (aR)),(3,I.of (c3)),(5,I.eq (.pointer (some ⟨aT,0,none⟩))),(8,I.of (false)),(9,I.of (aP)),(10,I.eq (.pointer (some ⟨a7,0,none⟩))),(16,I.of (!ak)),(28,I.of (aP.isSome && cK.e7)),(33,I.of (dL.c5.isNone)),(39,I.of (aa)),(40,I.eq (.pointer (some ⟨cB,0,none⟩))),(41,I.eq (.pointer (some ⟨cB,0 + 1,none⟩))),(42,I.of (fV.c5)),(43,I.of (aa)),(44,I.of (aj)),(45,I.of (aR)),(46,I.gT 255 [I.ptr bc.1,I.ptr bc.2.1,I.ptr bc.2.2]),(68,I.of (s2.1)),(69,I.of (s2.1)),(71,I.eq (.pointer (some ⟨iH,0,none⟩)))]) (fun x5=>(⟨some D,.di⟩ :: ⟨some a7,.var (s2.1:Ref)⟩ :: ⟨some aT,.var (aj:ao)⟩ :: bd s2.2)) (fun x5=> ?_) (fun yB=> ?_)
     ·clear h
      refine bs.step [2,4] (by kernel_rfl) rfl ⟨⟨_,rfl,?_⟩,⟨_,rfl,?_⟩,trivial⟩
      ·refine aB ?_
       refine ah.nil ?_
       exact ag.any rfl (bs.le (.same rfl (.same rfl (.same rfl (.same rfl (.same rfl (.same rfl (.same rfl (.same rfl (.same rfl (.same rfl (.same rfl (.same rfl (.same rfl (.same rfl (.same rfl (.same rfl (.same rfl (.same rfl (.same rfl (.same rfl (.same rfl (.same rfl (.same rfl .nil))))))))))))))))))))))) (u6 ()))
      ·refine aW (a0 uE) ?_
       refine ah.nil ?_
       exact ag.any rfl (bs.le (.same rfl (.same rfl (.same rfl (.same rfl (.same rfl (.same rfl (.same rfl (.same rfl (.same rfl (.same rfl (.same rfl (.same rfl (.same rfl (.same rfl (.same rfl (.same rfl (.same rfl (.same rfl (.same rfl (.same rfl (.same rfl (.same rfl (.same rfl .nil))))))))))))))))))))))) (x2 ()))
     refine bs.cut (γ:=Unit) 6 (Array.mk (true :: true :: true :: false :: false :: false :: false :: false :: false :: [])) (fun x6=> [(0,I.of (aa)),(1,I.of (aj)),(2,I.of (aR)),(3,I.of (c3)),(5,I.eq (.pointer (some ⟨aT,0,none⟩))),(8,I.of (false)),(9,I.of (aP)),(10,I.eq (.pointer (some ⟨a7,0,none⟩))),(16,I.of (!ak)),(28,I.of (aP.isSome && cK.e7)),(33,I.of (dL.c5.isNone)),(39,I.of (aa)),(40,I.eq (.pointer (some ⟨cB,0,none⟩))),(41,I.eq (.pointer (some ⟨cB,0 + 1,none⟩))),(42,I.of (fV.c5)),(43,I.of (aa)),(44,I.of (aj)),(45,I.of (aR)),(46,I.gT 255 [I.ptr bc.1,I.ptr bc.2.1,I.ptr bc.2.2]),(68,I.of (s2.1)),(69,I.of (s2.1)),(70,I.of (c3))]) (fun x6=>(⟨some D,.di⟩ :: ⟨some a7,.var (s2.1:Ref)⟩ :: ⟨some aT,.var (aj:ao)⟩ :: bd s2.2)) (fun x6=> ?_) (fun yC=> ?_)
     ·clear h
      refine bs.step [3] (by kernel_rfl) rfl ⟨⟨_,rfl,?_⟩,trivial⟩
      ·refine bp (fw (gQ (ae rfl) B6)) ?_
       refine ah.nil ?_
       exact ag.any rfl (bs.le (.same rfl (.same rfl (.same rfl (.same rfl (.same rfl (.same rfl (.same rfl (.same rfl (.same rfl (.same rfl (.same rfl (.same rfl (.same rfl (.same rfl (.same rfl (.same rfl (.same rfl (.same rfl (.same rfl (.same rfl (.same rfl (.same rfl (.same rfl .nil))))))))))))))))))))))) (u6 ()))
     refine bs.cut (γ:=Unit) 7 (Array.mk (false :: true :: true :: false :: false :: false :: false :: false :: false :: [])) (fun x7=> [(0,I.of (aa)),(1,I.of (aj)),(2,I.of (aR)),(3,I.of (c3)),(5,I.eq (.pointer (some ⟨aT,0,none⟩))),(8,I.of (false)),(9,I.of (aP)),(10,I.eq (.pointer (some ⟨a7,0,none⟩))),(16,I.of (!ak)),(28,I.of (aP.isSome && cK.e7)),(33,I.of (dL.c5.isNone)),(39,I.of (aa)),(40,I.eq (.pointer (some ⟨cB,0,none⟩))),(41,I.eq (.pointer (some ⟨cB,0 + 1,none⟩))),(42,I.of (fV.c5)),(43,I.of (aa)),(44,I.of (aj)),(45,I.of (aR)),(46,I.gT 255 [I.ptr bc.1,I.ptr bc.2.1,I.ptr bc.2.2]),(69,I.of (s2.1)),(70,I.of (c3))]) (fun x7=>(⟨some D,.di⟩ :: ⟨some a7,.var (s2.1:Ref)⟩ :: ⟨some aT,.var (aj:ao)⟩ :: bd s2.2)) (fun x7=> ?_) (fun yD=> ?_)
     ·clear h
      refine bs.step [0] (by kernel_rfl) rfl ⟨⟨_,rfl,?_⟩,trivial⟩
      ·refine cc 1 fx ?_
       refine ah.nil ?_
       exact ag.any rfl (bs.le (.same rfl (.same rfl (.same rfl (.same rfl (.same rfl (.same rfl (.same rfl (.same rfl (.same rfl (.same rfl (.same rfl (.same rfl (.same rfl (.same rfl (.same rfl (.same rfl (.same rfl (.same rfl (.same rfl (.same rfl (.same rfl (.same rfl .nil)))))))))))))))))))))) (yC ()))
     refine bs.cut (γ:=Unit) 7 (Array.mk (true :: false :: false :: true :: false :: false :: false :: false :: false :: [])) (fun x8=> [(0,I.of (aa)),(1,I.of (aj)),(2,I.of (aR)),(3,I.of (c3)),(5,I.eq (.pointer (some ⟨aT,0,none⟩))),(8,I.of (false)),(9,I.of (aP)),(10,I.eq (.pointer (some ⟨a7,0,none⟩))),(16,I.of (!ak)),(28,I.of (aP.isSome && cK.e7)),(33,I.of (dL.c5.isNone)),(39,I.of (aa)),(40,I.eq (.pointer (some ⟨cB,0,none⟩))),(41,I.eq (.pointer (some ⟨cB,0 + 1,none⟩))),(42,I.of (fV.c5)),(43,I.of (aa)),(44,I.of (aj)),(45,I.of (aR)),(46,I.gT 255 [I.ptr bc.1,I.ptr bc.2.1,I.ptr bc.2.2]),(68,I.of (s2.1)),(71,I.eq (.pointer (some ⟨iH,0,none⟩)))]) (fun x8=>(⟨some D,.di⟩ :: ⟨some a7,.var (s2.1:Ref)⟩ :: ⟨some aT,.var (aj:ao)⟩ :: bd s2.2)) (fun x8=> ?_) (fun BM=> ?_)
     ·clear h
      refine bs.step [1,2,4] (by kernel_rfl) rfl ⟨⟨_,rfl,?_⟩,⟨_,rfl,?_⟩,⟨_,rfl,?_⟩,trivial⟩
      ·refine cc 1 fx ?_
       refine ah.nil ?_
       exact ag.any rfl (bs.le (.same rfl (.same rfl (.same rfl (.same rfl (.same rfl (.same rfl (.same rfl (.same rfl (.same rfl (.same rfl (.same rfl (.same rfl (.same rfl (.same rfl (.same rfl (.same rfl (.same rfl (.same rfl (.same rfl (.same rfl (.same rfl (.same rfl .nil)))))))))))))))))))))) (yB ()))
      ·refine aB ?_
       refine ah.nil ?_
       exact ag.any rfl (bs.le (.same rfl (.same rfl (.same rfl (.same rfl (.same rfl (.same rfl (.same rfl (.same rfl (.same rfl (.same rfl (.same rfl (.same rfl (.same rfl (.same rfl (.same rfl (.same rfl (.same rfl (.same rfl (.same rfl (.same rfl (.same rfl (.same rfl .nil)))))))))))))))))))))) (x4 ()))
      ·refine aW (a0 uE) ?_
       refine ah.nil ?_
       exact ag.any rfl (bs.le (.same rfl (.same rfl (.same rfl (.same rfl (.same rfl (.same rfl (.same rfl (.same rfl (.same rfl (.same rfl (.same rfl (.same rfl (.same rfl (.same rfl (.same rfl (.same rfl (.same rfl (.same rfl (.same rfl (.same rfl (.same rfl (.same rfl .nil)))))))))))))))))))))) (x3 ()))
     refine bs.cut (γ:=Unit) 7 (Array.mk (true :: false :: true :: false :: false :: false :: false :: false :: false :: [])) (fun x9=> [(0,I.of (aa)),(1,I.of (aj)),(2,I.of (aR)),(3,I.of (c3)),(5,I.eq (.pointer (some ⟨aT,0,none⟩))),(8,I.of (false)),(9,I.of (aP)),(10,I.eq (.pointer (some ⟨a7,0,none⟩))),(16,I.of (!ak)),(28,I.of (aP.isSome && cK.e7)),(33,I.of (dL.c5.isNone)),(39,I.of (aa)),(40,I.eq (.pointer (some ⟨cB,0,none⟩))),(41,I.eq (.pointer (some ⟨cB,0 + 1,none⟩))),(42,I.of (fV.c5)),(43,I.of (aa)),(44,I.of (aj)),(45,I.of (aR)),(46,I.gT 255 [I.ptr bc.1,I.ptr bc.2.1,I.ptr bc.2.2]),(68,I.of (s2.1)),(70,I.of (c3))]) (fun x9=>(⟨some D,.di⟩ :: ⟨some a7,.var (s2.1:Ref)⟩ :: ⟨some aT,.var (aj:ao)⟩ :: bd s2.2)) (fun x9=> ?_) (fun yE=> ?_)
     ·clear h
      refine bs.step [1,3] (by kernel_rfl) rfl ⟨⟨_,rfl,?_⟩,⟨_,rfl,?_⟩,trivial⟩
      ·refine cc 1 fx ?_
       refine ah.nil ?_
       exact ag.any rfl (bs.le (.same rfl (.same rfl (.same rfl (.same rfl (.same rfl (.same rfl (.same rfl (.same rfl (.same rfl (.same rfl (.same rfl (.same rfl (.same rfl (.same rfl (.same rfl (.same rfl (.same rfl (.same rfl (.same rfl (.same rfl (.same rfl (.same rfl .nil)))))))))))))))))))))) (yC ()))
      ·refine bp (fw (gQ (ae rfl) B6)) ?_
       refine ah.nil ?_
       exact ag.any rfl (bs.le (.same rfl (.same rfl (.same rfl (.same rfl (.same rfl (.same rfl (.same rfl (.same rfl (.same rfl (.same rfl (.same rfl (.same rfl (.same rfl (.same rfl (.same rfl (.same rfl (.same rfl (.same rfl (.same rfl (.same rfl (.same rfl (.same rfl .nil)))))))))))))))))))))) (x4 ()))
     refine bs.cut (γ:=Unit) 7 (Array.mk (true :: true :: false :: false :: false :: false :: false :: false :: false :: [])) (fun ya=> [(0,I.of (aa)),(1,I.of (aj)),(2,I.of (aR)),(3,I.of (c3)),(5,I.eq (.pointer (some ⟨aT,0,none⟩))),(8,I.of (false)),(9,I.of (aP)),(10,I.eq (.pointer (some ⟨a7,0,none⟩))),(16,I.of (!ak)),(28,I.of (aP.isSome && cK.e7)),(33,I.of (dL.c5.isNone)),(39,I.of (aa)),(40,I.eq (.pointer (some ⟨cB,0,none⟩))),(41,I.eq (.pointer (some ⟨cB,0 + 1,none⟩))),(42,I.of (fV.c5)),(43,I.of (aa)),(44,I.of (aj)),(45,I.of (aR)),(46,I.gT 255 [I.ptr bc.1,I.ptr bc.2.1,I.ptr bc.2.2]),(68,I.of (s2.1)),(69,I.of (s2.1))]) (fun ya=>(⟨some D,.di⟩ :: ⟨some a7,.var (s2.1:Ref)⟩ :: ⟨some aT,.var (aj:ao)⟩ :: bd s2.2)) (fun ya=> ?_) (fun BN=> ?_)
     ·clear h
      refine bs.step [2,3] (by kernel_rfl) rfl ⟨⟨_,rfl,?_⟩,⟨_,rfl,?_⟩,trivial⟩
      ·refine aB ?_
       refine ah.nil ?_
       exact ag.any rfl (bs.le (.same rfl (.same rfl (.same rfl (.same rfl (.same rfl (.same rfl (.same rfl (.same rfl (.same rfl (.same rfl (.same rfl (.same rfl (.same rfl (.same rfl (.same rfl (.same rfl (.same rfl (.same rfl (.same rfl (.same rfl (.same rfl (.same rfl .nil)))))))))))))))))))))) (yC ()))
      ·refine bp (fw (gQ (ae rfl) B6)) ?_
       refine ah.nil ?_
       exact ag.any rfl (bs.le (.same rfl (.same rfl (.same rfl (.same rfl (.same rfl (.same rfl (.same rfl (.same rfl (.same rfl (.same rfl (.same rfl (.same rfl (.same rfl (.same rfl (.same rfl (.same rfl (.same rfl (.same rfl (.same rfl (.same rfl (.same rfl (.same rfl .nil)))))))))))))))))))))) (yB ()))
     refine bs.cut (γ:=Unit) 8 (Array.mk (false :: false :: true :: false :: false :: false :: false :: false :: false :: [])) (fun yb=> [(0,I.of (aa)),(1,I.of (aj)),(2,I.of (aR)),(3,I.of (c3)),(5,I.eq (.pointer (some ⟨aT,0,none⟩))),(8,I.of (false)),(9,I.of (aP)),(10,I.eq (.pointer (some ⟨a7,0,none⟩))),(16,I.of (!ak)),(28,I.of (aP.isSome && cK.e7)),(33,I.of (dL.c5.isNone)),(39,I.of (aa)),(40,I.eq (.pointer (some ⟨cB,0,none⟩))),(41,I.eq (.pointer (some ⟨cB,0 + 1,none⟩))),(42,I.of (fV.c5)),(43,I.of (aa)),(44,I.of (aj)),(45,I.of (aR)),(46,I.gT 255 [I.ptr bc.1,I.ptr bc.2.1,I.ptr bc.2.2]),(70,I.of (c3))]) (fun yb=>(⟨some D,.di⟩ :: ⟨some a7,.var (s2.1:Ref)⟩ :: ⟨some aT,.var (aj:ao)⟩ :: bd s2.2)) (fun yb=> ?_) (fun Fj=> ?_)
     ·clear h
      refine bs.step [0,1] (by kernel_rfl) rfl ⟨⟨_,rfl,?_⟩,⟨_,rfl,?_⟩,trivial⟩
      ·refine cc 1 fx ?_
       refine ah.nil ?_
       exact ag.any rfl (bs.le (.same rfl (.same rfl (.same rfl (.same rfl (.same rfl (.same rfl (.same rfl (.same rfl (.same rfl (.same rfl (.same rfl (.same rfl (.same rfl (.same rfl (.same rfl (.same rfl (.same rfl (.same rfl (.same rfl (.same rfl (.same rfl .nil))))))))))))))))))))) (yE ()))
      ·refine cc 1 fx ?_
       refine ah.nil ?_
       exact ag.any rfl (bs.le (.same rfl (.same rfl (.same rfl (.same rfl (.same rfl (.same rfl (.same rfl (.same rfl (.same rfl (.same rfl (.same rfl (.same rfl (.same rfl (.same rfl (.same rfl (.same rfl (.same rfl (.same rfl (.same rfl (.same rfl (.same rfl .nil))))))))))))))))))))) (yD ()))
     refine bs.cut (γ:=Unit) 8 (Array.mk (false :: true :: false :: false :: false :: false :: false :: false :: false :: [])) (fun yc=> [(0,I.of (aa)),(1,I.of (aj)),(2,I.of (aR)),(3,I.of (c3)),(5,I.eq (.pointer (some ⟨aT,0,none⟩))),(8,I.of (false)),(9,I.of (aP)),(10,I.eq (.pointer (some ⟨a7,0,none⟩))),(16,I.of (!ak)),(28,I.of (aP.isSome && cK.e7)),(33,I.of (dL.c5.isNone)),(39,I.of (aa)),(40,I.eq (.pointer (some ⟨cB,0,none⟩))),(41,I.eq (.pointer (some ⟨cB,0 + 1,none⟩))),(42,I.of (fV.c5)),(43,I.of (aa)),(44,I.of (aj)),(45,I.of (aR)),(46,I.gT 255 [I.ptr bc.1,I.ptr bc.2.1,I.ptr bc.2.2]),(69,I.of (s2.1))]) (fun yc=>(⟨some D,.di⟩ :: ⟨some a7,.var (s2.1:Ref)⟩ :: ⟨some aT,.var (aj:ao)⟩ :: bd s2.2)) (fun yc=> ?_) (fun Fk=> ?_)
     ·clear h
      refine bs.step [0,2] (by kernel_rfl) rfl ⟨⟨_,rfl,?_⟩,⟨_,rfl,?_⟩,trivial⟩
      ·refine cc 1 fx ?_
       refine ah.nil ?_
       exact ag.any rfl (bs.le (.same rfl (.same rfl (.same rfl (.same rfl (.same rfl (.same rfl (.same rfl (.same rfl (.same rfl (.same rfl (.same rfl (.same rfl (.same rfl (.same rfl (.same rfl (.same rfl (.same rfl (.same rfl (.same rfl (.same rfl (.same rfl .nil))))))))))))))))))))) (BN ()))
      ·refine aB ?_
       refine ah.nil ?_
       exact ag.any rfl (bs.le (.same rfl (.same rfl (.same rfl (.same rfl (.same rfl (.same rfl (.same rfl (.same rfl (.same rfl (.same rfl (.same rfl (.same rfl (.same rfl (.same rfl (.same rfl (.same rfl (.same rfl (.same rfl (.same rfl (.same rfl (.same rfl .nil))))))))))))))))))))) (yD ()))
     refine bs.cut (γ:=Unit) 8 (Array.mk (true :: false :: false :: false :: false :: false :: false :: false :: false :: [])) (fun yd=> [(0,I.of (aa)),(1,I.of (aj)),(2,I.of (aR)),(3,I.of (c3)),(5,I.eq (.pointer (some ⟨aT,0,none⟩))),(8,I.of (false)),(9,I.of (aP)),(10,I.eq (.pointer (some ⟨a7,0,none⟩))),(16,I.of (!ak)),(28,I.of (aP.isSome && cK.e7)),(33,I.of (dL.c5.isNone)),(39,I.of (aa)),(40,I.eq (.pointer (some ⟨cB,0,none⟩))),(41,I.eq (.pointer (some ⟨cB,0 + 1,none⟩))),(42,I.of (fV.c5)),(43,I.of (aa)),(44,I.of (aj)),(45,I.of (aR)),(46,I.gT 255 [I.ptr bc.1,I.ptr bc.2.1,I.ptr bc.2.2]),(68,I.of (s2.1))]) (fun yd=>(⟨some D,.di⟩ :: ⟨some a7,.var (s2.1:Ref)⟩ :: ⟨some aT,.var (aj:ao)⟩ :: bd s2.2)) (fun yd=> ?_) (fun Fl=> ?_)
     ·clear h
      refine bs.step [1,2,3] (by kernel_rfl) rfl ⟨⟨_,rfl,?_⟩,⟨_,rfl,?_⟩,⟨_,rfl,?_⟩,trivial⟩
      ·refine cc 1 fx ?_
       refine ah.nil ?_
       exact ag.any rfl (bs.le (.same rfl (.same rfl (.same rfl (.same rfl (.same rfl (.same rfl (.same rfl (.same rfl (.same rfl (.same rfl (.same rfl (.same rfl (.same rfl (.same rfl (.same rfl (.same rfl (.same rfl (.same rfl (.same rfl (.same rfl (.same rfl .nil))))))))))))))))))))) (BN ()))
      ·refine aB ?_
       refine ah.nil ?_
       exact ag.any rfl (bs.le (.same rfl (.same rfl (.same rfl (.same rfl (.same rfl (.same rfl (.same rfl (.same rfl (.same rfl (.same rfl (.same rfl (.same rfl (.same rfl (.same rfl (.same rfl (.same rfl (.same rfl (.same rfl (.same rfl (.same rfl (.same rfl .nil))))))))))))))))))))) (yE ()))
      ·refine bp (fw (gQ (ae rfl) B6)) ?_
       refine ah.nil ?_
       exact ag.any rfl (bs.le (.same rfl (.same rfl (.same rfl (.same rfl (.same rfl (.same rfl (.same rfl (.same rfl (.same rfl (.same rfl (.same rfl (.same rfl (.same rfl (.same rfl (.same rfl (.same rfl (.same rfl (.same rfl (.same rfl (.same rfl (.same rfl .nil))))))))))))))))))))) (BM ()))
     refine bs.step [0,1,2] (by kernel_rfl) rfl ⟨⟨_,rfl,?_⟩,⟨_,rfl,?_⟩,⟨_,rfl,?_⟩,trivial⟩
     ·refine cc 1 fx ?_
      refine ah.nil ?_
      exact ag.any rfl (bs.le (.same rfl (.same rfl (.same rfl (.same rfl (.same rfl (.same rfl (.same rfl (.same rfl (.same rfl (.same rfl (.same rfl (.same rfl (.same rfl (.same rfl (.same rfl (.same rfl (.same rfl (.same rfl (.same rfl (.same rfl .nil)))))))))))))))))))) (Fl ()))
     ·refine cc 1 fx ?_
      refine ah.nil ?_
      exact ag.any rfl (bs.le (.same rfl (.same rfl (.same rfl (.same rfl (.same rfl (.same rfl (.same rfl (.same rfl (.same rfl (.same rfl (.same rfl (.same rfl (.same rfl (.same rfl (.same rfl (.same rfl (.same rfl (.same rfl (.same rfl (.same rfl .nil)))))))))))))))))))) (Fk ()))
     ·refine aB ?_
      refine ah.nil ?_
      exact ag.any rfl (bs.le (.same rfl (.same rfl (.same rfl (.same rfl (.same rfl (.same rfl (.same rfl (.same rfl (.same rfl (.same rfl (.same rfl (.same rfl (.same rfl (.same rfl (.same rfl (.same rfl (.same rfl (.same rfl (.same rfl (.same rfl .nil)))))))))))))))))))) (Fj ()))
    ·exact Empty.elim da
   ·refine ai.cl ?_
    refine aB ?_
    refine g2 K4 K5 (default:ew) .nil ?_
    refine ah.yl 1 rfl (Cell.gJ (default:ew)) (fun _=>rfl) (ae rfl) rfl fun ei yV=> ?_
    replace h:=aG.qT h ei yV
    refine bp (fw (gQ (ae rfl) g3)) ?_
    refine aW (a0 A2) ?_
    obtain⟨zG,B8,h⟩:=aG.cT h
    obtain⟨y0,Uu,h⟩:=aG.cT h
    refine ah.oH (k':=Cell.jb ({ zG with c5:=(some ei.1:Ref) } :fY)) 1 rfl ((aL.id fY).comp Ao) (v:=((some ei.1:Ref):Ref)) fx (ae rfl) (ae rfl) (pD B8) rfl rfl rfl rfl (aI Uu) ?_
    refine ah.nil ?_
    exact dI 0 (hm y0 () h)
   ·refine ai.skip ?_
    exact dI 0 (hm hp () h)
end Go.Proofs.YtmnggbjcnoffeaaGreat
namespace Go.Proofs.YtmnggbjcnoffeaaGreat
open Go Gv
set_option linter.unusedVariables false
set_option linter.unusedSimpArgs false
set_option maxRecDepth 100000
set_option maxHeartbeats 2000000
theorem NJ {hp:bb Cell} {aa:ef} {aj:aM} {Q:(bb Cell)→Prop} (h:wj hp aa aj Q):cz Tryz.prog 237 [I.of (aa),I.of (aj)] ([] ++ bd hp) (δ:= {r:(bb Cell) // Q r} × Unit) (fun d=>I.cF []) (fun d=> [] ++ bd d.1.1):=by
 unfold wj at h
 refine cz.of Tryz.func237 rfl Tryz.ntmps237 rfl fun W A=> ?_
 refine aD ?_
 refine cd fun aT=> ?_
 refine cd fun a7=> ?_
 refine bS ?_
 refine cc 1 EE ?_
 refine aW (a0 jQ) ?_
 refine b3 0 iL h5 ?_
 obtain⟨ak,bB,h⟩:=aG.cT h
 refine dF K7 (Ht bB) ?_
 refine aB ?_
 refine gf ?_
 refine gf ?_
 refine gf ?_
 refine cG xS fun bU=> ?_
 refine cG dP fun cR=> ?_
 refine ca 1 hR ?_
 refine ca 0 bT ?_
 refine aQ ?_
 refine bM ?_
 refine aD ?_
 refine aW (a0 nS) ?_
 refine b3 3 m6 nr ?_
 refine cc 1 hR ?_
 obtain⟨dK,fz,h⟩:=aG.cT h
 obtain⟨cK,hg,h⟩:=aG.cT h
 obtain⟨bk,dc,h⟩:=aG.cT h
 refine bp (DR (r:=bk) Tryz.underlying167 BB ER (pv (ae rfl) fz) (ae rfl) (h4 (n:=4) rfl (oI hg) rfl) (aI dc)) ?_
 refine bp (qN Tryz.underlying321 (ae rfl)) ?_
 refine aN ?_
 refine ai.xB (γ:=Unit) h (fun bO ax=> [(0,I.of (aa)),(1,I.of (aj)),(2,I.eq (.pointer (some ⟨aT,0,none⟩))),(3,I.eq (.pointer (some ⟨a7,0,none⟩))),(4,I.eq (.pointer (some ⟨bU,0,none⟩))),(5,I.eq (.pointer (some ⟨cR,0,none⟩))),(6,I.of (ak.2.2)),(19,I.of (bk.isNone))]) (fun bO ax=>(⟨some cR,.var (ak.2.1:ao)⟩ :: ⟨some bU,.var (ak.1:Vector ao 4)⟩ :: ⟨some a7,.var (aj:aM)⟩ :: ⟨some aT,.var (aa:ef)⟩ :: bd bO)) (ae rfl) (fun bO ax h=> ?_) (fun hm ar h=> ?_) (fun hm ar h=> ?_)
 ·refine ag.next ?_
  obtain⟨dL,ik,h⟩:=aG.cT h
  obtain⟨c8,ho,h⟩:=aG.cT h
  refine ai.draw mixed 8 [some 26,some 27,some 28,some 29,some 30,some 31,some 32,some 33] [[],[0],[],[1,2],[],[],[],[6]] [.val _,.val _,.val _,.val _,.val _,.val _,.val _,.val _] [false,false,false,false,false,false,false,false] (by kernel_rfl) rfl rfl rfl (fun dx=>⟨H1 (a0 nS),ee 3 m6 nr,fA 1 hR,dT fun ay au=>DR (r:=c8) Tryz.underlying167 BB ER (pv (ae rfl) fz) (ae rfl) (nw (fun i e q=>au i e q rfl) (h4 (n:=4) rfl (oI ik) rfl)) (aI ho),fA 0 bT,cW,H1 (a0 kW),ee 2 jL bG,trivial⟩) fun dx=> ?_
  refine ah.mH 4 0 rfl S1 (Ok h) rfl rfl ⟨ae rfl,ae rfl,ae rfl,ae rfl,trivial⟩ rfl fun⟨⟨aP,h⟩,aE⟩=> ?_
  refine ah.fg (L2:=(⟨some cR,.var (ak.2.1:ao)⟩ :: ⟨some bU,.var (ak.1:Vector ao 4)⟩ :: ⟨some a7,.var (aj:aM)⟩ :: ⟨some aT,.var (aa:ef)⟩ :: bd aP.2)) rfl ?_
  refine ah.nil ?_
  refine ag.vg ?_
  exact ag.pN (⟨⟨aP.2,h⟩,()⟩: {r // _} × _) (.cons _ (.cons _ (.cons _ (.cons _ (.refl _))))) rfl rfl
 ·obtain⟨vB,vk,Uv⟩:=aG.ex h
  refine ai.K6 mixed 7 (Array.mk (false :: false :: false :: false :: false :: false :: false :: [])) rfl rfl ?_
  refine bs.cut (γ:=Subtype vB) 1 (Array.mk (true :: true :: true :: true :: true :: true :: false :: [])) (fun xJ=> [(0,I.of (aa)),(1,I.of (aj)),(2,I.eq (.pointer (some ⟨aT,0,none⟩))),(3,I.eq (.pointer (some ⟨a7,0,none⟩))),(4,I.eq (.pointer (some ⟨bU,0,none⟩))),(5,I.eq (.pointer (some ⟨cR,0,none⟩))),(6,I.of (ak.2.2)),(7,I.cF [I.of (ak.1),I.of (ak.2.1),I.of (ak.2.2)]),(8,I.of (aa)),(9,I.eq (.pointer (some ⟨a7,0 + 0,none⟩))),(10,I.of (aj.b5)),(11,I.cF [I.of (ak.1),I.of (ak.2.1),I.of (ak.2.2)]),(12,I.of (ak.1)),(13,I.of (ak.2.1)),(14,I.of (ak.2.2)),(15,I.eq (.pointer (some ⟨aT,0 + 2,none⟩))),(16,I.of (aa.fv)),(17,I.of (ak.1)),(18,I.of (bk)),(19,I.of (bk.isNone)),(20,I.eq (.pointer (some ⟨aT,0 + 2,none⟩))),(21,I.of (aa.fv)),(22,I.of (ak.1)),(23,I.eq (.pointer (some ⟨aT,0 + 1,none⟩))),(24,I.of (aa.eN)),(25,I.of (xJ.1.1))]) (fun xJ=>(⟨some cR,.var (ak.2.1:ao)⟩ :: ⟨some bU,.var (ak.1:Vector ao 4)⟩ :: ⟨some a7,.var (aj:aM)⟩ :: ⟨some aT,.var (aa:ef)⟩ :: bd xJ.1.2)) (fun xJ=> ?_) (fun ES=> ?_)
  ·obtain⟨bc,mM⟩:=xJ
   have h:=Uv bc mM
   refine bs.tail 6 rfl (by kernel_rfl) ?_
   refine ah.fg (L2:=(⟨some cR,.var (ak.2.1:ao)⟩ :: ⟨some bU,.var (ak.1:Vector ao 4)⟩ :: ⟨some a7,.var (aj:aM)⟩ :: ⟨some aT,.var (aa:ef)⟩ :: bd bc.2)) rfl ?_
   refine ah.le (E':= [(0,I.of (aa)),(1,I.of (aj)),(2,I.eq (.pointer (some ⟨aT,0,none⟩))),(3,I.eq (.pointer (some ⟨a7,0,none⟩))),(4,I.eq (.pointer (some ⟨bU,0,none⟩))),(5,I.eq (.pointer (some ⟨cR,0,none⟩))),(6,I.of (ak.2.2)),(7,I.cF [I.of (ak.1),I.of (ak.2.1),I.of (ak.2.2)]),(8,I.of (aa)),(9,I.eq (.pointer (some ⟨a7,0 + 0,none⟩))),(10,I.of (aj.b5)),(11,I.cF [I.of (ak.1),I.of (ak.2.1),I.of (ak.2.2)]),(12,I.of (ak.1)),(13,I.of (ak.2.1)),(14,I.of (ak.2.2)),(15,I.eq (.pointer (some ⟨aT,0 + 2,none⟩))),(16,I.of (aa.fv)),(17,I.of (ak.1)),(18,I.of (bk)),(19,I.of (bk.isNone)),(20,I.eq (.pointer (some ⟨aT,0 + 2,none⟩))),(21,I.of (aa.fv)),(22,I.of (ak.1)),(23,I.eq (.pointer (some ⟨aT,0 + 1,none⟩))),(24,I.of (aa.eN)),(25,I.of (bc.1))]) (.same rfl (.same rfl (.same rfl (.same rfl (.same rfl (.same rfl (.same rfl (.same rfl (.same rfl (.same rfl (.same rfl (.same rfl (.same rfl (.same rfl (.same rfl (.same rfl (.same rfl (.same rfl (.same rfl (.same rfl (.same rfl (.same rfl (.same rfl (.same rfl (.same rfl (.same rfl .nil)))))))))))))))))))))))))) ?_
   obtain⟨fV,mU,h⟩:=aG.cT h
   obtain⟨dy,n6,h⟩:=aG.cT h
   refine ah.EB (k':=Cell.mc (fS fV ak.1 bc.1)) 4 rfl (by first | exact .inl rfl | exact .inr rfl) Tryz.underlying167 BB (pv (ae rfl) fz) (ae rfl) (ae rfl) (oI mU) rfl rfl rfl (aI n6) ?_
   refine ah.nil ?_
   exact dI 0 (hm dy () h)
  refine bs.cut (γ:=Subtype vB) 2 (Array.mk (true :: false :: true :: true :: true :: true :: false :: [])) (fun xK=> [(0,I.of (aa)),(1,I.of (aj)),(2,I.eq (.pointer (some ⟨aT,0,none⟩))),(3,I.eq (.pointer (some ⟨a7,0,none⟩))),(4,I.eq (.pointer (some ⟨bU,0,none⟩))),(5,I.eq (.pointer (some ⟨cR,0,none⟩))),(6,I.of (ak.2.2)),(7,I.cF [I.of (ak.1),I.of (ak.2.1),I.of (ak.2.2)]),(8,I.of (aa)),(9,I.eq (.pointer (some ⟨a7,0 + 0,none⟩))),(10,I.of (aj.b5)),(11,I.cF [I.of (ak.1),I.of (ak.2.1),I.of (ak.2.2)]),(12,I.of (ak.1)),(13,I.of (ak.2.1)),(14,I.of (ak.2.2)),(15,I.eq (.pointer (some ⟨aT,0 + 2,none⟩))),(16,I.of (aa.fv)),(17,I.of (ak.1)),(18,I.of (bk)),(19,I.of (bk.isNone)),(20,I.eq (.pointer (some ⟨aT,0 + 2,none⟩))),(22,I.of (ak.1)),(23,I.eq (.pointer (some ⟨aT,0 + 1,none⟩))),(24,I.of (aa.eN)),(25,I.of (xK.1.1))]) (fun xK=>(⟨some cR,.var (ak.2.1:ao)⟩ :: ⟨some bU,.var (ak.1:Vector ao 4)⟩ :: ⟨some a7,.var (aj:aM)⟩ :: ⟨some aT,.var (aa:ef)⟩ :: bd xK.1.2)) (fun xK=> ?_) (fun ET=> ?_)
  ·refine bs.step [1] (by kernel_rfl) rfl ⟨⟨_,rfl,?_⟩,trivial⟩
   ·refine b3 3 m6 nr ?_
    refine ah.nil ?_
    exact ag.any rfl (bs.le (.same rfl (.same rfl (.same rfl (.same rfl (.same rfl (.same rfl (.same rfl (.same rfl (.same rfl (.same rfl (.same rfl (.same rfl (.same rfl (.same rfl (.same rfl (.same rfl (.same rfl (.same rfl (.same rfl (.same rfl (.same rfl (.same rfl (.same rfl (.same rfl (.same rfl (.same rfl .nil)))))))))))))))))))))))))) (ES xK))
  refine bs.cut (γ:=Subtype vB) 2 (Array.mk (true :: true :: false :: true :: true :: true :: false :: [])) (fun xL=> [(0,I.of (aa)),(1,I.of (aj)),(2,I.eq (.pointer (some ⟨aT,0,none⟩))),(3,I.eq (.pointer (some ⟨a7,0,none⟩))),(4,I.eq (.pointer (some ⟨bU,0,none⟩))),(5,I.eq (.pointer (some ⟨cR,0,none⟩))),(6,I.of (ak.2.2)),(7,I.cF [I.of (ak.1),I.of (ak.2.1),I.of (ak.2.2)]),(8,I.of (aa)),(9,I.eq (.pointer (some ⟨a7,0 + 0,none⟩))),(10,I.of (aj.b5)),(11,I.cF [I.of (ak.1),I.of (ak.2.1),I.of (ak.2.2)]),(12,I.of (ak.1)),(13,I.of (ak.2.1)),(14,I.of (ak.2.2)),(15,I.eq (.pointer (some ⟨aT,0 + 2,none⟩))),(16,I.of (aa.fv)),(17,I.of (ak.1)),(18,I.of (bk)),(19,I.of (bk.isNone)),(20,I.eq (.pointer (some ⟨aT,0 + 2,none⟩))),(21,I.of (aa.fv)),(23,I.eq (.pointer (some ⟨aT,0 + 1,none⟩))),(24,I.of (aa.eN)),(25,I.of (xL.1.1))]) (fun xL=>(⟨some cR,.var (ak.2.1:ao)⟩ :: ⟨some bU,.var (ak.1:Vector ao 4)⟩ :: ⟨some a7,.var (aj:aM)⟩ :: ⟨some aT,.var (aa:ef)⟩ :: bd xL.1.2)) (fun xL=> ?_) (fun K8=> ?_)
  ·refine bs.step [2] (by kernel_rfl) rfl ⟨⟨_,rfl,?_⟩,trivial⟩
   ·refine cc 1 hR ?_
    refine ah.nil ?_
    exact ag.any rfl (bs.le (.same rfl (.same rfl (.same rfl (.same rfl (.same rfl (.same rfl (.same rfl (.same rfl (.same rfl (.same rfl (.same rfl (.same rfl (.same rfl (.same rfl (.same rfl (.same rfl (.same rfl (.same rfl (.same rfl (.same rfl (.same rfl (.same rfl (.same rfl (.same rfl (.same rfl (.same rfl .nil)))))))))))))))))))))))))) (ES xL))
  refine bs.cut (γ:=Unit) 2 (Array.mk (true :: true :: true :: true :: true :: false :: false :: [])) (fun Kg=> [(0,I.of (aa)),(1,I.of (aj)),(2,I.eq (.pointer (some ⟨aT,0,none⟩))),(3,I.eq (.pointer (some ⟨a7,0,none⟩))),(4,I.eq (.pointer (some ⟨bU,0,none⟩))),(5,I.eq (.pointer (some ⟨cR,0,none⟩))),(6,I.of (ak.2.2)),(7,I.cF [I.of (ak.1),I.of (ak.2.1),I.of (ak.2.2)]),(8,I.of (aa)),(9,I.eq (.pointer (some ⟨a7,0 + 0,none⟩))),(10,I.of (aj.b5)),(11,I.cF [I.of (ak.1),I.of (ak.2.1),I.of (ak.2.2)]),(12,I.of (ak.1)),(13,I.of (ak.2.1)),(14,I.of (ak.2.2)),(15,I.eq (.pointer (some ⟨aT,0 + 2,none⟩))),(16,I.of (aa.fv)),(17,I.of (ak.1)),(18,I.of (bk)),(19,I.of (bk.isNone)),(20,I.eq (.pointer (some ⟨aT,0 + 2,none⟩))),(21,I.of (aa.fv)),(22,I.of (ak.1)),(23,I.eq (.pointer (some ⟨aT,0 + 1,none⟩))),(24,I.of (aa.eN))]) (fun Kg=>(⟨some cR,.var (ak.2.1:ao)⟩ :: ⟨some bU,.var (ak.1:Vector ao 4)⟩ :: ⟨some a7,.var (aj:aM)⟩ :: ⟨some aT,.var (aa:ef)⟩ :: bd hp)) (fun Kg=> ?_) (fun EU=> ?_)
  ·refine bs.step [5] (by kernel_rfl) rfl ⟨⟨_,rfl,?_⟩,trivial⟩
   ·refine ah.mH 4 0 rfl u7 (ur vk) rfl rfl ⟨ae rfl,trivial⟩ rfl fun⟨⟨bc,mM⟩,_⟩=> ?_
    refine ah.fg (L2:=(⟨some cR,.var (ak.2.1:ao)⟩ :: ⟨some bU,.var (ak.1:Vector ao 4)⟩ :: ⟨some a7,.var (aj:aM)⟩ :: ⟨some aT,.var (aa:ef)⟩ :: bd bc.2)) rfl ?_
    refine ah.nil ?_
    exact ag.any rfl (bs.le (.same rfl (.same rfl (.same rfl (.same rfl (.same rfl (.same rfl (.same rfl (.same rfl (.same rfl (.same rfl (.same rfl (.same rfl (.same rfl (.same rfl (.same rfl (.same rfl (.same rfl (.same rfl (.same rfl (.same rfl (.same rfl (.same rfl (.same rfl (.same rfl (.same rfl (.same rfl .nil)))))))))))))))))))))))))) (ES ⟨bc,mM⟩))
  refine bs.cut (γ:=Subtype vB) 3 (Array.mk (false :: false :: true :: true :: true :: true :: false :: [])) (fun q2=> [(0,I.of (aa)),(1,I.of (aj)),(2,I.eq (.pointer (some ⟨aT,0,none⟩))),(3,I.eq (.pointer (some ⟨a7,0,none⟩))),(4,I.eq (.pointer (some ⟨bU,0,none⟩))),(5,I.eq (.pointer (some ⟨cR,0,none⟩))),(6,I.of (ak.2.2)),(7,I.cF [I.of (ak.1),I.of (ak.2.1),I.of (ak.2.2)]),(8,I.of (aa)),(9,I.eq (.pointer (some ⟨a7,0 + 0,none⟩))),(10,I.of (aj.b5)),(11,I.cF [I.of (ak.1),I.of (ak.2.1),I.of (ak.2.2)]),(12,I.of (ak.1)),(13,I.of (ak.2.1)),(14,I.of (ak.2.2)),(15,I.eq (.pointer (some ⟨aT,0 + 2,none⟩))),(16,I.of (aa.fv)),(17,I.of (ak.1)),(18,I.of (bk)),(19,I.of (bk.isNone)),(22,I.of (ak.1)),(23,I.eq (.pointer (some ⟨aT,0 + 1,none⟩))),(24,I.of (aa.eN)),(25,I.of (q2.1.1))]) (fun q2=>(⟨some cR,.var (ak.2.1:ao)⟩ :: ⟨some bU,.var (ak.1:Vector ao 4)⟩ :: ⟨some a7,.var (aj:aM)⟩ :: ⟨some aT,.var (aa:ef)⟩ :: bd q2.1.2)) (fun q2=> ?_) (fun u3=> ?_)
  ·refine bs.step [0] (by kernel_rfl) rfl ⟨⟨_,rfl,?_⟩,trivial⟩
   ·refine aW (a0 nS) ?_
    refine ah.nil ?_
    exact ag.any rfl (bs.le (.same rfl (.same rfl (.same rfl (.same rfl (.same rfl (.same rfl (.same rfl (.same rfl (.same rfl (.same rfl (.same rfl (.same rfl (.same rfl (.same rfl (.same rfl (.same rfl (.same rfl (.same rfl (.same rfl (.same rfl (.same rfl (.same rfl (.same rfl (.same rfl (.same rfl .nil))))))))))))))))))))))))) (ET q2))
  refine bs.cut (γ:=Subtype vB) 3 (Array.mk (true :: false :: false :: true :: true :: true :: false :: [])) (fun pG=> [(0,I.of (aa)),(1,I.of (aj)),(2,I.eq (.pointer (some ⟨aT,0,none⟩))),(3,I.eq (.pointer (some ⟨a7,0,none⟩))),(4,I.eq (.pointer (some ⟨bU,0,none⟩))),(5,I.eq (.pointer (some ⟨cR,0,none⟩))),(6,I.of (ak.2.2)),(7,I.cF [I.of (ak.1),I.of (ak.2.1),I.of (ak.2.2)]),(8,I.of (aa)),(9,I.eq (.pointer (some ⟨a7,0 + 0,none⟩))),(10,I.of (aj.b5)),(11,I.cF [I.of (ak.1),I.of (ak.2.1),I.of (ak.2.2)]),(12,I.of (ak.1)),(13,I.of (ak.2.1)),(14,I.of (ak.2.2)),(15,I.eq (.pointer (some ⟨aT,0 + 2,none⟩))),(16,I.of (aa.fv)),(17,I.of (ak.1)),(18,I.of (bk)),(19,I.of (bk.isNone)),(20,I.eq (.pointer (some ⟨aT,0 + 2,none⟩))),(23,I.eq (.pointer (some ⟨aT,0 + 1,none⟩))),(24,I.of (aa.eN)),(25,I.of (pG.1.1))]) (fun pG=>(⟨some cR,.var (ak.2.1:ao)⟩ :: ⟨some bU,.var (ak.1:Vector ao 4)⟩ :: ⟨some a7,.var (aj:aM)⟩ :: ⟨some aT,.var (aa:ef)⟩ :: bd pG.1.2)) (fun pG=> ?_) (fun x0=> ?_)
  ·refine bs.step [1,2] (by kernel_rfl) rfl ⟨⟨_,rfl,?_⟩,⟨_,rfl,?_⟩,trivial⟩
   ·refine b3 3 m6 nr ?_
    refine ah.nil ?_
    exact ag.any rfl (bs.le (.same rfl (.same rfl (.same rfl (.same rfl (.same rfl (.same rfl (.same rfl (.same rfl (.same rfl (.same rfl (.same rfl (.same rfl (.same rfl (.same rfl (.same rfl (.same rfl (.same rfl (.same rfl (.same rfl (.same rfl (.same rfl (.same rfl (.same rfl (.same rfl (.same rfl .nil))))))))))))))))))))))))) (K8 pG))
   ·refine cc 1 hR ?_
    refine ah.nil ?_
    exact ag.any rfl (bs.le (.same rfl (.same rfl (.same rfl (.same rfl (.same rfl (.same rfl (.same rfl (.same rfl (.same rfl (.same rfl (.same rfl (.same rfl (.same rfl (.same rfl (.same rfl (.same rfl (.same rfl (.same rfl (.same rfl (.same rfl (.same rfl (.same rfl (.same rfl (.same rfl (.same rfl .nil))))))))))))))))))))))))) (ET pG))
  refine bs.cut (γ:=Unit) 3 (Array.mk (true :: false :: true :: true :: true :: false :: false :: [])) (fun xC=> [(0,I.of (aa)),(1,I.of (aj)),(2,I.eq (.pointer (some ⟨aT,0,none⟩))),(3,I.eq (.pointer (some ⟨a7,0,none⟩))),(4,I.eq (.pointer (some ⟨bU,0,none⟩))),(5,I.eq (.pointer (some ⟨cR,0,none⟩))),(6,I.of (ak.2.2)),(7,I.cF [I.of (ak.1),I.of (ak.2.1),I.of (ak.2.2)]),(8,I.of (aa)),(9,I.eq (.pointer (some ⟨a7,0 + 0,none⟩))),(10,I.of (aj.b5)),(11,I.cF [I.of (ak.1),I.of (ak.2.1),I.of (ak.2.2)]),(12,I.of (ak.1)),(13,I.of (ak.2.1)),(14,I.of (ak.2.2)),(15,I.eq (.pointer (some ⟨aT,0 + 2,none⟩))),(16,I.of (aa.fv)),(17,I.of (ak.1)),(18,I.of (bk)),(19,I.of (bk.isNone)),(20,I.eq (.pointer (some ⟨aT,0 + 2,none⟩))),(22,I.of (ak.1)),(23,I.eq (.pointer (some ⟨aT,0 + 1,none⟩))),(24,I.of (aa.eN))]) (fun xC=>(⟨some cR,.var (ak.2.1:ao)⟩ :: ⟨some bU,.var (ak.1:Vector ao 4)⟩ :: ⟨some a7,.var (aj:aM)⟩ :: ⟨some aT,.var (aa:ef)⟩ :: bd hp)) (fun xC=> ?_) (fun u4=> ?_)
  ·refine bs.step [1,5] (by kernel_rfl) rfl ⟨⟨_,rfl,?_⟩,⟨_,rfl,?_⟩,trivial⟩
   ·refine b3 3 m6 nr ?_
    refine ah.nil ?_
    exact ag.any rfl (bs.le (.same rfl (.same rfl (.same rfl (.same rfl (.same rfl (.same rfl (.same rfl (.same rfl (.same rfl (.same rfl (.same rfl (.same rfl (.same rfl (.same rfl (.same rfl (.same rfl (.same rfl (.same rfl (.same rfl (.same rfl (.same rfl (.same rfl (.same rfl (.same rfl (.same rfl .nil))))))))))))))))))))))))) (EU ()))
   ·refine ah.mH 4 0 rfl u7 (ur vk) rfl rfl ⟨ae rfl,trivial⟩ rfl fun⟨⟨bc,mM⟩,_⟩=> ?_
    refine ah.fg (L2:=(⟨some cR,.var (ak.2.1:ao)⟩ :: ⟨some bU,.var (ak.1:Vector ao 4)⟩ :: ⟨some a7,.var (aj:aM)⟩ :: ⟨some aT,.var (aa:ef)⟩ :: bd bc.2)) rfl ?_
    refine ah.nil ?_
    exact ag.any rfl (bs.le (.same rfl (.same rfl (.same rfl (.same rfl (.same rfl (.same rfl (.same rfl (.same rfl (.same rfl (.same rfl (.same rfl (.same rfl (.same rfl (.same rfl (.same rfl (.same rfl (.same rfl (.same rfl (.same rfl (.same rfl (.same rfl (.same rfl (.same rfl (.same rfl (.same rfl .nil))))))))))))))))))))))))) (ET ⟨bc,mM⟩))
  refine bs.cut (γ:=Unit) 3 (Array.mk (true :: true :: false :: true :: true :: false :: false :: [])) (fun xD=> [(0,I.of (aa)),(1,I.of (aj)),(2,I.eq (.pointer (some ⟨aT,0,none⟩))),(3,I.eq (.pointer (some ⟨a7,0,none⟩))),(4,I.eq (.pointer (some ⟨bU,0,none⟩))),(5,I.eq (.pointer (some ⟨cR,0,none⟩))),(6,I.of (ak.2.2)),(7,I.cF [I.of (ak.1),I.of (ak.2.1),I.of (ak.2.2)]),(8,I.of (aa)),(9,I.eq (.pointer (some ⟨a7,0 + 0,none⟩))),(10,I.of (aj.b5)),(11,I.cF [I.of (ak.1),I.of (ak.2.1),I.of (ak.2.2)]),(12,I.of (ak.1)),(13,I.of (ak.2.1)),(14,I.of (ak.2.2)),(15,I.eq (.pointer (some ⟨aT,0 + 2,none⟩))),(16,I.of (aa.fv)),(17,I.of (ak.1)),(18,I.of (bk)),(19,I.of (bk.isNone)),(20,I.eq (.pointer (some ⟨aT,0 + 2,none⟩))),(21,I.of (aa.fv)),(23,I.eq (.pointer (some ⟨aT,0 + 1,none⟩))),(24,I.of (aa.eN))]) (fun xD=>(⟨some cR,.var (ak.2.1:ao)⟩ :: ⟨some bU,.var (ak.1:Vector ao 4)⟩ :: ⟨some a7,.var (aj:aM)⟩ :: ⟨some aT,.var (aa:ef)⟩ :: bd hp)) (fun xD=> ?_) (fun u5=> ?_)
  ·refine bs.step [2,5] (by kernel_rfl) rfl ⟨⟨_,rfl,?_⟩,⟨_,rfl,?_⟩,trivial⟩
   ·refine cc 1 hR ?_
    refine ah.nil ?_
    exact ag.any rfl (bs.le (.same rfl (.same rfl (.same rfl (.same rfl (.same rfl (.same rfl (.same rfl (.same rfl (.same rfl (.same rfl (.same rfl (.same rfl (.same rfl (.same rfl (.same rfl (.same rfl (.same rfl (.same rfl (.same rfl (.same rfl (.same rfl (.same rfl (.same rfl (.same rfl (.same rfl .nil))))))))))))))))))))))))) (EU ()))
   ·refine ah.mH 4 0 rfl u7 (ur vk) rfl rfl ⟨ae rfl,trivial⟩ rfl fun⟨⟨bc,mM⟩,_⟩=> ?_
    refine ah.fg (L2:=(⟨some cR,.var (ak.2.1:ao)⟩ :: ⟨some bU,.var (ak.1:Vector ao 4)⟩ :: ⟨some a7,.var (aj:aM)⟩ :: ⟨some aT,.var (aa:ef)⟩ :: bd bc.2)) rfl ?_
    refine ah.nil ?_
    exact ag.any rfl (bs.le (.same rfl (.same rfl (.same rfl (.same rfl (.same rfl (.same rfl (.same rfl (.same rfl (.same rfl (.same rfl (.same rfl (.same rfl (.same rfl (.same rfl (.same rfl (.same rfl (.same rfl (.same rfl (.same rfl (.same rfl (.same rfl (.same rfl (.same rfl (.same rfl (.same rfl .nil))))))))))))))))))))))))) (K8 ⟨bc,mM⟩))
  refine bs.cut (γ:=Unit) 3 (Array.mk (true :: true :: true :: true :: false :: false :: false :: [])) (fun xE=> [(0,I.of (aa)),(1,I.of (aj)),(2,I.eq (.pointer (some ⟨aT,0,none⟩))),(3,I.eq (.pointer (some ⟨a7,0,none⟩))),(4,I.eq (.pointer (some ⟨bU,0,none⟩))),(5,I.eq (.pointer (some ⟨cR,0,none⟩))),(6,I.of (ak.2.2)),(7,I.cF [I.of (ak.1),I.of (ak.2.1),I.of (ak.2.2)]),(8,I.of (aa)),(9,I.eq (.pointer (some ⟨a7,0 + 0,none⟩))),(10,I.of (aj.b5)),(11,I.cF [I.of (ak.1),I.of (ak.2.1),I.of (ak.2.2)]),(12,I.of (ak.1)),(13,I.of (ak.2.1)),(14,I.of (ak.2.2)),(15,I.eq (.pointer (some ⟨aT,0 + 2,none⟩))),(16,I.of (aa.fv)),(17,I.of (ak.1)),(18,I.of (bk)),(19,I.of (bk.isNone)),(20,I.eq (.pointer (some ⟨aT,0 + 2,none⟩))),(21,I.of (aa.fv)),(22,I.of (ak.1)),(23,I.eq (.pointer (some ⟨aT,0 + 1,none⟩)))]) (fun xE=>(⟨some cR,.var (ak.2.1:ao)⟩ :: ⟨some bU,.var (ak.1:Vector ao 4)⟩ :: ⟨some a7,.var (aj:aM)⟩ :: ⟨some aT,.var (aa:ef)⟩ :: bd hp)) (fun xE=> ?_) (fun x1=> ?_)
  ·refine bs.step [4] (by kernel_rfl) rfl ⟨⟨_,rfl,?_⟩,trivial⟩
   ·refine b3 3 rX bG ?_
    refine ah.nil ?_
    exact ag.any rfl (bs.le (.same rfl (.same rfl (.same rfl (.same rfl (.same rfl (.same rfl (.same rfl (.same rfl (.same rfl (.same rfl (.same rfl (.same rfl (.same rfl (.same rfl (.same rfl (.same rfl (.same rfl (.same rfl (.same rfl (.same rfl (.same rfl (.same rfl (.same rfl (.same rfl (.same rfl .nil))))))))))))))))))))))))) (EU ()))
  refine bs.cut (γ:=Subtype vB) 4 (Array.mk (false :: false :: false :: true :: true :: true :: false :: [])) (fun pH=> [(0,I.of (aa)),(1,I.of (aj)),(2,I.eq (.pointer (some ⟨aT,0,none⟩))),(3,I.eq (.pointer (some ⟨a7,0,none⟩))),(4,I.eq (.pointer (some ⟨bU,0,none⟩))),(5,I.eq (.pointer (some ⟨cR,0,none⟩))),(6,I.of (ak.2.2)),(7,I.cF [I.of (ak.1),I.of (ak.2.1),I.of (ak.2.2)]),(8,I.of (aa)),(9,I.eq (.pointer (some ⟨a7,0 + 0,none⟩))),(10,I.of (aj.b5)),(11,I.cF [I.of (ak.1),I.of (ak.2.1),I.of (ak.2.2)]),(12,I.of (ak.1)),(13,I.of (ak.2.1)),(14,I.of (ak.2.2)),(15,I.eq (.pointer (some ⟨aT,0 + 2,none⟩))),(16,I.of (aa.fv)),(17,I.of (ak.1)),(18,I.of (bk)),(19,I.of (bk.isNone)),(23,I.eq (.pointer (some ⟨aT,0 + 1,none⟩))),(24,I.of (aa.eN)),(25,I.of (pH.1.1))]) (fun pH=>(⟨some cR,.var (ak.2.1:ao)⟩ :: ⟨some bU,.var (ak.1:Vector ao 4)⟩ :: ⟨some a7,.var (aj:aM)⟩ :: ⟨some aT,.var (aa:ef)⟩ :: bd pH.1.2)) (fun pH=> ?_) (fun BA=> ?_)
  ·refine bs.step [0,2] (by kernel_rfl) rfl ⟨⟨_,rfl,?_⟩,⟨_,rfl,?_⟩,trivial⟩
   ·refine aW (a0 nS) ?_
    refine ah.nil ?_
    exact ag.any rfl (bs.le (.same rfl (.same rfl (.same rfl (.same rfl (.same rfl (.same rfl (.same rfl (.same rfl (.same rfl (.same rfl (.same rfl (.same rfl (.same rfl (.same rfl (.same rfl (.same rfl (.same rfl (.same rfl (.same rfl (.same rfl (.same rfl (.same rfl (.same rfl (.same rfl .nil)))))))))))))))))))))))) (x0 pH))
   ·refine cc 1 hR ?_
    refine ah.nil ?_
    exact ag.any rfl (bs.le (.same rfl (.same rfl (.same rfl (.same rfl (.same rfl (.same rfl (.same rfl (.same rfl (.same rfl (.same rfl (.same rfl (.same rfl (.same rfl (.same rfl (.same rfl (.same rfl (.same rfl (.same rfl (.same rfl (.same rfl (.same rfl (.same rfl (.same rfl (.same rfl .nil)))))))))))))))))))))))) (u3 pH))
  refine bs.cut (γ:=Unit) 4 (Array.mk (false :: false :: true :: true :: true :: false :: false :: [])) (fun xF=> [(0,I.of (aa)),(1,I.of (aj)),(2,I.eq (.pointer (some ⟨aT,0,none⟩))),(3,I.eq (.pointer (some ⟨a7,0,none⟩))),(4,I.eq (.pointer (some ⟨bU,0,none⟩))),(5,I.eq (.pointer (some ⟨cR,0,none⟩))),(6,I.of (ak.2.2)),(7,I.cF [I.of (ak.1),I.of (ak.2.1),I.of (ak.2.2)]),(8,I.of (aa)),(9,I.eq (.pointer (some ⟨a7,0 + 0,none⟩))),(10,I.of (aj.b5)),(11,I.cF [I.of (ak.1),I.of (ak.2.1),I.of (ak.2.2)]),(12,I.of (ak.1)),(13,I.of (ak.2.1)),(14,I.of (ak.2.2)),(15,I.eq (.pointer (some ⟨aT,0 + 2,none⟩))),(16,I.of (aa.fv)),(17,I.of (ak.1)),(18,I.of (bk)),(19,I.of (bk.isNone)),(22,I.of (ak.1)),(23,I.eq (.pointer (some ⟨aT,0 + 1,none⟩))),(24,I.of (aa.eN))]) (fun xF=>(⟨some cR,.var (ak.2.1:ao)⟩ :: ⟨some bU,.var (ak.1:Vector ao 4)⟩ :: ⟨some a7,.var (aj:aM)⟩ :: ⟨some aT,.var (aa:ef)⟩ :: bd hp)) (fun xF=> ?_) (fun x2=> ?_)
  ·refine bs.step [0,5] (by kernel_rfl) rfl ⟨⟨_,rfl,?_⟩,⟨_,rfl,?_⟩,trivial⟩
   ·refine aW (a0 nS) ?_
    refine ah.nil ?_
    exact ag.any rfl (bs.le (.same rfl (.same rfl (.same rfl (.same rfl (.same rfl (.same rfl (.same rfl (.same rfl (.same rfl (.same rfl (.same rfl (.same rfl (.same rfl (.same rfl (.same rfl (.same rfl (.same rfl (.same rfl (.same rfl (.same rfl (.same rfl (.same rfl (.same rfl (.same rfl .nil)))))))))))))))))))))))) (u4 ()))
   ·refine ah.mH 4 0 rfl u7 (ur vk) rfl rfl ⟨ae rfl,trivial⟩ rfl fun⟨⟨bc,mM⟩,_⟩=> ?_
    refine ah.fg (L2:=(⟨some cR,.var (ak.2.1:ao)⟩ :: ⟨some bU,.var (ak.1:Vector ao 4)⟩ :: ⟨some a7,.var (aj:aM)⟩ :: ⟨some aT,.var (aa:ef)⟩ :: bd bc.2)) rfl ?_
    refine ah.nil ?_
    exact ag.any rfl (bs.le (.same rfl (.same rfl (.same rfl (.same rfl (.same rfl (.same rfl (.same rfl (.same rfl (.same rfl (.same rfl (.same rfl (.same rfl (.same rfl (.same rfl (.same rfl (.same rfl (.same rfl (.same rfl (.same rfl (.same rfl (.same rfl (.same rfl (.same rfl (.same rfl .nil)))))))))))))))))))))))) (u3 ⟨bc,mM⟩))
  refine bs.cut (γ:=Unit) 4 (Array.mk (true :: false :: false :: true :: true :: false :: false :: [])) (fun xG=> [(0,I.of (aa)),(1,I.of (aj)),(2,I.eq (.pointer (some ⟨aT,0,none⟩))),(3,I.eq (.pointer (some ⟨a7,0,none⟩))),(4,I.eq (.pointer (some ⟨bU,0,none⟩))),(5,I.eq (.pointer (some ⟨cR,0,none⟩))),(6,I.of (ak.2.2)),(7,I.cF [I.of (ak.1),I.of (ak.2.1),I.of (ak.2.2)]),(8,I.of (aa)),(9,I.eq (.pointer (some ⟨a7,0 + 0,none⟩))),(10,I.of (aj.b5)),(11,I.cF [I.of (ak.1),I.of (ak.2.1),I.of (ak.2.2)]),(12,I.of (ak.1)),(13,I.of (ak.2.1)),(14,I.of (ak.2.2)),(15,I.eq (.pointer (some ⟨aT,0 + 2,none⟩))),(16,I.of (aa.fv)),(17,I.of (ak.1)),(18,I.of (bk)),(19,I.of (bk.isNone)),(20,I.eq (.pointer (some ⟨aT,0 + 2,none⟩))),(23,I.eq (.pointer (some ⟨aT,0 + 1,none⟩))),(24,I.of (aa.eN))]) (fun xG=>(⟨some cR,.var (ak.2.1:ao)⟩ :: ⟨some bU,.var (ak.1:Vector ao 4)⟩ :: ⟨some a7,.var (aj:aM)⟩ :: ⟨some aT,.var (aa:ef)⟩ :: bd hp)) (fun xG=> ?_) (fun u6=> ?_)
  ·refine bs.step [1,2,5] (by kernel_rfl) rfl ⟨⟨_,rfl,?_⟩,⟨_,rfl,?_⟩,⟨_,rfl,?_⟩,trivial⟩
   ·refine b3 3 m6 nr ?_
    refine ah.nil ?_
    exact ag.any rfl (bs.le (.same rfl (.same rfl (.same rfl (.same rfl (.same rfl (.same rfl (.same rfl (.same rfl (.same rfl (.same rfl (.same rfl (.same rfl (.same rfl (.same rfl (.same rfl (.same rfl (.same rfl (.same rfl (.same rfl (.same rfl (.same rfl (.same rfl (.same rfl (.same rfl .nil)))))))))))))))))))))))) (u5 ()))
   ·refine cc 1 hR ?_
    refine ah.nil ?_
    exact ag.any rfl (bs.le (.same rfl (.same rfl (.same rfl (.same rfl (.same rfl (.same rfl (.same rfl (.same rfl (.same rfl (.same rfl (.same rfl (.same rfl (.same rfl (.same rfl (.same rfl (.same rfl (.same rfl (.same rfl (.same rfl (.same rfl (.same rfl (.same rfl (.same rfl (.same rfl .nil)))))))))))))))))))))))) (u4 ()))
   ·refine ah.mH 4 0 rfl u7 (ur vk) rfl rfl ⟨ae rfl,trivial⟩ rfl fun⟨⟨bc,mM⟩,_⟩=> ?_
    refine ah.fg (L2:=(⟨some cR,.var (ak.2.1:ao)⟩ :: ⟨some bU,.var (ak.1:Vector ao 4)⟩ :: ⟨some a7,.var (aj:aM)⟩ :: ⟨some aT,.var (aa:ef)⟩ :: bd bc.2)) rfl ?_
    refine ah.nil ?_
    exact ag.any rfl (bs.le (.same rfl (.same rfl (.same rfl (.same rfl (.same rfl (.same rfl (.same rfl (.same rfl (.same rfl (.same rfl (.same rfl (.same rfl (.same rfl (.same rfl (.same rfl (.same rfl (.same rfl (.same rfl (.same rfl (.same rfl (.same rfl (.same rfl (.same rfl (.same rfl .nil)))))))))))))))))))))))) (x0 ⟨bc,mM⟩))
  refine bs.cut (γ:=Unit) 4 (Array.mk (true :: false :: true :: true :: false :: false :: false :: [])) (fun xH=> [(0,I.of (aa)),(1,I.of (aj)),(2,I.eq (.pointer (some ⟨aT,0,none⟩))),(3,I.eq (.pointer (some ⟨a7,0,none⟩))),(4,I.eq (.pointer (some ⟨bU,0,none⟩))),(5,I.eq (.pointer (some ⟨cR,0,none⟩))),(6,I.of (ak.2.2)),(7,I.cF [I.of (ak.1),I.of (ak.2.1),I.of (ak.2.2)]),(8,I.of (aa)),(9,I.eq (.pointer (some ⟨a7,0 + 0,none⟩))),(10,I.of (aj.b5)),(11,I.cF [I.of (ak.1),I.of (ak.2.1),I.of (ak.2.2)]),(12,I.of (ak.1)),(13,I.of (ak.2.1)),(14,I.of (ak.2.2)),(15,I.eq (.pointer (some ⟨aT,0 + 2,none⟩))),(16,I.of (aa.fv)),(17,I.of (ak.1)),(18,I.of (bk)),(19,I.of (bk.isNone)),(20,I.eq (.pointer (some ⟨aT,0 + 2,none⟩))),(22,I.of (ak.1)),(23,I.eq (.pointer (some ⟨aT,0 + 1,none⟩)))]) (fun xH=>(⟨some cR,.var (ak.2.1:ao)⟩ :: ⟨some bU,.var (ak.1:Vector ao 4)⟩ :: ⟨some a7,.var (aj:aM)⟩ :: ⟨some aT,.var (aa:ef)⟩ :: bd hp)) (fun xH=> ?_) (fun x3=> ?_)
  ·refine bs.step [1,4] (by kernel_rfl) rfl ⟨⟨_,rfl,?_⟩,⟨_,rfl,?_⟩,trivial⟩
   ·refine b3 3 m6 nr ?_
    refine ah.nil ?_
    exact ag.any rfl (bs.le (.same rfl (.same rfl (.same rfl (.same rfl (.same rfl (.same rfl (.same rfl (.same rfl (.same rfl (.same rfl (.same rfl (.same rfl (.same rfl (.same rfl (.same rfl (.same rfl (.same rfl (.same rfl (.same rfl (.same rfl (.same rfl (.same rfl (.same rfl (.same rfl .nil)))))))))))))))))))))))) (x1 ()))
   ·refine b3 3 rX bG ?_
    refine ah.nil ?_
    exact ag.any rfl (bs.le (.same rfl (.same rfl (.same rfl (.same rfl (.same rfl (.same rfl (.same rfl (.same rfl (.same rfl (.same rfl (.same rfl (.same rfl (.same rfl (.same rfl (.same rfl (.same rfl (.same rfl (.same rfl (.same rfl (.same rfl (.same rfl (.same rfl (.same rfl (.same rfl .nil)))))))))))))))))))))))) (u4 ()))
  refine bs.cut (γ:=Unit) 4 (Array.mk (true :: true :: false :: true :: false :: false :: false :: [])) (fun xI=> [(0,I.of (aa)),(1,I.of (aj)),(2,I.eq (.pointer (some ⟨aT,0,none⟩))),(3,I.eq (.pointer (some ⟨a7,0,none⟩))),(4,I.eq (.pointer (some ⟨bU,0,none⟩))),(5,I.eq (.pointer (some ⟨cR,0,none⟩))),(6,I.of (ak.2.2)),(7,I.cF [I.of (ak.1),I.of (ak.2.1),I.of (ak.2.2)]),(8,I.of (aa)),(9,I.eq (.pointer (some ⟨a7,0 + 0,none⟩))),(10,I.of (aj.b5)),(11,I.cF [I.of (ak.1),I.of (ak.2.1),I.of (ak.2.2)]),(12,I.of (ak.1)),(13,I.of (ak.2.1)),(14,I.of (ak.2.2)),(15,I.eq (.pointer (some ⟨aT,0 + 2,none⟩))),(16,I.of (aa.fv)),(17,I.of (ak.1)),(18,I.of (bk)),(19,I.of (bk.isNone)),(20,I.eq (.pointer (some ⟨aT,0 + 2,none⟩))),(21,I.of (aa.fv)),(23,I.eq (.pointer (some ⟨aT,0 + 1,none⟩)))]) (fun xI=>(⟨some cR,.var (ak.2.1:ao)⟩ :: ⟨some bU,.var (ak.1:Vector ao 4)⟩ :: ⟨some a7,.var (aj:aM)⟩ :: ⟨some aT,.var (aa:ef)⟩ :: bd hp)) (fun xI=> ?_) (fun x4=> ?_)
  ·refine bs.step [2,4] (by kernel_rfl) rfl ⟨⟨_,rfl,?_⟩,⟨_,rfl,?_⟩,trivial⟩
   ·refine cc 1 hR ?_
    refine ah.nil ?_
    exact ag.any rfl (bs.le (.same rfl (.same rfl (.same rfl (.same rfl (.same rfl (.same rfl (.same rfl (.same rfl (.same rfl (.same rfl (.same rfl (.same rfl (.same rfl (.same rfl (.same rfl (.same rfl (.same rfl (.same rfl (.same rfl (.same rfl (.same rfl (.same rfl (.same rfl (.same rfl .nil)))))))))))))))))))))))) (x1 ()))
   ·refine b3 3 rX bG ?_
    refine ah.nil ?_
    exact ag.any rfl (bs.le (.same rfl (.same rfl (.same rfl (.same rfl (.same rfl (.same rfl (.same rfl (.same rfl (.same rfl (.same rfl (.same rfl (.same rfl (.same rfl (.same rfl (.same rfl (.same rfl (.same rfl (.same rfl (.same rfl (.same rfl (.same rfl (.same rfl (.same rfl (.same rfl .nil)))))))))))))))))))))))) (u5 ()))
  refine bs.cut (γ:=Unit) 4 (Array.mk (true :: true :: true :: false :: false :: false :: false :: [])) (fun x5=> [(0,I.of (aa)),(1,I.of (aj)),(2,I.eq (.pointer (some ⟨aT,0,none⟩))),(3,I.eq (.pointer (some ⟨a7,0,none⟩))),(4,I.eq (.pointer (some ⟨bU,0,none⟩))),(5,I.eq (.pointer (some ⟨cR,0,none⟩))),(6,I.of (ak.2.2)),(7,I.cF [I.of (ak.1),I.of (ak.2.1),I.of (ak.2.2)]),(8,I.of (aa)),(9,I.eq (.pointer (some ⟨a7,0 + 0,none⟩))),(10,I.of (aj.b5)),(11,I.cF [I.of (ak.1),I.of (ak.2.1),I.of (ak.2.2)]),(12,I.of (ak.1)),(13,I.of (ak.2.1)),(14,I.of (ak.2.2)),(15,I.eq (.pointer (some ⟨aT,0 + 2,none⟩))),(16,I.of (aa.fv)),(17,I.of (ak.1)),(18,I.of (bk)),(19,I.of (bk.isNone)),(20,I.eq (.pointer (some ⟨aT,0 + 2,none⟩))),(21,I.of (aa.fv)),(22,I.of (ak.1))]) (fun x5=>(⟨some cR,.var (ak.2.1:ao)⟩ :: ⟨some bU,.var (ak.1:Vector ao 4)⟩ :: ⟨some a7,.var (aj:aM)⟩ :: ⟨some aT,.var (aa:ef)⟩ :: bd hp)) (fun x5=> ?_) (fun yB=> ?_)
  ·refine bs.step [3] (by kernel_rfl) rfl ⟨⟨_,rfl,?_⟩,trivial⟩
   ·refine aW (a0 uF) ?_
    refine ah.nil ?_
    exact ag.any rfl (bs.le (.same rfl (.same rfl (.same rfl (.same rfl (.same rfl (.same rfl (.same rfl (.same rfl (.same rfl (.same rfl (.same rfl (.same rfl (.same rfl (.same rfl (.same rfl (.same rfl (.same rfl (.same rfl (.same rfl (.same rfl (.same rfl (.same rfl (.same rfl (.same rfl .nil)))))))))))))))))))))))) (x1 ()))
  refine bs.cut (γ:=Unit) 5 (Array.mk (false :: false :: false :: true :: true :: false :: false :: [])) (fun x6=> [(0,I.of (aa)),(1,I.of (aj)),(2,I.eq (.pointer (some ⟨aT,0,none⟩))),(3,I.eq (.pointer (some ⟨a7,0,none⟩))),(4,I.eq (.pointer (some ⟨bU,0,none⟩))),(5,I.eq (.pointer (some ⟨cR,0,none⟩))),(6,I.of (ak.2.2)),(7,I.cF [I.of (ak.1),I.of (ak.2.1),I.of (ak.2.2)]),(8,I.of (aa)),(9,I.eq (.pointer (some ⟨a7,0 + 0,none⟩))),(10,I.of (aj.b5)),(11,I.cF [I.of (ak.1),I.of (ak.2.1),I.of (ak.2.2)]),(12,I.of (ak.1)),(13,I.of (ak.2.1)),(14,I.of (ak.2.2)),(15,I.eq (.pointer (some ⟨aT,0 + 2,none⟩))),(16,I.of (aa.fv)),(17,I.of (ak.1)),(18,I.of (bk)),(19,I.of (bk.isNone)),(23,I.eq (.pointer (some ⟨aT,0 + 1,none⟩))),(24,I.of (aa.eN))]) (fun x6=>(⟨some cR,.var (ak.2.1:ao)⟩ :: ⟨some bU,.var (ak.1:Vector ao 4)⟩ :: ⟨some a7,.var (aj:aM)⟩ :: ⟨some aT,.var (aa:ef)⟩ :: bd hp)) (fun x6=> ?_) (fun yC=> ?_)
  ·refine bs.step [0,2,5] (by kernel_rfl) rfl ⟨⟨_,rfl,?_⟩,⟨_,rfl,?_⟩,⟨_,rfl,?_⟩,trivial⟩
   ·refine aW (a0 nS) ?_
    refine ah.nil ?_
    exact ag.any rfl (bs.le (.same rfl (.same rfl (.same rfl (.same rfl (.same rfl (.same rfl (.same rfl (.same rfl (.same rfl (.same rfl (.same rfl (.same rfl (.same rfl (.same rfl (.same rfl (.same rfl (.same rfl (.same rfl (.same rfl (.same rfl (.same rfl (.same rfl (.same rfl .nil))))))))))))))))))))))) (u6 ()))
   ·refine cc 1 hR ?_
    refine ah.nil ?_
    exact ag.any rfl (bs.le (.same rfl (.same rfl (.same rfl (.same rfl (.same rfl (.same rfl (.same rfl (.same rfl (.same rfl (.same rfl (.same rfl (.same rfl (.same rfl (.same rfl (.same rfl (.same rfl (.same rfl (.same rfl (.same rfl (.same rfl (.same rfl (.same rfl (.same rfl .nil))))))))))))))))))))))) (x2 ()))
   ·refine ah.mH 4 0 rfl u7 (ur vk) rfl rfl ⟨ae rfl,trivial⟩ rfl fun⟨⟨bc,mM⟩,_⟩=> ?_
    refine ah.fg (L2:=(⟨some cR,.var (ak.2.1:ao)⟩ :: ⟨some bU,.var (ak.1:Vector ao 4)⟩ :: ⟨some a7,.var (aj:aM)⟩ :: ⟨some aT,.var (aa:ef)⟩ :: bd bc.2)) rfl ?_
    refine ah.nil ?_
    exact ag.any rfl (bs.le (.same rfl (.same rfl (.same rfl (.same rfl (.same rfl (.same rfl (.same rfl (.same rfl (.same rfl (.same rfl (.same rfl (.same rfl (.same rfl (.same rfl (.same rfl (.same rfl (.same rfl (.same rfl (.same rfl (.same rfl (.same rfl (.same rfl (.same rfl .nil))))))))))))))))))))))) (BA ⟨bc,mM⟩))
  refine bs.cut (γ:=Unit) 5 (Array.mk (false :: false :: true :: true :: false :: false :: false :: [])) (fun x7=> [(0,I.of (aa)),(1,I.of (aj)),(2,I.eq (.pointer (some ⟨aT,0,none⟩))),(3,I.eq (.pointer (some ⟨a7,0,none⟩))),(4,I.eq (.pointer (some ⟨bU,0,none⟩))),(5,I.eq (.pointer (some ⟨cR,0,none⟩))),(6,I.of (ak.2.2)),(7,I.cF [I.of (ak.1),I.of (ak.2.1),I.of (ak.2.2)]),(8,I.of (aa)),(9,I.eq (.pointer (some ⟨a7,0 + 0,none⟩))),(10,I.of (aj.b5)),(11,I.cF [I.of (ak.1),I.of (ak.2.1),I.of (ak.2.2)]),(12,I.of (ak.1)),(13,I.of (ak.2.1)),(14,I.of (ak.2.2)),(15,I.eq (.pointer (some ⟨aT,0 + 2,none⟩))),(16,I.of (aa.fv)),(17,I.of (ak.1)),(18,I.of (bk)),(19,I.of (bk.isNone)),(22,I.of (ak.1)),(23,I.eq (.pointer (some ⟨aT,0 + 1,none⟩)))]) (fun x7=>(⟨some cR,.var (ak.2.1:ao)⟩ :: ⟨some bU,.var (ak.1:Vector ao 4)⟩ :: ⟨some a7,.var (aj:aM)⟩ :: ⟨some aT,.var (aa:ef)⟩ :: bd hp)) (fun x7=> ?_) (fun yD=> ?_)
  ·refine bs.step [0,4] (by kernel_rfl) rfl ⟨⟨_,rfl,?_⟩,⟨_,rfl,?_⟩,trivial⟩
   ·refine aW (a0 nS) ?_
    refine ah.nil ?_
    exact ag.any rfl (bs.le (.same rfl (.same rfl (.same rfl (.same rfl (.same rfl (.same rfl (.same rfl (.same rfl (.same rfl (.same rfl (.same rfl (.same rfl (.same rfl (.same rfl (.same rfl (.same rfl (.same rfl (.same rfl (.same rfl (.same rfl (.same rfl (.same rfl (.same rfl .nil))))))))))))))))))))))) (x3 ()))
   ·refine b3 3 rX bG ?_
    refine ah.nil ?_
    exact ag.any rfl (bs.le (.same rfl (.same rfl (.same rfl (.same rfl (.same rfl (.same rfl (.same rfl (.same rfl (.same rfl (.same rfl (.same rfl (.same rfl (.same rfl (.same rfl (.same rfl (.same rfl (.same rfl (.same rfl (.same rfl (.same rfl (.same rfl (.same rfl (.same rfl .nil))))))))))))))))))))))) (x2 ()))
  refine bs.cut (γ:=Unit) 5 (Array.mk (true :: false :: false :: true :: false :: false :: false :: [])) (fun x8=> [(0,I.of (aa)),(1,I.of (aj)),(2,I.eq (.pointer (some ⟨aT,0,none⟩))),(3,I.eq (.pointer (some ⟨a7,0,none⟩))),(4,I.eq (.pointer (some ⟨bU,0,none⟩))),(5,I.eq (.pointer (some ⟨cR,0,none⟩))),(6,I.of (ak.2.2)),(7,I.cF [I.of (ak.1),I.of (ak.2.1),I.of (ak.2.2)]),(8,I.of (aa)),(9,I.eq (.pointer (some ⟨a7,0 + 0,none⟩))),(10,I.of (aj.b5)),(11,I.cF [I.of (ak.1),I.of (ak.2.1),I.of (ak.2.2)]),(12,I.of (ak.1)),(13,I.of (ak.2.1)),(14,I.of (ak.2.2)),(15,I.eq (.pointer (some ⟨aT,0 + 2,none⟩))),(16,I.of (aa.fv)),(17,I.of (ak.1)),(18,I.of (bk)),(19,I.of (bk.isNone)),(20,I.eq (.pointer (some ⟨aT,0 + 2,none⟩))),(23,I.eq (.pointer (some ⟨aT,0 + 1,none⟩)))]) (fun x8=>(⟨some cR,.var (ak.2.1:ao)⟩ :: ⟨some bU,.var (ak.1:Vector ao 4)⟩ :: ⟨some a7,.var (aj:aM)⟩ :: ⟨some aT,.var (aa:ef)⟩ :: bd hp)) (fun x8=> ?_) (fun BM=> ?_)
  ·refine bs.step [1,2,4] (by kernel_rfl) rfl ⟨⟨_,rfl,?_⟩,⟨_,rfl,?_⟩,⟨_,rfl,?_⟩,trivial⟩
   ·refine b3 3 m6 nr ?_
    refine ah.nil ?_
    exact ag.any rfl (bs.le (.same rfl (.same rfl (.same rfl (.same rfl (.same rfl (.same rfl (.same rfl (.same rfl (.same rfl (.same rfl (.same rfl (.same rfl (.same rfl (.same rfl (.same rfl (.same rfl (.same rfl (.same rfl (.same rfl (.same rfl (.same rfl (.same rfl (.same rfl .nil))))))))))))))))))))))) (x4 ()))
   ·refine cc 1 hR ?_
    refine ah.nil ?_
    exact ag.any rfl (bs.le (.same rfl (.same rfl (.same rfl (.same rfl (.same rfl (.same rfl (.same rfl (.same rfl (.same rfl (.same rfl (.same rfl (.same rfl (.same rfl (.same rfl (.same rfl (.same rfl (.same rfl (.same rfl (.same rfl (.same rfl (.same rfl (.same rfl (.same rfl .nil))))))))))))))))))))))) (x3 ()))
   ·refine b3 3 rX bG ?_
    refine ah.nil ?_
    exact ag.any rfl (bs.le (.same rfl (.same rfl (.same rfl (.same rfl (.same rfl (.same rfl (.same rfl (.same rfl (.same rfl (.same rfl (.same rfl (.same rfl (.same rfl (.same rfl (.same rfl (.same rfl (.same rfl (.same rfl (.same rfl (.same rfl (.same rfl (.same rfl (.same rfl .nil))))))))))))))))))))))) (u6 ()))
  refine bs.cut (γ:=Unit) 5 (Array.mk (true :: false :: true :: false :: false :: false :: false :: [])) (fun x9=> [(0,I.of (aa)),(1,I.of (aj)),(2,I.eq (.pointer (some ⟨aT,0,none⟩))),(3,I.eq (.pointer (some ⟨a7,0,none⟩))),(4,I.eq (.pointer (some ⟨bU,0,none⟩))),(5,I.eq (.pointer (some ⟨cR,0,none⟩))),(6,I.of (ak.2.2)),(7,I.cF [I.of (ak.1),I.of (ak.2.1),I.of (ak.2.2)]),(8,I.of (aa)),(9,I.eq (.pointer (some ⟨a7,0 + 0,none⟩))),(10,I.of (aj.b5)),(11,I.cF [I.of (ak.1),I.of (ak.2.1),I.of (ak.2.2)]),(12,I.of (ak.1)),(13,I.of (ak.2.1)),(14,I.of (ak.2.2)),(15,I.eq (.pointer (some ⟨aT,0 + 2,none⟩))),(16,I.of (aa.fv)),(17,I.of (ak.1)),(18,I.of (bk)),(19,I.of (bk.isNone)),(20,I.eq (.pointer (some ⟨aT,0 + 2,none⟩))),(22,I.of (ak.1))]) (fun x9=>(⟨some cR,.var (ak.2.1:ao)⟩ :: ⟨some bU,.var (ak.1:Vector ao 4)⟩ :: ⟨some a7,.var (aj:aM)⟩ :: ⟨some aT,.var (aa:ef)⟩ :: bd hp)) (fun x9=> ?_) (fun yE=> ?_)
  ·refine bs.step [1,3] (by kernel_rfl) rfl ⟨⟨_,rfl,?_⟩,⟨_,rfl,?_⟩,trivial⟩
   ·refine b3 3 m6 nr ?_
    refine ah.nil ?_
    exact ag.any rfl (bs.le (.same rfl (.same rfl (.same rfl (.same rfl (.same rfl (.same rfl (.same rfl (.same rfl (.same rfl (.same rfl (.same rfl (.same rfl (.same rfl (.same rfl (.same rfl (.same rfl (.same rfl (.same rfl (.same rfl (.same rfl (.same rfl (.same rfl (.same rfl .nil))))))))))))))))))))))) (yB ()))
   ·refine aW (a0 uF) ?_
    refine ah.nil ?_
    exact ag.any rfl (bs.le (.same rfl (.same rfl (.same rfl (.same rfl (.same rfl (.same rfl (.same rfl (.same rfl (.same rfl (.same rfl (.same rfl (.same rfl (.same rfl (.same rfl (.same rfl (.same rfl (.same rfl (.same rfl (.same rfl (.same rfl (.same rfl (.same rfl (.same rfl .nil))))))))))))))))))))))) (x3 ()))
  refine bs.cut (γ:=Unit) 5 (Array.mk (true :: true :: false :: false :: false :: false :: false :: [])) (fun ya=> [(0,I.of (aa)),(1,I.of (aj)),(2,I.eq (.pointer (some ⟨aT,0,none⟩))),(3,I.eq (.pointer (some ⟨a7,0,none⟩))),(4,I.eq (.pointer (some ⟨bU,0,none⟩))),(5,I.eq (.pointer (some ⟨cR,0,none⟩))),(6,I.of (ak.2.2)),(7,I.cF [I.of (ak.1),I.of (ak.2.1),I.of (ak.2.2)]),(8,I.of (aa)),(9,I.eq (.pointer (some ⟨a7,0 + 0,none⟩))),(10,I.of (aj.b5)),(11,I.cF [I.of (ak.1),I.of (ak.2.1),I.of (ak.2.2)]),(12,I.of (ak.1)),(13,I.of (ak.2.1)),(14,I.of (ak.2.2)),(15,I.eq (.pointer (some ⟨aT,0 + 2,none⟩))),(16,I.of (aa.fv)),(17,I.of (ak.1)),(18,I.of (bk)),(19,I.of (bk.isNone)),(20,I.eq (.pointer (some ⟨aT,0 + 2,none⟩))),(21,I.of (aa.fv))]) (fun ya=>(⟨some cR,.var (ak.2.1:ao)⟩ :: ⟨some bU,.var (ak.1:Vector ao 4)⟩ :: ⟨some a7,.var (aj:aM)⟩ :: ⟨some aT,.var (aa:ef)⟩ :: bd hp)) (fun ya=> ?_) (fun BN=> ?_)
  ·refine bs.step [2,3] (by kernel_rfl) rfl ⟨⟨_,rfl,?_⟩,⟨_,rfl,?_⟩,trivial⟩
   ·refine cc 1 hR ?_
    refine ah.nil ?_
    exact ag.any rfl (bs.le (.same rfl (.same rfl (.same rfl (.same rfl (.same rfl (.same rfl (.same rfl (.same rfl (.same rfl (.same rfl (.same rfl (.same rfl (.same rfl (.same rfl (.same rfl (.same rfl (.same rfl (.same rfl (.same rfl (.same rfl (.same rfl (.same rfl (.same rfl .nil))))))))))))))))))))))) (yB ()))
   ·refine aW (a0 uF) ?_
    refine ah.nil ?_
    exact ag.any rfl (bs.le (.same rfl (.same rfl (.same rfl (.same rfl (.same rfl (.same rfl (.same rfl (.same rfl (.same rfl (.same rfl (.same rfl (.same rfl (.same rfl (.same rfl (.same rfl (.same rfl (.same rfl (.same rfl (.same rfl (.same rfl (.same rfl (.same rfl (.same rfl .nil))))))))))))))))))))))) (x4 ()))
  refine bs.cut (γ:=Unit) 6 (Array.mk (false :: false :: false :: true :: false :: false :: false :: [])) (fun yb=> [(0,I.of (aa)),(1,I.of (aj)),(2,I.eq (.pointer (some ⟨aT,0,none⟩))),(3,I.eq (.pointer (some ⟨a7,0,none⟩))),(4,I.eq (.pointer (some ⟨bU,0,none⟩))),(5,I.eq (.pointer (some ⟨cR,0,none⟩))),(6,I.of (ak.2.2)),(7,I.cF [I.of (ak.1),I.of (ak.2.1),I.of (ak.2.2)]),(8,I.of (aa)),(9,I.eq (.pointer (some ⟨a7,0 + 0,none⟩))),(10,I.of (aj.b5)),(11,I.cF [I.of (ak.1),I.of (ak.2.1),I.of (ak.2.2)]),(12,I.of (ak.1)),(13,I.of (ak.2.1)),(14,I.of (ak.2.2)),(15,I.eq (.pointer (some ⟨aT,0 + 2,none⟩))),(16,I.of (aa.fv)),(17,I.of (ak.1)),(18,I.of (bk)),(19,I.of (bk.isNone)),(23,I.eq (.pointer (some ⟨aT,0 + 1,none⟩)))]) (fun yb=>(⟨some cR,.var (ak.2.1:ao)⟩ :: ⟨some bU,.var (ak.1:Vector ao 4)⟩ :: ⟨some a7,.var (aj:aM)⟩ :: ⟨some aT,.var (aa:ef)⟩ :: bd hp)) (fun yb=> ?_) (fun Fj=> ?_)
  ·refine bs.step [0,2,4] (by kernel_rfl) rfl ⟨⟨_,rfl,?_⟩,⟨_,rfl,?_⟩,⟨_,rfl,?_⟩,trivial⟩
   ·refine aW (a0 nS) ?_
    refine ah.nil ?_
    exact ag.any rfl (bs.le (.same rfl (.same rfl (.same rfl (.same rfl (.same rfl (.same rfl (.same rfl (.same rfl (.same rfl (.same rfl (.same rfl (.same rfl (.same rfl (.same rfl (.same rfl (.same rfl (.same rfl (.same rfl (.same rfl (.same rfl (.same rfl (.same rfl .nil)))))))))))))))))))))) (BM ()))
   ·refine cc 1 hR ?_
    refine ah.nil ?_
    exact ag.any rfl (bs.le (.same rfl (.same rfl (.same rfl (.same rfl (.same rfl (.same rfl (.same rfl (.same rfl (.same rfl (.same rfl (.same rfl (.same rfl (.same rfl (.same rfl (.same rfl (.same rfl (.same rfl (.same rfl (.same rfl (.same rfl (.same rfl (.same rfl .nil)))))))))))))))))))))) (yD ()))
   ·refine b3 3 rX bG ?_
    refine ah.nil ?_
    exact ag.any rfl (bs.le (.same rfl (.same rfl (.same rfl (.same rfl (.same rfl (.same rfl (.same rfl (.same rfl (.same rfl (.same rfl (.same rfl (.same rfl (.same rfl (.same rfl (.same rfl (.same rfl (.same rfl (.same rfl (.same rfl (.same rfl (.same rfl (.same rfl .nil)))))))))))))))))))))) (yC ()))
  refine bs.cut (γ:=Unit) 6 (Array.mk (false :: false :: true :: false :: false :: false :: false :: [])) (fun yc=> [(0,I.of (aa)),(1,I.of (aj)),(2,I.eq (.pointer (some ⟨aT,0,none⟩))),(3,I.eq (.pointer (some ⟨a7,0,none⟩))),(4,I.eq (.pointer (some ⟨bU,0,none⟩))),(5,I.eq (.pointer (some ⟨cR,0,none⟩))),(6,I.of (ak.2.2)),(7,I.cF [I.of (ak.1),I.of (ak.2.1),I.of (ak.2.2)]),(8,I.of (aa)),(9,I.eq (.pointer (some ⟨a7,0 + 0,none⟩))),(10,I.of (aj.b5)),(11,I.cF [I.of (ak.1),I.of (ak.2.1),I.of (ak.2.2)]),(12,I.of (ak.1)),(13,I.of (ak.2.1)),(14,I.of (ak.2.2)),(15,I.eq (.pointer (some ⟨aT,0 + 2,none⟩))),(16,I.of (aa.fv)),(17,I.of (ak.1)),(18,I.of (bk)),(19,I.of (bk.isNone)),(22,I.of (ak.1))]) (fun yc=>(⟨some cR,.var (ak.2.1:ao)⟩ :: ⟨some bU,.var (ak.1:Vector ao 4)⟩ :: ⟨some a7,.var (aj:aM)⟩ :: ⟨some aT,.var (aa:ef)⟩ :: bd hp)) (fun yc=> ?_) (fun Fk=> ?_)
  ·refine bs.step [0,3] (by kernel_rfl) rfl ⟨⟨_,rfl,?_⟩,⟨_,rfl,?_⟩,trivial⟩
   ·refine aW (a0 nS) ?_
    refine ah.nil ?_
    exact ag.any rfl (bs.le (.same rfl (.same rfl (.same rfl (.same rfl (.same rfl (.same rfl (.same rfl (.same rfl (.same rfl (.same rfl (.same rfl (.same rfl (.same rfl (.same rfl (.same rfl (.same rfl (.same rfl (.same rfl (.same rfl (.same rfl (.same rfl (.same rfl .nil)))))))))))))))))))))) (yE ()))
   ·refine aW (a0 uF) ?_
    refine ah.nil ?_
    exact ag.any rfl (bs.le (.same rfl (.same rfl (.same rfl (.same rfl (.same rfl (.same rfl (.same rfl (.same rfl (.same rfl (.same rfl (.same rfl (.same rfl (.same rfl (.same rfl (.same rfl (.same rfl (.same rfl (.same rfl (.same rfl (.same rfl (.same rfl (.same rfl .nil)))))))))))))))))))))) (yD ()))
  refine bs.cut (γ:=Unit) 6 (Array.mk (true :: false :: false :: false :: false :: false :: false :: [])) (fun yd=> [(0,I.of (aa)),(1,I.of (aj)),(2,I.eq (.pointer (some ⟨aT,0,none⟩))),(3,I.eq (.pointer (some ⟨a7,0,none⟩))),(4,I.eq (.pointer (some ⟨bU,0,none⟩))),(5,I.eq (.pointer (some ⟨cR,0,none⟩))),(6,I.of (ak.2.2)),(7,I.cF [I.of (ak.1),I.of (ak.2.1),I.of (ak.2.2)]),(8,I.of (aa)),(9,I.eq (.pointer (some ⟨a7,0 + 0,none⟩))),(10,I.of (aj.b5)),(11,I.cF [I.of (ak.1),I.of (ak.2.1),I.of (ak.2.2)]),(12,I.of (ak.1)),(13,I.of (ak.2.1)),(14,I.of (ak.2.2)),(15,I.eq (.pointer (some ⟨aT,0 + 2,none⟩))),(16,I.of (aa.fv)),(17,I.of (ak.1)),(18,I.of (bk)),(19,I.of (bk.isNone)),(20,I.eq (.pointer (some ⟨aT,0 + 2,none⟩)))]) (fun yd=>(⟨some cR,.var (ak.2.1:ao)⟩ :: ⟨some bU,.var (ak.1:Vector ao 4)⟩ :: ⟨some a7,.var (aj:aM)⟩ :: ⟨some aT,.var (aa:ef)⟩ :: bd hp)) (fun yd=> ?_) (fun Fl=> ?_)
  ·refine bs.step [1,2,3] (by kernel_rfl) rfl ⟨⟨_,rfl,?_⟩,⟨_,rfl,?_⟩,⟨_,rfl,?_⟩,trivial⟩
   ·refine b3 3 m6 nr ?_
    refine ah.nil ?_
    exact ag.any rfl (bs.le (.same rfl (.same rfl (.same rfl (.same rfl (.same rfl (.same rfl (.same rfl (.same rfl (.same rfl (.same rfl (.same rfl (.same rfl (.same rfl (.same rfl (.same rfl (.same rfl (.same rfl (.same rfl (.same rfl (.same rfl (.same rfl (.same rfl .nil)))))))))))))))))))))) (BN ()))
   ·refine cc 1 hR ?_
    refine ah.nil ?_
    exact ag.any rfl (bs.le (.same rfl (.same rfl (.same rfl (.same rfl (.same rfl (.same rfl (.same rfl (.same rfl (.same rfl (.same rfl (.same rfl (.same rfl (.same rfl (.same rfl (.same rfl (.same rfl (.same rfl (.same rfl (.same rfl (.same rfl (.same rfl (.same rfl .nil)))))))))))))))))))))) (yE ()))
   ·refine aW (a0 uF) ?_
    refine ah.nil ?_
    exact ag.any rfl (bs.le (.same rfl (.same rfl (.same rfl (.same rfl (.same rfl (.same rfl (.same rfl (.same rfl (.same rfl (.same rfl (.same rfl (.same rfl (.same rfl (.same rfl (.same rfl (.same rfl (.same rfl (.same rfl (.same rfl (.same rfl (.same rfl (.same rfl .nil)))))))))))))))))))))) (BM ()))
  refine bs.step [0,2,3] (by kernel_rfl) rfl ⟨⟨_,rfl,?_⟩,⟨_,rfl,?_⟩,⟨_,rfl,?_⟩,trivial⟩
  ·refine aW (a0 nS) ?_
   refine ah.nil ?_
   exact ag.any rfl (bs.le (.same rfl (.same rfl (.same rfl (.same rfl (.same rfl (.same rfl (.same rfl (.same rfl (.same rfl (.same rfl (.same rfl (.same rfl (.same rfl (.same rfl (.same rfl (.same rfl (.same rfl (.same rfl (.same rfl (.same rfl (.same rfl .nil))))))))))))))))))))) (Fl ()))
  ·refine cc 1 hR ?_
   refine ah.nil ?_
   exact ag.any rfl (bs.le (.same rfl (.same rfl (.same rfl (.same rfl (.same rfl (.same rfl (.same rfl (.same rfl (.same rfl (.same rfl (.same rfl (.same rfl (.same rfl (.same rfl (.same rfl (.same rfl (.same rfl (.same rfl (.same rfl (.same rfl (.same rfl .nil))))))))))))))))))))) (Fk ()))
  ·refine aW (a0 uF) ?_
   refine ah.nil ?_
   exact ag.any rfl (bs.le (.same rfl (.same rfl (.same rfl (.same rfl (.same rfl (.same rfl (.same rfl (.same rfl (.same rfl (.same rfl (.same rfl (.same rfl (.same rfl (.same rfl (.same rfl (.same rfl (.same rfl (.same rfl (.same rfl (.same rfl (.same rfl .nil))))))))))))))))))))) (Fj ()))
 ·refine ai.skip ?_
  exact dI 0 (hm hp () h)
end Go.Proofs.YtmnggbjcnoffeaaGreat
namespace Go.Proofs.YtmnggbjcnoffeaaGreat
open Go Gv
set_option linter.unusedVariables false
set_option linter.unusedSimpArgs false
set_option maxRecDepth 100000
set_option maxHeartbeats 2000000
theorem Ol {hp:bb Cell} {aa:Ref} {aj:ao} {aR:Int} {r:Int × Bool} (h:tZ hp aa aj aR=some r):cz Tryz.prog 240 [I.of (aa),I.of (aj),I.of (aR)] ([] ++ bd hp) (δ:=Unit) (fun _=>I.cF [I.of (r.1),I.of (r.2)]) (fun _=> [] ++ bd hp):=by
 unfold tZ at h
 refine cz.of Tryz.func240 rfl Tryz.ntmps240 rfl fun W A=> ?_
 refine aD ?_
 refine cd fun aT=> ?_
 refine aQ ?_
 refine aQ ?_
 refine bS ?_
 refine aB ?_
 refine cc 0 bT ?_
 refine aB ?_
 obtain⟨ak,bB,h⟩:=aw h
 refine ah.pa (iF.q6 1 rfl K3 (HI bB) ⟨ae rfl,ae rfl,ae rfl,trivial⟩) rfl rfl rfl ?_
 refine aQ ?_
 refine bM ?_
 refine aD ?_
 refine aB ?_
 refine bp (qN Tryz.underlying331 (ae rfl)) ?_
 refine aB ?_
 refine dU cQ ?_
 obtain⟨dK,fz,h⟩:=aw h
 refine eY (fun hb=>fw (gQ (cY rfl hb) (ib fz hb))) ?_
 refine dU (a0 uE) ?_
 obtain⟨cK,hg,h⟩:=aw h
 refine eY (fun hb=>jt ((aL.id ew).comp tP) (r:=cK.e7) k8 (cY rfl hb) (h4 (n:=1) rfl (mD (ib hg hb)) rfl) rfl rfl) ?_
 refine dU ju ?_
 refine o1 ?_
 refine aN ?_
 refine ck h (fun h=>?_) fun h=>?_
 ·refine aD ?_
  refine aQ ?_
  refine aQ ?_
  refine aN ?_
  refine ai.ret ?_
  refine ag.ret ?_
  obtain rfl:=aI h
  exact ag.pM () (.cons _ (.refl _)) rfl rfl (fP rfl) (fP rfl)
 ·refine cO ?_
  refine aD ?_
  refine aB ?_
  obtain⟨cB,g3,h⟩:=aw h
  refine bp (fw (gQ (ae rfl) g3)) ?_
  refine aW (a0 JD) ?_
  obtain⟨dL,ik,h⟩:=aw h
  refine bp (jt ((aL.id ew).comp HE) (r:=dL.mL) bG (ae rfl) (h4 (n:=1) rfl (mD ik) rfl) rfl rfl) ?_
  refine aQ ?_
  refine aQ ?_
  refine aN ?_
  refine ai.ret ?_
  obtain rfl:=aI h
  exact ag.pM () (.cons _ (.refl _)) rfl rfl (fP rfl) (fP rfl)
theorem NS {hp:bb Cell} {aa:jr} {aj:bE} {r:Int × Bool} (h:wy hp aa aj=some r):cz Tryz.prog 260 [I.of (aa),I.of (aj)] ([] ++ bd hp) (δ:=Unit) (fun _=>I.cF [I.of (r.1),I.of (r.2)]) (fun _=> [] ++ bd hp):=by
 unfold wy at h
 refine cz.of Tryz.func260 rfl Tryz.ntmps260 rfl fun W A=> ?_
 refine aD ?_
 refine cd fun aT=> ?_
 refine cd fun a7=> ?_
 refine aQ ?_
 refine aQ ?_
 refine bM ?_
 refine aD ?_
 refine aW (a0 JE) ?_
 refine b3 1 CU EV ?_
 obtain⟨dK,fz,h⟩:=aw h
 obtain⟨cK,hg,h⟩:=aw h
 obtain⟨ak,bB,h⟩:=aw h
 refine ah.pa (iF.obj 2 rfl (xM hg) S2 (Nr bB) rfl ⟨gQ (ae rfl) fz,trivial⟩) rfl rfl rfl ?_
 refine aW (eJ Tryz.underlying38) ?_
 refine aB ?_
 refine aN ?_
 refine ai.block ?_
 obtain⟨az,aq,h⟩:=aw h
 refine ai.uY (σ:=Int) (ε:=(Int × Bool) ⊕ (Int × Bool × Int × Bool × Bool)) (γ:=Unit) (δ:=Unit) aq (fun s1 ax=> [(0,I.of (aa)),(1,I.of (aj)),(2,I.eq (.pointer (some ⟨aT,0,none⟩))),(3,I.eq (.pointer (some ⟨a7,0,none⟩))),(4,I.of (0:Int)),(5,I.of (false)),(10,I.of (ak)),(11,I.of (ak.length:Int)),(12,I.of (s1))]) (fun s1 ax=>(⟨some a7,.var (aj:bE)⟩ :: ⟨some aT,.var (aa:jr)⟩ :: bd hp)) (fun aE=>Sum.elim (fun aE=>Exit.exit 0) (fun aE=>Exit.ret) aE) (fun aE ax=>Sum.elim (fun aE=> [(0,I.of (aa)),(1,I.of (aj)),(2,I.eq (.pointer (some ⟨aT,0,none⟩))),(3,I.eq (.pointer (some ⟨a7,0,none⟩))),(4,I.of (0:Int)),(5,I.of (false)),(10,I.of (ak)),(11,I.of (ak.length:Int)),(12,I.of (aE.1)),(13,I.of (aE.2))]) (fun aE=> [(0,I.of (aa)),(1,I.of (aj)),(2,I.eq (.pointer (some ⟨aT,0,none⟩))),(3,I.eq (.pointer (some ⟨a7,0,none⟩))),(4,I.of (aE.1)),(5,I.of (aE.2.1)),(10,I.of (ak)),(11,I.of (ak.length:Int)),(12,I.of (aE.2.2.1)),(13,I.of (aE.2.2.2.1)),(19,I.of (aE.2.2.2.2))]) aE) (fun aE ax=>Sum.elim (fun aE=>(⟨some a7,.var (aj:bE)⟩ :: ⟨some aT,.var (aa:jr)⟩ :: bd hp)) (fun aE=>(⟨some a7,.var (aj:bE)⟩ :: ⟨some aT,.var (aa:jr)⟩ :: bd hp)) aE) () rfl (.same rfl (.same rfl (.same rfl (.same rfl (.same rfl (.same rfl (.same rfl (.same rfl (.same rfl .nil))))))))) (fun s1 r h ax=> ?_) (fun ax=> ?_)
 ·clear aq
  refine aD ?_
  refine bj dZ ?_
  refine bM ?_
  refine ck h (fun h=>?_) fun h=>?_
  ·refine cO ?_
   refine ai.seq ?_
   refine ai.block ?_
   refine aD ?_
   obtain⟨a4,cw,h⟩:=aw h
   refine fL cw Tryz.underlying38 cV ?_
   refine aW (cL cV) ?_
   refine cG h6 fun bU=> ?_
   refine ca 0 cV ?_
   refine bS ?_
   refine aW (a0 jQ) ?_
   refine b3 0 iL h5 ?_
   refine cc 1 h5 ?_
   obtain⟨aP,cg,h⟩:=aw h
   refine dF S3 (Of cg) ?_
   refine aN ?_
   refine ck h (fun h=>?_) fun h=>?_
   ·refine aD ?_
    refine aW (a0 kW) ?_
    refine b3 0 jL bG ?_
    refine aQ ?_
    refine aQ ?_
    refine aN ?_
    refine ai.ret ?_
    refine ag.eC ?_
    refine ag.ret ?_
    obtain rfl:=aI h
    exact eh () 1
   ·refine ai.skip ?_
    refine ag.ea ?_
    refine ag.next ?_
    refine ai.cl ?_
    refine bj dg ?_
    refine aB ?_
    refine ah.nil ?_
    obtain rfl:=aI h
    exact fo () 1
  ·refine ai.exit ?_
   refine ag.exit ?_
   obtain rfl:=aI h
   exact eh () 0
 ·clear aq
  rcases az with az | az
  ·simp only [Sum.elim_inl] at h
   refine ag.fe ?_
   refine ag.next ?_
   refine aD ?_
   refine aQ ?_
   refine aQ ?_
   refine aN ?_
   refine ai.ret ?_
   obtain rfl:=aI h
   exact ag.pM () (.cons _ (.cons _ (.refl _))) rfl rfl (fP rfl) (fP rfl)
  ·simp only [Sum.elim_inr] at h
   refine ag.eC ?_
   refine ag.ret ?_
   obtain rfl:=aI h
   exact ag.pM () (.cons _ (.cons _ (.refl _))) rfl rfl (fP rfl) (fP rfl)
end Go.Proofs.YtmnggbjcnoffeaaGreat
namespace Go.Proofs.YtmnggbjcnoffeaaGreat
open Go Gv
set_option linter.unusedVariables false
set_option linter.unusedSimpArgs false
set_option maxRecDepth 100000
set_option maxHeartbeats 2000000
end Go.Proofs.YtmnggbjcnoffeaaGreat
namespace Go.Proofs.YtmnggbjcnoffeaaGreat
open Go Gv
set_option linter.unusedVariables false
set_option linter.unusedSimpArgs false
set_option maxRecDepth 100000
set_option maxHeartbeats 2000000
theorem NA {hp:bb Cell} {aa:ef} {aj:bE} {r:Int × Bool} (h:wa hp aa aj=some r):cz Tryz.prog 235 [I.of (aa),I.of (aj)] ([] ++ bd hp) (δ:=Unit) (fun _=>I.cF [I.of (r.1),I.of (r.2)]) (fun _=> [] ++ bd hp):=by
 unfold wa at h
 refine cz.of Tryz.func235 rfl Tryz.ntmps235 rfl fun W A=> ?_
 refine aD ?_
 refine cd fun aT=> ?_
 refine cd fun a7=> ?_
 refine aQ ?_
 refine aQ ?_
 refine bS ?_
 refine cc 1 EE ?_
 refine cc 0 h5 ?_
 obtain⟨ak,bB,h⟩:=aw h
 refine dF K7 (Ht bB) ?_
 refine aB ?_
 refine gf ?_
 refine gf ?_
 refine gf ?_
 refine cG xS fun bU=> ?_
 refine cG dP fun cR=> ?_
 refine ca 1 hR ?_
 refine ca 0 bT ?_
 refine aQ ?_
 refine bM ?_
 obtain⟨dK,fz,h⟩:=aw h
 obtain⟨cK,hg,h⟩:=aw h
 obtain⟨bk,dc,h⟩:=aw h
 obtain⟨aP,cg,h⟩:=aw h
 refine k5 [0,1,2,3,6,7,8,9,10,11,12,13,14,15] ?_
 refine ai.Bn 4 mixed (bq 16 [] [] _ :: bq 17 (0 :: []) (3 :: []) _ :: bq 18 [] (1 :: []) _ :: ⟨some 19,(1 :: 2 :: []),[],[],fun _=>I.of (bk),fun _ _=>⟨none,.dead⟩⟩ :: bq 20 [] (0 :: []) _ :: bq 21 [] [] _ :: ⟨some 22,(3 :: 4 :: 5 :: []),[],[],fun _=>I.cF [I.of (aP.1),I.of (aP.2)],fun _ _=>⟨none,.dead⟩⟩ :: bq 23 (6 :: []) [] _ :: bq 24 (6 :: []) [] _ :: bq 4 (7 :: []) [] _ :: bq 5 (8 :: []) [] _ :: []) _ (0 :: 1 :: 2 :: 3 :: 6 :: 7 :: 8 :: 9 :: 10 :: 11 :: 12 :: 13 :: 14 :: 15 :: []) rfl rfl (by kernel_rfl) (by kernel_rfl) ⟨eT.q (fD (a0 nS)),eT.q (oZ 3 m6 nr),eT.q (o0 1 hR),?_,eT.q (o0 0 bT),eT.q (gW),?_,eT.q (cS fun hd E' ay aK au=>nk (ae (aK _ _ rfl)) rfl),eT.q (cS fun hd E' ay aK au=>nk (ae (aK _ _ rfl)) rfl),eT.q (cS fun hd E' ay aK au=>eG (ae (aK _ _ rfl))),eT.q (cS fun hd E' ay aK au=>eG (ae (aK _ _ rfl))),trivial⟩ fun gp=> ?_
 ·intro hd E' ay aK au eX
  refine bp (DR (r:=bk) Tryz.underlying167 BB ER (pv (ae (aK _ _ rfl)) fz) (ae (aK _ _ rfl)) (h4 (n:=4) (eX.trans rfl) (oI hg) rfl) (aI dc)) ?_
  refine ah.nil ?_
  exact ag.fin (ft []) rfl rfl
 ·intro hd E' ay aK au eX
  refine ah.pa (iF.q6 4 (eX.trans rfl) S4 (Ol cg) ⟨ae (aK _ _ rfl),ae (aK _ _ rfl),ae (aK _ _ rfl),trivial⟩) rfl rfl rfl ?_
  refine ah.nil ?_
  exact ag.fin (ft []) rfl rfl
 refine ag.fg (L2:=(⟨some cR,.var (ak.2.1:ao)⟩ :: ⟨some bU,.var (ak.1:Vector ao 4)⟩ :: ⟨some a7,.var (aj:bE)⟩ :: ⟨some aT,.var (aa:ef)⟩ :: bd hp)) rfl ?_
 refine lD [0,1,2,3,4,5,6,7,8,9,10,11,12,13,14,15,16,17,18,19,20,21,22,23,24] ?_
 refine ag.next ?_
 refine ai.ret ?_
 obtain rfl:=aI h
 exact ag.pM () (.cons _ (.cons _ (.cons _ (.cons _ (.refl _))))) rfl rfl (fP rfl) (fP rfl)
end Go.Proofs.YtmnggbjcnoffeaaGreat
namespace Go.Proofs.YtmnggbjcnoffeaaGreat
open Go Gv
set_option linter.unusedVariables false
set_option linter.unusedSimpArgs false
set_option maxRecDepth 100000
set_option maxHeartbeats 2000000
theorem M9 {aa aR:List aM} {aj:Int} {oO K9:Option Nat} {gy sH:Nat} {r:List aM} (h:z0 aa aj aR=some r):cz Tryz.prog 275 [I.eq (aV oO aa.length gy),I.of aj,I.eq (aV K9 aR.length sH)] [⟨oO,.row 52 aa gy⟩,⟨K9,.row 52 aR sH⟩] (δ:=(Option Nat × Nat)) (fun d=>I.eq (aV d.1 r.length d.2)) (fun d=> [⟨d.1,.row 52 r d.2⟩]):=by
 unfold z0 at h
 obtain⟨k,rfl,av,aY,s8,ob,rfl⟩:=PC h
 refine cz.of Tryz.func275 rfl Tryz.ntmps275 rfl fun W A=> ?_
 refine ai.seq ?_
 refine ai.cl ?_
 refine ah.v (eG qO) rfl rfl rfl ?_
 refine ah.nil ?_
 refine ag.next ?_
 refine ai.seq ?_
 refine ai.cl ?_
 refine ah.v (cQ (ae rfl)) rfl rfl rfl ?_
 refine ah.v (cQ (ae rfl)) rfl rfl rfl ?_
 refine ah.v (AU (i:=0) (xs:=aa) Tryz.underlying38 cV (ae rfl) rfl (.some (ae rfl)) .none rfl rfl ⟨av,Nat.le_refl _⟩) rfl rfl rfl ?_
 refine ah.nil ?_
 refine ag.next ?_
 refine ai.seq ?_
 refine ai.cl ?_
 refine ah.v (cQ (ae rfl)) rfl rfl rfl ?_
 refine ah.v (su (i:=1) (xs:=aR) Tryz.underlying38 (ae rfl) rfl rfl) rfl rfl rfl ?_
 refine ah.v (eG (ae rfl)) rfl rfl rfl ?_
 refine ah.nil ?_
 refine ag.next ?_
 refine ai.seq ?_
 refine ai.seq ?_
 refine ai.cl ?_
 refine ah.v (cQ (ae rfl)) rfl rfl rfl ?_
 refine ah.v (gb (ae rfl) (bz 0)) rfl rfl rfl ?_
 refine ah.nil ?_
 refine ag.next ?_
 refine ai.cond (ae rfl) (fun ar=> ?_) (fun _=> ?_)
 ·exfalso; simp only [beq_iff_eq] at ar; omega
 refine ai.skip ?_
 refine ag.next ?_
 refine ai.seq ?_
 refine ai.cl ?_
 refine ah.v (cQ (ae rfl)) rfl rfl rfl ?_
 refine ah.v (su (i:=0) (xs:=aa) Tryz.underlying38 (ae rfl) rfl rfl) rfl rfl rfl ?_
 refine ah.v (eG (ae rfl)) rfl rfl rfl ?_
 refine ah.nil ?_
 refine ag.next ?_
 refine ai.seq ?_
 refine ai.seq ?_
 refine ai.cl ?_
 refine ah.v (cQ (ae rfl)) rfl rfl rfl ?_
 refine ah.v (cQ (ae rfl)) rfl rfl rfl ?_
 refine ah.v (gb (ae rfl) (ae rfl)) rfl rfl rfl ?_
 refine ah.nil ?_
 refine ag.next ?_
 refine ai.cond (ae rfl) (fun ar=> ?_) (fun ar=> ?_)
 ·have k9:k=aa.length:=by simp only [beq_iff_eq] at ar; omega
  subst k9
  refine ai.seq ?_
  refine ai.cl ?_
  refine ah.v (cQ (ae rfl)) rfl rfl rfl ?_
  refine ah.kV (α:=aM) 1 [2,13] ⟨rfl,rfl,trivial⟩ rfl ?_
  refine ah.v (cQ (ae rfl)) rfl rfl rfl ?_
  refine ah.app (i:=0) (xs:=aa) (ys:=aR) (r:=aa ++ aR) Tryz.underlying38 cV h6 (by kernel_rfl) (ae rfl) rfl (ae rfl) (by unfold fT; rw [if_pos ⟨s8,ob⟩]) rfl fun gH eU=> ?_
  refine ah.v (eG (ae rfl)) rfl rfl rfl ?_
  refine ah.nil ?_
  refine ag.next ?_
  refine ai.ret ?_
  have aS:aa.take aa.length ++ aR ++ aa.drop aa.length=aa ++ aR:=by simp
  rw [aS]
  exact ag.gR (gH,eU) (.cons_cons _ (List.nil_sublist _)) rfl rfl (fP rfl)
 have k9:k < aa.length:=by simp only [beq_eq_false_iff_ne] at ar; omega
 refine ai.skip ?_
 refine ag.next ?_
 refine ai.some (i:=0) (xs:=aa) rfl (by omega) fun p hp yF nE=> ?_
 subst hp
 refine ai.some (i:=1) (xs:=aR) rfl (by omega) fun q hq W0 W3=> ?_
 subst hq
 refine ai.apart rfl fun B9=> ?_
 refine ai.seq ?_
 refine ai.seq ?_
 refine ai.cl ?_
 refine ah.v (cQ (ae rfl)) rfl rfl rfl ?_
 refine ah.v (cQ (ae rfl)) rfl rfl rfl ?_
 refine ah.v (dg (ae rfl) (ae rfl)) rfl rfl rfl ?_
 refine ah.v (cQ (ae rfl)) rfl rfl rfl ?_
 refine ah.v (RG Tryz.underlying38 (ae rfl)) rfl rfl rfl ?_
 refine ah.v (mJ (ae rfl) (ae rfl)) rfl rfl rfl ?_
 refine ah.nil ?_
 refine ag.next ?_
 have hw:bD ((aa.length:Int) + (aR.length:Int))=((aa.length + aR.length:Nat):Int):=by
  have oc:maxLen=9223372036854775807:=rfl
  rw [hQ (by omega) (by omega)]; simp
 refine ai.cond (ae rfl) (fun ik=> ?_) (fun ik=> ?_)
 ·have u9:gy < aa.length + aR.length:=by rw [hw] at ik; simp only [decide_eq_true_eq] at ik; omega
  have oc:maxLen=9223372036854775807:=rfl
  have aF:bD (bD ((aa.length:Int) + (aR.length:Int)) - (k:Int))=((aa.length + aR.length - k:Nat):Int):=by
   rw [hw,hQ (by omega) (by omega)]; omega
  refine ai.seq ?_
  refine ai.cl ?_
  refine ah.v (cQ (ae rfl)) rfl rfl rfl ?_
  refine ah.v (cQ (ae rfl)) rfl rfl rfl ?_
  refine ah.v (AU (i:=0) (xs:=aa) Tryz.underlying38 cV (ae rfl) rfl .none (.some (ae rfl)) rfl rfl ⟨Nat.zero_le _,av⟩) rfl rfl rfl ?_
  refine ah.v (cQ (ae rfl)) rfl rfl rfl ?_
  refine ah.v (cQ (ae rfl)) rfl rfl rfl ?_
  refine ah.v (dg (ae rfl) (ae rfl)) rfl rfl rfl ?_
  refine ah.v (cQ (ae rfl)) rfl rfl rfl ?_
  refine ah.v (kY (ae rfl) (ae rfl)) rfl rfl rfl ?_
  refine ah.Uw (i:=0) (m:=k) (k:=aa.length + aR.length - k) (xs:=aa) (z:=(default:aM)) Tryz.underlying38 Tryz.underlying3 cV h6 (by rfl) (by kernel_rfl) (ae rfl) (by rw [← aF]; exact ae rfl) rfl av (by omega) (by omega) (by rw [show k + (aa.length + aR.length - k)=aa.length + aR.length by omega]; exact s8) (by omega) rfl fun aE eU=> ?_
  refine ah.v (eG (ae rfl)) rfl rfl rfl ?_
  refine ah.nil ?_
  refine ag.next ?_
  have hlen:(aa.take k ++ List.replicate (aa.length + aR.length - k) (default:aM)).length=aa.length + aR.length:=by simp; omega
  refine ai.some (i:=0) (xs:=aa.take k ++ List.replicate (aa.length + aR.length - k) (default:aM)) rfl (by omega) fun da nF S5 W4=> ?_
  rw [hlen] at S5
  refine ai.seq ?_
  refine ai.cl ?_
  refine ah.v (cQ (ae rfl)) rfl rfl rfl ?_
  refine ah.v (cQ (ae rfl)) rfl rfl rfl ?_
  refine ah.v (qQ (α:=aM) (m:=k) (h:=k + (aa.length + aR.length - k)) Tryz.underlying38 cV (ae rfl) (.some (ae rfl)) .none rfl rfl ⟨by omega,by omega⟩) rfl rfl rfl ?_
  refine ah.v (cQ (ae rfl)) rfl rfl rfl ?_
  refine ah.BC (i:=0) (p:=aE) (off:=k * ad.size aM) (dLen:=k + (aa.length + aR.length - k) - k) (dCap:=eU - k) (N:=aR.length) (vs:=aR) (T:=52) Tryz.underlying38 cV (by rw [← DS (by omega)]; exact ae rfl) (JF (i:=2) (ae rfl) rfl aY) (Nat.min_eq_left (by omega)) rfl rfl (fun A W o cells h cJ=>I6 (by omega) h cJ) ?_
  refine ah.nil ?_
  refine ag.next ?_
  have az:(aa.take k ++ List.replicate (aa.length + aR.length - k) (default:aM)).take k ++ aR ++ (aa.take k ++ List.replicate (aa.length + aR.length - k) (default:aM)).drop (k + aR.length)=aa.take k ++ aR ++ List.replicate (aa.length - k) (default:aM):=by
   have ji:(aa.take k).length=k:=by rw [List.length_take]; omega
   rw [List.take_left' ji,List.drop_append,ji,List.drop_eq_nil_of_le (by omega),List.nil_append,List.drop_replicate]
   congr 2
   omega
  have Ca:bD ((k:Int) + (aR.length:Int))=((k + aR.length:Nat):Int):=by rw [hQ (by omega) (by omega)]; simp
  refine ai.seq ?_
  refine ai.le (E':= [(0,I.eq (aV (some p) aa.length gy)),(1,I.of (k:Int)),(7,I.of (aR.length:Int)),(9,I.eq (aV (some aE) (k + (aa.length + aR.length - k)) eU))]) (.same rfl (.same rfl (.same rfl (.same rfl .nil)))) ?_
  refine ai.jS mixed (⟨some 46,[],[],[],fun _=>I.eq (aV (some aE) (k + (aa.length + aR.length - k)) eU),fun _ _=>⟨none,.dead⟩⟩ :: ⟨some 47,[],[],[],fun _=>I.of (k:Int),fun _ _=>⟨none,.dead⟩⟩ :: ⟨some 48,[],[],[],fun _=>I.of (aR.length:Int),fun _ _=>⟨none,.dead⟩⟩ :: ⟨some 49,(1 :: 2 :: []),[],[],fun _=>I.of (bD ((k:Int) + (aR.length:Int))),fun _ _=>⟨none,.dead⟩⟩ :: ⟨some 50,(0 :: 3 :: []),[],[],fun _=>I.eq (hT (some aE) (k + aR.length) ((k + (aa.length + aR.length - k)) - (k + aR.length)) eU (ad.size aM)),fun _ _=>⟨none,.dead⟩⟩ :: ⟨some 51,[],[],[],fun _=>I.eq (aV (some p) aa.length gy),fun _ _=>⟨none,.dead⟩⟩ :: ⟨some 52,[],[],[],fun _=>I.of (k:Int),fun _ _=>⟨none,.dead⟩⟩ :: ⟨some 53,(5 :: 6 :: []),[],[],fun _=>I.eq (hT (some p) k (aa.length - k) gy (ad.size aM)),fun _ _=>⟨none,.dead⟩⟩ :: ⟨some 54,(4 :: 7 :: []),(0 :: 1 :: []),(0 :: []),fun _=>I.of ((((aa.drop k).take (aa.length - k)).length:Nat):Int),fun _ _=>⟨some aE,.row 52 ((aa.take k ++ aR ++ List.replicate (aa.length - k) (default:aM)).take (k + aR.length) ++ (aa.drop k).take (aa.length - k) ++ (aa.take k ++ aR ++ List.replicate (aa.length - k) (default:aM)).drop (k + aR.length + ((aa.drop k).take (aa.length - k)).length)) eU⟩⟩ :: []) ((some 46,[],[],[]) :: (some 47,[],[],[]) :: (some 48,[],[],[]) :: (some 49,(1 :: 2 :: []),[],[]) :: (some 50,(0 :: 3 :: []),[],[]) :: (some 51,[],[],[]) :: (some 52,[],[],[]) :: (some 53,(5 :: 6 :: []),[],[]) :: (some 54,(4 :: 7 :: []),(0 :: 1 :: []),(0 :: [])) :: []) (0 :: 1 :: 7 :: 9 :: []) rfl rfl (by kernel_rfl) ⟨?_,?_,?_,?_,?_,?_,?_,?_,?_,trivial⟩ fun hd=> ?_
  ·exact iP rfl rfl rfl fun hd E' ay aK au=>cQ (ae (aK _ _ rfl))
  ·exact iP rfl rfl rfl fun hd E' ay aK au=>cQ (ae (aK _ _ rfl))
  ·exact iP rfl rfl rfl fun hd E' ay aK au=>cQ (ae (aK _ _ rfl))
  ·exact iP rfl rfl rfl fun hd E' ay aK au=>dg (ae (aK _ _ rfl)) (ae (aK _ _ rfl))
  ·exact iP rfl rfl rfl fun hd E' ay aK au=>qQ (α:=aM) (m:=k + aR.length) (h:=(k + (aa.length + aR.length - k))) Tryz.underlying38 cV (ae (aK _ _ rfl)) (.some (ae (aK _ _ rfl))) .none Ca rfl ⟨by omega,by omega⟩
  ·exact iP rfl rfl rfl fun hd E' ay aK au=>cQ (ae (aK _ _ rfl))
  ·exact iP rfl rfl rfl fun hd E' ay aK au=>cQ (ae (aK _ _ rfl))
  ·exact iP rfl rfl rfl fun hd E' ay aK au=>qQ (α:=aM) (m:=k) (h:=aa.length) Tryz.underlying38 cV (ae (aK _ _ rfl)) (.some (ae (aK _ _ rfl))) .none rfl rfl ⟨by omega,by omega⟩
  ·intro hd E' ay aK au
   have bJ:=au 0 _ rfl rfl
   rw [az] at bJ
   refine ah.BC (i:=0) (p:=aE) (off:=(k + aR.length) * ad.size aM) (T:=52) (vs:=(aa.drop k).take (aa.length - k)) (N:=aa.length - k) (dLen:=(k + (aa.length + aR.length - k)) - (k + aR.length)) (dCap:=eU - (k + aR.length)) Tryz.underlying38 cV (by rw [← DS (p:=aE) (lo:=k + aR.length) (cap:=eU) (size:=ad.size aM) (by omega)]; exact ae (aK _ _ rfl)) (DT (i:=1) (ae (aK _ _ rfl)) (au 1 _ rfl rfl) (by omega) (by omega)) (by rw [show((aa.drop k).take (aa.length - k)).length=aa.length - k by simp]; exact Nat.min_eq_left (by omega)) bJ rfl (fun A W o cells h cJ=>I6 (by simp; omega) h cJ) ?_
   refine ah.nil ?_
   exact ag.fin (ft []) rfl rfl
  have aX:((aa.take k ++ aR ++ List.replicate (aa.length - k) (default:aM)).take (k + aR.length) ++ (aa.drop k).take (aa.length - k) ++ (aa.take k ++ aR ++ List.replicate (aa.length - k) (default:aM)).drop (k + aR.length + ((aa.drop k).take (aa.length - k)).length))=aa.take k ++ aR ++ aa.drop k:=by
   have ji:(aa.take k ++ aR).length=k + aR.length:=by simp; omega
   have c7:(aa.drop k).take (aa.length - k)=aa.drop k:=List.take_of_length_le (by simp)
   have fB:(aa.take k ++ aR ++ List.replicate (aa.length - k) (default:aM)).drop (k + aR.length + (aa.drop k).length)= []:=List.drop_eq_nil_of_le (by rw [List.length_append,ji,List.length_replicate,List.length_drop]; omega)
   rw [c7,List.take_left' ji,fB,List.append_nil]
  refine ag.fg (L2:= [⟨some aE,.row 52 ((aa.take k ++ aR ++ List.replicate (aa.length - k) (default:aM)).take (k + aR.length) ++ (aa.drop k).take (aa.length - k) ++ (aa.take k ++ aR ++ List.replicate (aa.length - k) (default:aM)).drop (k + aR.length + ((aa.drop k).take (aa.length - k)).length)) eU⟩,⟨some p,.row 52 aa gy⟩,⟨some q,.row 52 aR sH⟩]) rfl ?_
  rw [aX]
  refine ag.le (E':= [(9,I.eq (aV (some aE) (k + (aa.length + aR.length - k)) eU))]) (.same rfl .nil) ?_
  refine ag.next ?_
  refine ai.seq ?_
  refine ai.cl ?_
  refine ah.v (cQ (ae rfl)) rfl rfl rfl ?_
  refine ah.v (eG (ae rfl)) rfl rfl rfl ?_
  refine ah.nil ?_
  refine ag.next ?_
  refine ai.ret ?_
  have cP:k + (aa.length + aR.length - k)=(aa.take k ++ aR ++ aa.drop k).length:=by simp; omega
  rw [cP]
  exact ag.gR (some aE,eU) (.cons_cons _ (List.nil_sublist _)) rfl rfl (fP rfl)
 have u9:aa.length + aR.length≤gy:=by rw [hw] at ik; simp only [decide_eq_false_iff_not] at ik; omega
 have oc:maxLen=9223372036854775807:=rfl
 have Ca:bD ((k:Int) + (aR.length:Int))=((k + aR.length:Nat):Int):=by rw [hQ (by omega) (by omega)]; simp
 refine ai.skip ?_
 refine ag.next ?_
 refine ai.seq ?_
 refine ai.cl ?_
 refine ah.v (cQ (ae rfl)) rfl rfl rfl ?_
 refine ah.v (cQ (ae rfl)) rfl rfl rfl ?_
 refine ah.v (cQ (ae rfl)) rfl rfl rfl ?_
 refine ah.v (dg (ae rfl) (ae rfl)) rfl rfl rfl ?_
 refine ah.v (qQ (α:=aM) (m:=0) (h:=aa.length + aR.length) Tryz.underlying38 cV (ae rfl) .none (.some (ae rfl)) rfl hw ⟨by omega,by omega⟩) rfl rfl rfl ?_
 refine ah.v (eG (ae rfl)) rfl rfl rfl ?_
 refine ah.nil ?_
 refine ag.next ?_
 refine ai.seq ?_
 refine ai.seq ?_
 refine ai.cl ?_
 refine ah.v (cQ (ae rfl)) rfl rfl rfl ?_
 refine ah.v (cQ (ae rfl)) rfl rfl rfl ?_
 refine ah.v (cQ (ae rfl)) rfl rfl rfl ?_
 refine ah.v (cQ (ae rfl)) rfl rfl rfl ?_
 refine ah.v (dg (ae rfl) (ae rfl)) rfl rfl rfl ?_
 refine ah.v (qQ (α:=aM) (p:=p) (n:=aa.length + aR.length) (cap:=gy) (m:=k + aR.length) (h:=aa.length + aR.length) Tryz.underlying38 cV (Ba (size:=ad.size aM) (ae rfl)) (.some (ae rfl)) .none Ca rfl ⟨by omega,by omega⟩) rfl rfl rfl ?_
 refine ah.v (S6 (α:=aM) (p:=p) (q:=q) (T:=52) (U:=52) (xs:=aa) (vs:=aR) (cap:=gy) (cap':=sH) (i:=0) (j:=1) (tR:=4) (by kernel_rfl) Tryz.func280 (by kernel_rfl) (by kernel_rfl) (by kernel_rfl) (by kernel_rfl) Tryz.underlying38 cV (ae rfl) (Eg (p:=p) (lo:=k + aR.length) (cap:=gy) (size:=ad.size aM) (by omega) (ae rfl)) rfl rfl B9 (by omega)) rfl rfl rfl ?_
 refine ah.v (ju (ae rfl)) rfl rfl rfl ?_
 refine ah.nil ?_
 refine ag.next ?_
 refine ai.cond (ae rfl) (fun _=> ?_) (fun mU=>by cases mU)
 ·have im:(aa.length + aR.length - 0)=aa.length + aR.length:=by omega
  have L5:(aa.drop k).take (aa.length - k)=aa.drop k:=List.take_of_length_le (by simp)
  refine ai.seq ?_
  refine ai.le (E':= [(0,I.eq (hT (some p) 0 (aa.length + aR.length - 0) gy (ad.size aM))),(1,I.of (k:Int)),(2,I.eq (aV (some q) aR.length sH)),(7,I.of (aR.length:Int))]) (.same rfl (.same rfl (.same rfl (.same rfl .nil)))) ?_
  refine ai.jS mixed (⟨some 69,[],[],[],fun _=>I.eq (hT (some p) 0 (aa.length + aR.length - 0) gy (ad.size aM)),fun _ _=>⟨none,.dead⟩⟩ :: ⟨some 70,[],[],[],fun _=>I.of (k:Int),fun _ _=>⟨none,.dead⟩⟩ :: ⟨some 71,[],[],[],fun _=>I.of (aR.length:Int),fun _ _=>⟨none,.dead⟩⟩ :: ⟨some 72,(1 :: 2 :: []),[],[],fun _=>I.of (bD ((k:Int) + (aR.length:Int))),fun _ _=>⟨none,.dead⟩⟩ :: ⟨some 73,(0 :: 3 :: []),[],[],fun _=>I.eq (hT (some p) (k + aR.length) (aa.length + aR.length - (k + aR.length)) gy (ad.size aM)),fun _ _=>⟨none,.dead⟩⟩ :: ⟨some 74,[],[],[],fun _=>I.eq (hT (some p) 0 (aa.length + aR.length - 0) gy (ad.size aM)),fun _ _=>⟨none,.dead⟩⟩ :: ⟨some 75,[],[],[],fun _=>I.of (k:Int),fun _ _=>⟨none,.dead⟩⟩ :: ⟨some 76,(5 :: 6 :: []),[],[],fun _=>I.eq (hT (some p) k (aa.length + aR.length - k) gy (ad.size aM)),fun _ _=>⟨none,.dead⟩⟩ :: ⟨some 77,(4 :: 7 :: []),(0 :: []),(0 :: []),fun _=>I.of ((((aa.drop k).take (aa.length - k)).length:Nat):Int),fun _ _=>⟨some p,.y1 52 aa k aR.length gy⟩⟩ :: []) ((some 69,[],[],[]) :: (some 70,[],[],[]) :: (some 71,[],[],[]) :: (some 72,(1 :: 2 :: []),[],[]) :: (some 73,(0 :: 3 :: []),[],[]) :: (some 74,[],[],[]) :: (some 75,[],[],[]) :: (some 76,(5 :: 6 :: []),[],[]) :: (some 77,(4 :: 7 :: []),(0 :: []),(0 :: [])) :: []) (0 :: 1 :: 2 :: 7 :: []) rfl rfl (by kernel_rfl) ⟨?_,?_,?_,?_,?_,?_,?_,?_,?_,trivial⟩ fun hd=> ?_
  ·exact iP rfl rfl rfl fun hd E' ay aK au=>cQ (ae (aK _ _ rfl))
  ·exact iP rfl rfl rfl fun hd E' ay aK au=>cQ (ae (aK _ _ rfl))
  ·exact iP rfl rfl rfl fun hd E' ay aK au=>cQ (ae (aK _ _ rfl))
  ·exact iP rfl rfl rfl fun hd E' ay aK au=>dg (ae (aK _ _ rfl)) (ae (aK _ _ rfl))
  ·exact iP rfl rfl rfl fun hd E' ay aK au=>qQ (α:=aM) (n:=aa.length + aR.length) (m:=k + aR.length) (h:=aa.length + aR.length) Tryz.underlying38 cV (Ba (size:=ad.size aM) (ae (aK _ _ rfl))) (.some (ae (aK _ _ rfl))) .none Ca rfl ⟨by omega,by omega⟩
  ·exact iP rfl rfl rfl fun hd E' ay aK au=>cQ (ae (aK _ _ rfl))
  ·exact iP rfl rfl rfl fun hd E' ay aK au=>cQ (ae (aK _ _ rfl))
  ·exact iP rfl rfl rfl fun hd E' ay aK au=>qQ (α:=aM) (n:=aa.length + aR.length) (m:=k) (h:=aa.length + aR.length) Tryz.underlying38 cV (Ba (size:=ad.size aM) (ae (aK _ _ rfl))) (.some (ae (aK _ _ rfl))) .none rfl rfl ⟨by omega,by omega⟩
  ·intro hd E' ay aK au
   have bJ:=au 0 _ rfl rfl
   refine ah.BC (i:=0) (p:=p) (off:=(k + aR.length) * ad.size aM) (T:=52) (vs:=(aa.drop k).take (aa.length - k)) (N:=aa.length + aR.length - k) (dLen:=aa.length + aR.length - (k + aR.length)) (dCap:=gy - (k + aR.length)) (cp':= .y1 52 aa k aR.length gy) Tryz.underlying38 cV (Eg (p:=p) (lo:=k + aR.length) (cap:=gy) (size:=ad.size aM) (by omega) (ae (aK _ _ rfl))) (DT (i:=0) (ae (aK _ _ rfl)) bJ (by omega) (by omega)) (by rw [L5]; rw [show(aa.drop k).length=aa.length + aR.length - (k + aR.length) by simp; omega]; exact Nat.min_eq_right (by omega)) bJ rfl (fun A W o cells h cJ=>QP av u9 h (by rw [← L5]; exact cJ)) ?_
   refine ah.nil ?_
   exact ag.fin (ft []) rfl rfl
  refine ag.fg (L2:= [⟨some p,.y1 52 aa k aR.length gy⟩,⟨some q,.row 52 aR sH⟩]) rfl ?_
  refine ag.le (E':= [(0,I.eq (hT (some p) 0 (aa.length + aR.length - 0) gy (ad.size aM))),(1,I.of (k:Int)),(2,I.eq (aV (some q) aR.length sH))]) (.same rfl (.same rfl (.same rfl .nil))) ?_
  refine ag.next ?_
  refine ai.seq ?_
  refine ai.cl ?_
  refine ah.v (cQ (ae rfl)) rfl rfl rfl ?_
  refine ah.v (cQ (ae rfl)) rfl rfl rfl ?_
  refine ah.v (qQ (α:=aM) (n:=aa.length + aR.length) (m:=k) (h:=aa.length + aR.length) Tryz.underlying38 cV (Ba (size:=ad.size aM) (ae rfl)) (.some (ae rfl)) .none rfl rfl ⟨by omega,by omega⟩) rfl rfl rfl ?_
  refine ah.v (cQ (ae rfl)) rfl rfl rfl ?_
  refine ah.BC (i:=0) (p:=p) (off:=k * ad.size aM) (dLen:=aa.length + aR.length - k) (dCap:=gy - k) (N:=aR.length) (vs:=aR) (T:=52) (cp':= .row 52 (aa.take k ++ aR ++ aa.drop k) gy) Tryz.underlying38 cV (Eg (p:=p) (lo:=k) (cap:=gy) (size:=ad.size aM) (by omega) (ae rfl)) (JF (i:=1) (ae rfl) rfl aY) (Nat.min_eq_left (by omega)) rfl rfl (fun A W o cells h cJ=>Qc av h cJ) ?_
  refine ah.nil ?_
  refine ag.next ?_
  refine ai.seq ?_
  refine ai.cl ?_
  refine ah.v (cQ (ae rfl)) rfl rfl rfl ?_
  refine ah.v (eG (ae rfl)) rfl rfl rfl ?_
  refine ah.nil ?_
  refine ag.next ?_
  refine ai.ret ?_
  have cP:aa.length + aR.length - 0=(aa.take k ++ aR ++ aa.drop k).length:=by simp; omega
  rw [w7,cP]
  exact ag.gR (some p,gy) (.cons_cons _ (List.nil_sublist _)) rfl rfl (fP rfl)
end Go.Proofs.YtmnggbjcnoffeaaGreat
namespace Go.Proofs.YtmnggbjcnoffeaaGreat
open Go Gv
set_option linter.unusedVariables false
set_option linter.unusedSimpArgs false
set_option maxRecDepth 100000
set_option maxHeartbeats 2000000
theorem Ns {aa:dr} {aj:aM} {aR:aM} {r:Int} (h:tL aa aj aR=some r):bx Tryz.prog 273 [I.ptr aa,I.of (aj),I.of (aR)] (I.of (r)):=by
 unfold tL at h
 refine bx.of Tryz.func273 rfl Tryz.ntmps273 rfl fun W A=> ?_
 refine aD ?_
 refine cd fun aT=> ?_
 refine cd fun a7=> ?_
 refine aQ ?_
 refine bM ?_
 refine ai.block ?_
 refine ai.seq ?_
 obtain⟨ak,bB,h⟩:=aw h
 refine ai.draw mixed 7 [some 8,some 9,some 10,some 11,some 12,some 13,some 14] [[],[0],[1],[2],[],[],[3,4,5]] [.val _,.val _,.val _,.val _,.val _,.val _,.val _] [false,false,false,false,false,false,false] (by kernel_rfl) rfl rfl rfl (fun dx=>⟨cW,H1 xz,nC CD JG,H1 (cL fy),fA 1 cV,fA 0 cV,fb EP (C6 bB),trivial⟩) fun dx=> ?_
 refine aQ ?_
 refine aN ?_
 refine ck h (fun h=>?_) fun h=>?_
 ·refine aD ?_
  refine aQ ?_
  refine aN ?_
  refine ai.ret ?_
  refine ag.eC ?_
  refine ag.ret ?_
  obtain rfl:=aI h
  exact c9
 ·refine ai.seq ?_
  obtain⟨aP,cg,h⟩:=aw h
  refine ai.draw mixed 7 [some 16,some 17,some 18,some 19,some 20,some 21,some 22] [[],[0],[1],[2],[],[],[3,4,5]] [.val _,.val _,.val _,.val _,.val _,.val _,.val _] [false,false,false,false,false,false,false] (by kernel_rfl) rfl rfl rfl (fun il=>⟨cW,H1 xz,nC CD JG,H1 (cL fy),fA 0 cV,fA 1 cV,fb EP (C6 cg),trivial⟩) fun il=> ?_
  refine aQ ?_
  refine aN ?_
  refine ck h (fun h=>?_) fun h=>?_
  ·refine aD ?_
   refine aQ ?_
   refine aN ?_
   refine ai.ret ?_
   refine ag.eC ?_
   refine ag.ret ?_
   obtain rfl:=aI h
   exact c9
  ·refine ai.skip ?_
   refine ag.ea ?_
   refine ag.next ?_
   refine aD ?_
   refine aQ ?_
   refine aN ?_
   refine ai.ret ?_
   obtain rfl:=aI h
   exact c9
end Go.Proofs.YtmnggbjcnoffeaaGreat
namespace Go.Proofs.YtmnggbjcnoffeaaGreat
open Go Gv
set_option linter.unusedVariables false
set_option linter.unusedSimpArgs false
set_option maxRecDepth 100000
set_option maxHeartbeats 2000000
theorem Nt {aa:dr} {aj:aM} {cv:Nat} {oE:Option Nat} {oF:Nat} {r:Bool × dr} (h:v7 aa aj=some r):cz Tryz.prog 267 [I.eq (.pointer (some ⟨cv,0,none⟩)),I.of (aj)] [⟨some cv,.cj (({ aa with dE:= [] } :dr):dr) [(10,aV oE aa.dE.length oF)]⟩,⟨oE,.row 52 (aa.dE:List aM) oF⟩] (δ:=(Option Nat × Nat)) (fun d=>I.of (r.1)) (fun d=> [⟨some cv,.cj (({ r.2 with dE:= [] } :dr):dr) [(10,aV d.1 (r.2.dE).length d.2)]⟩,⟨d.1,.row 52 (r.2.dE:List aM) d.2⟩]):=by
 unfold v7 at h
 refine cz.of Tryz.func267 rfl Tryz.ntmps267 rfl fun W A=> ?_
 refine aD ?_
 refine cd fun aT=> ?_
 refine aQ ?_
 refine bM ?_
 refine aD ?_
 refine aB ?_
 refine bp (Kf Tryz.underlying170 (ae rfl)) ?_
 refine aB ?_
 refine dU cQ ?_
 refine dU (a0 kW) ?_
 refine eY (fun hb=>gx (i:=0) ((aL.id aM).comp jL) (r:=aj.cy) bG (cY rfl hb) rfl rfl rfl) ?_
 obtain⟨ak,bB,h⟩:=aw h
 refine eY (fun hb=>bX.S7 (β:=dr) (γ:=aM) (b':=(aa:dr)) ((aL.id dr).comp wq) 1 2 0 rfl rfl rfl rfl rfl rfl qP (bX.La 1 rfl qP (bX.Lb (z:=(aa:dr)) 1 11 rfl (fun _ _ _ h=>h.1 hb) rfl qP (hP S8 (Nw (ib bB hb)) ⟨ae rfl,cY rfl hb,trivial⟩)))) ?_
 refine jX kX ?_
 refine o1 ?_
 refine aN ?_
 refine ck h (fun h=>?_) fun h=>?_
 ·refine aD ?_
  refine aQ ?_
  refine aN ?_
  refine ai.ret ?_
  refine ag.ret ?_
  refine ag.b6 2 rfl ?_
  refine ag.b6 2 rfl ?_
  obtain rfl:=aI h
  exact kj (oE,oF)
 ·refine cO ?_
  refine aD ?_
  refine aB ?_
  refine bp (S9 (ae rfl)) ?_
  refine aQ ?_
  refine bM ?_
  obtain⟨aP,cg,h⟩:=aw h
  refine k5 [0,1,3,4,5,8,9,10,11,12,13,14,15,16,17,18] ?_
  refine ai.jS mixed (bq 20 [] [] _ :: bq 21 (0 :: []) [] _ :: bq 22 (1 :: []) [] _ :: bq 23 (2 :: []) (1 :: []) _ :: bq 24 [] (0 :: []) _ :: bq 25 [] [] _ :: bq 26 (3 :: 4 :: 5 :: []) (1 :: 2 :: []) _ :: bq 19 (6 :: []) [] _ :: bq 27 (7 :: []) [] _ :: bq 28 (7 :: []) [] _ :: bq 6 (8 :: []) [] _ :: bq 7 (9 :: []) [] _ :: []) _ (0 :: 1 :: 3 :: 4 :: 5 :: 8 :: 9 :: 10 :: 11 :: 12 :: 13 :: 14 :: 15 :: 16 :: 17 :: 18 :: []) rfl rfl (by kernel_rfl) ⟨gW,fD fw,fD (a0 xo),cS fun hd E' ay aK au=>ie (i:=1) (q:=0) (β:=dr) (γ:=aM) sN (ae (aK _ _ rfl)) (au 1 _ rfl rfl) rfl,o0 0 cV,gW,cS fun hd E' ay aK au=>bX.RH (β:=dr) (γ:=aM) (b':=(aa:dr)) ((aL.id dr).comp wq) 1 2 0 23 rfl (au 1 _ rfl rfl) (au 2 _ rfl rfl) rfl rfl rfl (aK _ _ rfl) (AQ qP w8) (bX.La 1 (FT (L6 rfl (au 1 _ rfl rfl))) (AQ qP w8) (bX.RI (F:=(fun fu eg=>tL aa fu eg)) 1 25 (aK _ _ rfl) (FT (FT (L6 rfl (au 1 _ rfl rfl)))) Ta (fun _ _ _ h=>Ns h) (AQ qP w8) (hP Tb (M8 cg) ⟨ae rfl,ae (aK _ _ rfl),ae rfl,trivial⟩))),gW,cS fun hd E' ay aK au=>nk (ae (aK _ _ rfl)) rfl,cS fun hd E' ay aK au=>nk (ae (aK _ _ rfl)) rfl,cS fun hd E' ay aK au=>eG (ae (aK _ _ rfl)),cS fun hd E' ay aK au=>eG (ae (aK _ _ rfl)),trivial⟩ fun gp=> ?_
  refine ag.fg (L2:= [⟨some aT,.var (aj:aM)⟩,⟨some cv,.cj (({ aa with dE:= [] } :dr):dr) [(10,aV oE aa.dE.length oF)]⟩,⟨oE,.row 52 (aa.dE:List aM) oF⟩]) rfl ?_
  refine lD [0,1,3,4,5,6,7,8,9,10,11,12,13,14,15,16,17,18,19,20,21,22,23,24,25,26,27,28] ?_
  refine ag.next ?_
  refine ai.seq ?_
  obtain⟨bc,ek,h⟩:=aw h
  obtain⟨bf,fh,h⟩:=aw h
  refine ai.pY 1 ?_
  refine k5 [0,1,3,4,5,6,7,8,9,10,11,12,13,14,15,16,17,18,19,20,21,22,23,24,25,26,27,28] ?_
  refine ai.jS mixed (bq 29 [] [] _ :: bq 30 [] [] _ :: bq 31 (1 :: []) [] _ :: bq 32 (2 :: []) [] _ :: bq 33 (3 :: []) (1 :: []) _ :: bq 34 [] [] _ :: bq 35 [] (0 :: []) _ :: bq 36 (6 :: []) [] _ :: ⟨some 37,(7 :: []),(3 :: []),(3 :: []),fun hd=>I.eq (aV (hd 8 0) [bc].length 1),fun hd _=>⟨(hd 8 0),.row 52 ([bc]:List aM) 1⟩⟩ :: ⟨some 38,(4 :: 5 :: 8 :: []),(2 :: 3 :: []),(2 :: 3 :: []),fun hd=>I.eq (aV (hd 9 0) bf.length ((hd 9 1).getD 0)),fun hd j=>bif Nat.beq j 2 then⟨(hd 9 0),.row 52 (bf:List aM) ((hd 9 1).getD 0)⟩ else⟨none,.dead⟩⟩ :: bq 39 (0 :: []) [] _ :: bq 40 (10 :: []) [] _ :: ⟨none,(4 :: 9 :: 11 :: []),(1 :: []),(1 :: []),fun _=>I.any,fun hd _=>⟨some cv,.cj (({ aa with dE:= [] } :dr):dr) [(10,aV (hd 9 0) bf.length ((hd 9 1).getD 0))]⟩⟩ :: []) _ (0 :: 1 :: 3 :: 4 :: 5 :: 6 :: 7 :: 8 :: 9 :: 10 :: 11 :: 12 :: 13 :: 14 :: 15 :: 16 :: 17 :: 18 :: 19 :: 20 :: 21 :: 22 :: 23 :: 24 :: 25 :: 26 :: 27 :: 28 :: []) rfl rfl (by kernel_rfl) ⟨gW,gW,fD fw,fD (a0 xo),cS fun hd E' ay aK au=>ie (i:=1) (q:=0) (β:=dr) (γ:=aM) sN (ae (aK _ _ rfl)) (au 1 _ rfl rfl) rfl,gW,o0 0 cV,cS fun hd E' ay aK au=>hP Fg (C2 ek) ⟨ae (aK _ _ rfl),trivial⟩,?_,?_,fD fw,fD (a0 xo),?_,trivial⟩ fun jh=> ?_
  ·intro hd E' ay aK au
   refine ah.oT (α:=aM) (r:= [bc]) Tryz.underlying38 cV h6 rfl rfl (.cons (by simp) (ae (aK _ _ rfl)) (.nil)) rfl fun gH=> ?_
   refine ah.nil ?_
   refine ag.place 3 (au 3 _ rfl rfl) ?_
   exact ag.fin (ft [gH]) rfl rfl
  ·intro hd E' ay aK au
   refine ah.RJ (fun q=>⟨q.1,.row 52 (bf:List aM) q.2⟩) 2 3 Tc (M9 fh) ⟨ae (aK _ _ rfl),ae (aK _ _ rfl),ae (aK _ _ rfl),trivial⟩ rfl (au 2 _ rfl rfl) (au 3 _ rfl rfl) (fun _=>rfl) rfl fun⟨jx,eU⟩=> ?_
   refine ah.nil ?_
   exact ag.fin (ft [jx,some eU]) rfl rfl
  ·intro hd E' ay aK au
   refine ah.iz (i:=1) (γ:=aM) (b':=(({ aa with dE:= [] } :dr):dr)) (os':= [(10,aV (hd 9 0) bf.length ((hd 9 1).getD 0))]) ((aL.id dr).comp wq) sN (ae (aK _ _ rfl)) (ae (aK _ _ rfl)) hO (au 1 _ rfl rfl) rfl rfl rfl ?_
   refine ah.nil ?_
   exact ag.fin (ft []) rfl rfl
  refine ag.fg (L2:= [⟨some aT,.var (aj:aM)⟩,⟨some cv,.cj (({ aa with dE:= [] } :dr):dr) [(10,aV (jh 9 0) bf.length ((jh 9 1).getD 0))]⟩,⟨(jh 9 0),.row 52 (bf:List aM) ((jh 9 1).getD 0)⟩,⟨none,.dead⟩]) rfl ?_
  refine lD [0,1,3,4,5,6,7,8,9,10,11,12,13,14,15,16,17,18,19,20,21,22,24,25,26,27,28,29,30,31,32,34,35,36,38,39,40] ?_
  refine ag.b6 3 rfl ?_
  refine ag.next ?_
  refine aD ?_
  refine aQ ?_
  refine aN ?_
  refine ai.ret ?_
  refine ag.b6 3 rfl ?_
  refine ag.b6 3 rfl ?_
  obtain rfl:=aI h
  exact kj ((jh 9 0),((jh 9 1).getD 0))
end Go.Proofs.YtmnggbjcnoffeaaGreat
namespace Go.Proofs.YtmnggbjcnoffeaaGreat
open Go Gv
set_option linter.unusedVariables false
set_option linter.unusedSimpArgs false
set_option maxRecDepth 100000
set_option maxHeartbeats 2000000
theorem N6 {aa:a3} {aj:List aM} {aR:Int} {r:a2 × (List a2) × Int} (h:wD aa aj aR=some r):bx Tryz.prog 80 [I.of (aa),I.of (aj),I.of (aR)] (I.cF [I.of (r.1),I.of (r.2.1),I.of (r.2.2)]):=by
 unfold wD at h
 refine bx.ofM Tryz.func80 rfl Tryz.ntmps80 rfl fun W A=> ?_
 refine aD ?_
 refine cd fun aT=> ?_
 refine cd fun a7=> ?_
 refine cG hJ fun bU=> ?_
 refine bp (eG (look_nil (α:=a2))) ?_
 refine aQ ?_
 refine bS ?_
 refine aB ?_
 refine ah.share (α:=Int) 1 5 rfl rfl ?_
 refine bp (uL (F:=(fun fu=>z9 fu aR)) (τs:= [I.ptr aR]) Td ⟨ae rfl,trivial⟩ (fun _ _ h=>Ny h)) ?_
 obtain⟨ak,bB,h⟩:=aw h
 refine dF KM (Hp bB) ?_
 refine aQ ?_
 refine bM ?_
 refine aD ?_
 refine aB ?_
 refine bj dZ ?_
 refine aN ?_
 refine ck h (fun h=>?_) fun h=>?_
 ·refine aD ?_
  refine g2 u2 hJ (default:a2) .nil ?_
  refine ca 0 c0 ?_
  refine bp (eG (look_nil (α:=a2))) ?_
  refine aQ ?_
  refine aN ?_
  refine ai.ret ?_
  refine ag.ret ?_
  obtain rfl:=aI h
  refine ag.yA ?_
  exact ag.ym rfl (eL 0 c0) (kh rfl) (kh rfl)
 ·refine cO ?_
  refine ai.seq ?_
  obtain⟨a4,cw,h⟩:=aw h
  obtain⟨aP,cg,h⟩:=aw h
  refine ai.draw mixed 8 [some 21,some 22,some 23,some 24,some 25,some 26,some 27,some 28] [[],[],[],[1,2],[3],[4],[5],[0,6]] [.val _,.val _,.val _,.val _,.val _,.val _,.val _,.val _] [false,false,false,false,false,false,false,false] (by kernel_rfl) rfl rfl rfl (fun dx=>⟨fA 2 fy,cW,cW,mg cw Tryz.underlying38 cV,nC iL jQ,nC pg uJ,H1 (cL bG),fb BJ (AA cg),trivial⟩) fun dx=> ?_
  refine aQ ?_
  refine bM ?_
  refine aD ?_
  refine aB ?_
  refine bj kX ?_
  refine aB ?_
  refine dU (a0 lp) ?_
  refine eY (fun hb=>gx (i:=2) ((aL.id a3).comp lk) (r:=aa.bH) k1 (cY rfl hb) rfl rfl rfl) ?_
  refine dU cQ ?_
  obtain⟨bZ,c7,h⟩:=aw h
  refine eY (fun hb=>oK (k:=bZ) Tryz.underlying28 fQ (cY rfl hb) (cY rfl hb) (cu (ib c7 hb))) ?_
  refine eY (fun hb=>xY iM kc (cY rfl hb) rfl rfl) ?_
  refine dU (cL jT) ?_
  obtain⟨bc,ek,h⟩:=aw h
  refine eY (fun hb=>hP Te (Nc (ib ek hb)) ⟨cY rfl hb,I5 Tf (fun _ _=>Nz),trivial⟩) ?_
  refine k6 ?_
  refine aN ?_
  refine ck h (fun h=>?_) fun h=>?_
  ·refine aD ?_
   refine g2 u2 hJ (default:a2) .nil ?_
   refine ca 0 c0 ?_
   refine bp (eG (look_nil (α:=a2))) ?_
   refine aQ ?_
   refine aN ?_
   refine ai.ret ?_
   refine ag.ret ?_
   obtain rfl:=aI h
   refine ag.yA ?_
   exact ag.ym rfl (eL 0 c0) (kh rfl) (kh rfl)
  ·refine cO ?_
   refine ai.seq ?_
   obtain⟨dj,fB,h⟩:=aw h
   obtain⟨bf,fh,h⟩:=aw h
   refine ai.draw mixed 12 [some 42,some 43,some 44,some 45,some 46,some 47,some 48,some 41,some 49,some 50,some 11,none] [[],[],[],[1,2],[3],[4],[0,5],[6],[7],[7],[],[8,10]] [.val _,.val _,.val _,.val _,.val _,.val _,.val _,.val _,.val _,.val _,.new (.var (default:a2)),.kJ 10 (.var (bf.1:a2))] [false,false,false,false,false,false,false,false,false,false,false,true] (by kernel_rfl) rfl rfl rfl (fun il=>⟨fA 2 fy,cW,cW,mg fB Tryz.underlying38 cV,nC iL jQ,H1 (cL h5),fb K2 (IH fh),cW,rr,rr,uy hJ,⟨rfl,_,rfl,fun ay q hq=>q0 (i:=q) (aL.id a2) (v:=(bf.1:a2)) (b':=(bf.1:a2)) c0 (ae rfl) (ae rfl) hq rfl rfl⟩,trivial⟩) fun il=> ?_
   refine aQ ?_
   refine bS ?_
   refine ah.nU (z:=(default:List a2)) [0] QQ Tg rfl fun cR=> ?_
   refine ah.own (α:=a2) 155 ?_
   refine bM ?_
   refine ai.seq ?_
   obtain⟨hj,k7,h⟩:=aw h
   obtain⟨cb,gL,h⟩:=aw h
   refine ai.draw mixed 7 [some 51,some 52,some 53,some 54,some 55,some 56,some 57] [[],[],[],[],[2,3],[4],[0,1,5]] [.val _,.val _,.val _,.val _,.val _,.val _,.val _] [false,false,false,false,false,false,false] (by kernel_rfl) rfl rfl rfl (fun s5=>⟨fA 5 fy,cW,cW,cW,mg k7 Tryz.underlying38 cV,H1 (cL cV),fb Th (Oa gL),trivial⟩) fun s5=> ?_
   refine aN ?_
   refine ai.block ?_
   obtain⟨az,aq,h⟩:=aw h
   refine Qd (γ:=(Option Nat × Nat)) (g0:=(none,0)) (Lin:= []) (Ls:=fun s1 ax=> [⟨ax.1,.row 155 (s1.1:List a2) ax.2⟩,⟨some cR,.cj (s1.2:List a2) [(0,aV ax.1 s1.1.length ax.2)]⟩,⟨some (il 10),.var (bf.1:a2)⟩,⟨some bU,.var ((default:a2):a2)⟩,⟨none,.dead⟩,⟨some aT,.var (aa:a3)⟩]) (Lx:=fun aE ax=>Empty.elim aE) (fun aE=>Empty.elim aE) rfl Ti rfl NI aq rfl rfl (fun vz s1 r h ax km kv kn l D rec yY=> ?_) (fun s1 aS ax D=> ?_) (fun aE aS ax D=> ?_)
   ·clear aq
    refine ai.cl ?_
    refine cG hJ fun ts=> ?_
    refine ca 0 c0 ?_
    refine ah.nil ?_
    refine ag.begin 1 rfl yY ?_
    refine ai.block ?_
    refine ai.cl ?_
    refine bp (ie (i:=4) (q:=0) (β:=List a2) (γ:=a2) EW (ae rfl) rfl rfl) ?_
    refine cc 0 c0 ?_
    refine fM [vz] Tryz.underlying156 c0 hJ ?_
    obtain⟨cN,g4,h⟩:=aw h
    refine je 3 Tryz.underlying156 c0 hJ g4 fun gH eU=> ?_
    refine ah.iz (i:=4) (γ:=a2) (b':=([]:List a2)) (os':= [(0,aV gH cN.length eU)]) (aL.id (List a2)) EW (ae rfl) (ae rfl) hO rfl rfl rfl rfl ?_
    refine ah.nil ?_
    refine ag.ea ?_
    obtain rfl:=aI h
    exact ag.L4 (gH,eU) 1 rfl
   ·clear aq; subst aS; simp only [Sum.elim_inl] at h
    refine ag.fg (L2:= [⟨some D,.di⟩,⟨ax.1,.row 155 (s1.1:List a2) ax.2⟩,⟨some cR,.cj (s1.2:List a2) [(0,aV ax.1 s1.1.length ax.2)]⟩,⟨some (il 10),.var (bf.1:a2)⟩,⟨some bU,.var ((default:a2):a2)⟩,⟨none,.dead⟩,⟨some aT,.var (aa:a3)⟩]) rfl ?_
    refine ag.ea ?_
    refine ag.next ?_
    refine ai.seq ?_
    refine ai.draw mixed 3 [some 63,some 64,none] [[],[],[0]] [.val _,.val _,.jB 4 (.var (bf.1:a2))] [false,false,true] (by kernel_rfl) rfl rfl rfl (fun FO=>⟨fA 3 c0,dT fun ay au=>ie (i:=2) (q:=0) (β:=List a2) (γ:=a2) EW (ae rfl) (au _ _ rfl (by kernel_rfl)) rfl,⟨_,_,rfl,fun ay au=>q0 (i:=4) (aL.id a2) (v:=(bf.1:a2)) (b':=(bf.1:a2)) c0 (ae rfl) (ae rfl) (au _ _ rfl) rfl rfl⟩,trivial⟩) fun FO=> ?_
    refine aQ ?_
    refine aQ ?_
    refine aN ?_
    refine ai.ret ?_
    refine ag.rf (β:=List a2) (γ:=a2) (b':=(s1.1:List a2)) (aL.id (List a2)) 2 1 0 7 rfl rfl rfl rfl rfl rfl rfl ?_
    refine ag.mI 2 rfl ?_
    obtain rfl:=aI h
    refine ag.BL 0 rfl rfl ?_
    exact ag.ym rfl (eL 4 c0) (kh rfl) (kh rfl)
   ·exact Empty.elim aE
theorem NK {hp:bb Cell} {y:gr} {aa:bE} {r:Int × Bool} (h:CP hp y aa=some r):mE Tryz.prog "matchguard/index.find" (I.of y) [I.of (aa)] ([] ++ bd hp) (δ:=Unit) (fun _=>I.cF [I.of (r.1),I.of (r.2)]) (fun _=> [] ++ bd hp):=by
 cases y with
 | nil=>cases h
 | mN z=>exact mE.of PD (fun A W u hu=>II hu) (NO h)
 | mO z=>exact mE.of PE (fun A W u hu=>IJ hu) (NA h)
 | mP z=>exact mE.of PF (fun A W u hu=>IK hu) (NS h)
theorem N1 {hp:bb Cell} {aa:jr} {aj:aM} {Q:(bb Cell)→Prop} (h:wC hp aa aj Q):cz Tryz.prog 262 [I.of (aa),I.of (aj)] ([] ++ bd hp) (δ:= {r:(bb Cell) // Q r} × Unit) (fun d=>I.cF []) (fun d=> [] ++ bd d.1.1):=by
 unfold wC at h
 refine cz.of Tryz.func262 rfl Tryz.ntmps262 rfl fun W A=> ?_
 refine aD ?_
 refine cd fun aT=> ?_
 refine cd fun a7=> ?_
 refine aN ?_
 refine ai.cl ?_
 refine aW (a0 JE) ?_
 refine b3 1 CU EV ?_
 refine cc 0 cV ?_
 obtain⟨dK,fz,h⟩:=aG.cT h
 obtain⟨cK,hg,h⟩:=aG.cT h
 obtain⟨ak,bB,h⟩:=aG.cT h
 refine ah.MN (gM.obj 2 (fun q:Option Nat × Nat=>Cell.rk ak.2 q.1 q.2) rfl (xM hg) Tj (Nt bB) rfl (fun _=>rfl) ⟨gQ (ae rfl) fz,ae rfl,trivial⟩) rfl rfl rfl fun aE=> ?_
 replace h:=aG.any_bind h aE
 obtain⟨dy,n6,h⟩:=aG.cT h
 refine ah.fg (L2:=(⟨some a7,.var (aj:aM)⟩ :: ⟨some aT,.var (aa:jr)⟩ :: bd dy)) (by rw [← aI n6]; rfl) ?_
 refine ah.nil ?_
 refine ag.vg ?_
 exact ag.pN (⟨⟨dy,h⟩,()⟩: {r // _} × _) (.cons _ (.cons _ (.refl _))) rfl rfl
end Go.Proofs.YtmnggbjcnoffeaaGreat
namespace Go.Proofs.YtmnggbjcnoffeaaGreat
open Go Gv
set_option linter.unusedVariables false
set_option linter.unusedSimpArgs false
set_option maxRecDepth 100000
set_option maxHeartbeats 2000000
theorem AB {aa:a3} {aj:List aM} {aR:Int} {r:Bool × Int} (h:qD aa aj aR=some r):bx Tryz.prog 37 [I.of (aa),I.of (aj),I.of (aR)] (I.cF [I.of (r.1),I.of (r.2)]):=by
 unfold qD at h
 refine bx.of Tryz.func37 rfl Tryz.ntmps37 rfl fun W A=> ?_
 refine aD ?_
 refine cd fun aT=> ?_
 refine aQ ?_
 refine aQ ?_
 refine bS ?_
 refine cc 0 fy ?_
 refine aB ?_
 refine aB ?_
 obtain⟨ak,bB,h⟩:=aw h
 refine dF Ux (N6 bB) ?_
 refine aB ?_
 refine gf ?_
 refine gf ?_
 refine gf ?_
 refine cG hJ fun a7=> ?_
 refine ca 0 c0 ?_
 refine aQ ?_
 refine aQ ?_
 refine bM ?_
 refine aD ?_
 refine aB ?_
 refine bj sC ?_
 refine aN ?_
 refine ck h (fun h=>?_) fun h=>?_
 ·refine aD ?_
  refine aB ?_
  refine aQ ?_
  refine aQ ?_
  refine aN ?_
  refine ai.ret ?_
  refine ag.ret ?_
  obtain rfl:=aI h
  exact s3
 ·refine cO ?_
  refine aD ?_
  refine cc 0 c0 ?_
  refine aB ?_
  obtain⟨aP,cg,h⟩:=aw h
  refine dF Uy (Oj cg) ?_
  refine gf ?_
  refine gf ?_
  refine aQ ?_
  refine aQ ?_
  refine aN ?_
  refine ai.ret ?_
  obtain rfl:=aI h
  exact s3
theorem NT {hp:bb Cell} {y:gr} {aa:aM} {Q:(bb Cell)→Prop} (h:CV hp y aa Q):mE Tryz.prog "matchguard/index.put" (I.of y) [I.of (aa)] ([] ++ bd hp) (δ:= {r:(bb Cell) // Q r} × Unit) (fun d=>I.cF []) (fun d=> [] ++ bd d.1.1):=by
 cases y with
 | nil=>exact h.elim
 | mN z=>
   obtain⟨r,J,ab⟩:=h
   exact mE.of PG (fun A W u hu=>II hu) (cz.map (fun d=>(⟨r,ab⟩,d)) (fun _=>rfl) (fun _=>rfl) (NZ J))
 | mO z=>exact mE.of PH (fun A W u hu=>IJ hu) (NJ h)
 | mP z=>exact mE.of PI (fun A W u hu=>IK hu) (N1 h)
end Go.Proofs.YtmnggbjcnoffeaaGreat
namespace Go.Proofs.YtmnggbjcnoffeaaGreat
open Go Gv
set_option linter.unusedVariables false
set_option linter.unusedSimpArgs false
set_option maxRecDepth 100000
set_option maxHeartbeats 2000000
theorem OD {r:Bool} (h:AD=some r):bx Tryz.prog 38 [] (I.of (r)):=by
 unfold AD at h
 refine bx.of Tryz.func38 rfl Tryz.ntmps38 rfl fun W A=> ?_
 refine aD ?_
 refine aQ ?_
 refine bS ?_
 obtain⟨ak,bB,h⟩:=aw h
 refine eD 0 Fm (C8 bB) fun aE=> ?_
 refine ah.b6 0 rfl ?_
 obtain⟨aP,cg,h⟩:=aw h
 refine eD 1 LG (Hz cg) fun da=> ?_
 refine cG yz fun aT=> ?_
 refine ca 0 fy ?_
 refine bS ?_
 obtain⟨bc,ek,h⟩:=aw h
 refine ah.B5 Tryz.underlying47 gA lx rfl (by kernel_rfl) (bz 2) (bz 2) ek rfl fun gH=> ?_
 refine ah.freeze (α:=ch) 0 10 rfl rfl ?_
 obtain⟨bk,dc,h⟩:=aw h
 refine cZ dc (cC (b:=({ (default:bE) with dq:=3,cA:=bc,gF:=5,kB:=1 } :bE)) rfl Fo vf (.cons pg rfl (bz 3) rfl (.cons jM rfl (ae rfl) rfl (.cons nN rfl (bz 5) rfl (.cons Ab rfl (bz 1) rfl (.nil)))))) ?_
 obtain⟨c8,ho,h⟩:=aw h
 refine cZ ho (cC (b:=({ (default:aM) with b5:=bk,cy:=1 } :aM)) rfl Fp h6 (.cons iL rfl (ae rfl) rfl (.cons jL rfl (bz 1) rfl (.nil)))) ?_
 refine cG h6 fun a7=> ?_
 refine ca 0 cV ?_
 refine bS ?_
 obtain⟨bf,fh,h⟩:=aw h
 refine ah.B5 Tryz.underlying47 gA lx rfl (by kernel_rfl) (bz 2) (bz 2) fh rfl fun jx=> ?_
 refine ah.freeze (α:=ch) 0 13 rfl rfl ?_
 obtain⟨e8,jf,h⟩:=aw h
 refine cZ jf (cC (b:=({ (default:bE) with dq:=3,cA:=bf,gF:=4,kB:=1 } :bE)) rfl Fo vf (.cons pg rfl (bz 3) rfl (.cons jM rfl (ae rfl) rfl (.cons nN rfl (bz 4) rfl (.cons Ab rfl (bz 1) rfl (.nil)))))) ?_
 obtain⟨gN,lF,h⟩:=aw h
 refine cZ lF (cC (b:=({ (default:aM) with b5:=e8,cy:=2 } :aM)) rfl Fp h6 (.cons iL rfl (ae rfl) rfl (.cons jL rfl (bz 2) rfl (.nil)))) ?_
 refine cG h6 fun bU=> ?_
 refine ca 0 cV ?_
 refine bS ?_
 refine cc 4 fy ?_
 refine cc 2 cV ?_
 refine cc 0 cV ?_
 refine fM [c8,gN] Tryz.underlying38 cV h6 ?_
 obtain⟨cb,gL,h⟩:=aw h
 refine dF BO (AB gL) ?_
 refine aB ?_
 refine gf ?_
 refine gf ?_
 refine aQ ?_
 refine aQ ?_
 refine bS ?_
 refine cc 4 fy ?_
 refine cc 2 cV ?_
 refine cc 0 cV ?_
 refine fM [c8,gN] Tryz.underlying38 cV h6 ?_
 obtain⟨cN,g4,h⟩:=aw h
 refine dF BO (AB g4) ?_
 refine aB ?_
 refine gf ?_
 refine gf ?_
 refine aQ ?_
 refine aQ ?_
 refine bS ?_
 refine aB ?_
 refine aB ?_
 refine dU cQ ?_
 refine dU ju ?_
 refine k6 ?_
 refine aB ?_
 refine dU cQ ?_
 refine jX gb ?_
 refine k6 ?_
 refine aB ?_
 refine dU cQ ?_
 refine jX gb ?_
 refine k6 ?_
 refine aQ ?_
 refine aN ?_
 refine ai.ret ?_
 obtain rfl:=aI h
 exact c9
end Go.Proofs.YtmnggbjcnoffeaaGreat
namespace Go.Proofs.YtmnggbjcnoffeaaGreat
open Go Gv
set_option linter.unusedVariables false
set_option linter.unusedSimpArgs false
set_option maxRecDepth 100000
set_option maxHeartbeats 2000000
theorem OY {hp:bb Cell} {aa:a3} {aj:Int} {Q:Ref × (bb Cell)→Prop} (h:uq hp aa aj Q):cz Tryz.prog 39 [I.of (aa),I.of (aj)] ([] ++ bd hp) (δ:= {r:Ref × (bb Cell) // Q r} × Unit) (fun d=>I.of (d.1.1.1)) (fun d=> [] ++ bd d.1.1.2):=by
 unfold uq at h
 refine cz.of Tryz.func39 rfl Tryz.ntmps39 rfl fun W A=> ?_
 refine aD ?_
 refine cd fun aT=> ?_
 refine bp (eG (qG)) ?_
 refine bS ?_
 refine cc 0 fy ?_
 refine aB ?_
 obtain⟨ak,bB,h⟩:=aG.cT h
 refine dF BJ (AA bB) ?_
 refine aQ ?_
 refine bM ?_
 refine aD ?_
 refine aB ?_
 refine bj dZ ?_
 refine aN ?_
 refine ai.cond (ae rfl) (fun ar=> ?_) (fun ar=> ?_)
 ·replace h:=qU ar h
  refine aD ?_
  refine bp (eG (qG)) ?_
  refine aN ?_
  refine ai.ret ?_
  refine ag.ret ?_
  exact ag.gR (⟨⟨((none:Ref),hp),h⟩,()⟩: {r // _} × _) (.cons _ (.refl _)) rfl rfl (fP rfl)
 ·replace h:=qV ar h
  refine cO ?_
  refine aD ?_
  refine aW (a0 lp) ?_
  refine b3 0 lk k1 ?_
  refine aB ?_
  obtain⟨a4,cw,h⟩:=aG.cT h
  refine fL cw Tryz.underlying28 fQ ?_
  refine aW (cL fQ) ?_
  refine cG k2 fun a7=> ?_
  refine ca 0 fQ ?_
  refine bS ?_
  refine cc 0 fQ ?_
  obtain⟨aP,cg,h⟩:=aG.cT h
  refine dF Uz (Oq cg) ?_
  refine aB ?_
  refine gf ?_
  refine gf ?_
  refine aQ ?_
  refine aQ ?_
  refine bS ?_
  refine aB ?_
  refine aW (a0 kc) ?_
  refine b3 0 iM jT ?_
  refine aW (eJ Tryz.underlying62) ?_
  refine ah.D9 (α:=Int) (β:=aM) 2 rfl (Cell.k3 ([]:List (Int × aM))) (fun _=>rfl) rfl fun eg s4=> ?_
  replace h:=aG.qT h eg s4
  obtain⟨bk,dc,h⟩:=aG.cT h
  refine cZ dc (cC (b:=({ (default:gZ) with pI:=aP.1,pJ:=(((aA aa.bH a4).b1).length:Int),lV:=(⟨some eg.1⟩:fR) } :gZ)) rfl Tk Tl (.cons NB rfl (ae rfl) rfl (.cons NC rfl (ae rfl) rfl (.cons CE rfl (ae rfl) rfl (.nil))))) ?_
  refine ah.yl 2 rfl (Cell.me bk) (fun _=>rfl) (ae rfl) rfl fun ei yV=> ?_
  replace h:=aG.qT h ei yV
  refine aQ ?_
  refine bM ?_
  refine aD ?_
  refine aB ?_
  refine aN ?_
  refine ai.block ?_
  refine aD ?_
  refine bj gb ?_
  refine aQ ?_
  refine aN ?_
  refine ai.xB (γ:=Unit) h (fun bO ax=> [(0,I.of (aa)),(1,I.of (aj)),(2,I.eq (.pointer (some ⟨aT,0,none⟩))),(4,I.of (none:Ref)),(5,I.of (ak)),(6,I.eq (.pointer (some ⟨a7,0,none⟩))),(7,I.of (aP.1)),(8,I.of (aP.2)),(9,I.of (some ei.1:Ref)),(16,I.of (decide (ak < 0))),(34,I.of (aP.1)),(42,I.of (aP.1 ==1))]) (fun bO ax=>(⟨some a7,.var (aA aa.bH a4:bN)⟩ :: ⟨some aT,.var (aa:a3)⟩ :: bd bO)) (ae rfl) (fun bO ax h=> ?_) (fun hm ar h=> ?_) (fun hm ar h=> ?_)
  ·refine ag.ea ?_
   refine ag.next ?_
   refine aD ?_
   refine aB ?_
   refine aQ ?_
   refine aN ?_
   refine ai.ret ?_
   exact ag.gR (⟨⟨((some ei.1:Ref),bO),h⟩,()⟩: {r // _} × _) (.cons _ (.cons _ (.refl _))) rfl rfl (fP rfl)
  ·refine ai.cl ?_
   refine aB ?_
   refine ah.mH 2 0 rfl UA (OV h) rfl rfl trivial rfl fun⟨⟨bc,h⟩,aE⟩=> ?_
   refine ah.fg (L2:=(⟨some a7,.var (aA aa.bH a4:bN)⟩ :: ⟨some aT,.var (aa:a3)⟩ :: bd bc.2)) rfl ?_
   refine g2 Tm Tn { qc:=bc.1:kb } (ij CQ .nil) ?_
   refine bp (Eh Tryz.underlying166 rfl (ae rfl) (fun _ _ _ h=>PJ h)) ?_
   refine bp (fw (gQ (ae rfl) rfl)) ?_
   refine aW (a0 xq) ?_
   obtain⟨cK,hg,h⟩:=aG.cT h
   obtain⟨dy,n6,h⟩:=aG.cT h
   refine ah.oH (k':=Cell.me ({ cK with js:=(gr.mN ({ qc:=bc.1:kb })) } :gZ)) 2 rfl ((aL.id gZ).comp v3) (v:=((gr.mN ({ qc:=bc.1:kb })):gr)) va (ae rfl) (ae rfl) (pK hg) rfl rfl rfl rfl (aI n6) ?_
   refine ah.nil ?_
   exact dI 0 (hm dy () h)
  ·refine aD ?_
   refine bj gb ?_
   refine aQ ?_
   refine aN ?_
   refine ai.xB (γ:=Unit) h (fun cD a1=> [(0,I.of (aa)),(1,I.of (aj)),(2,I.eq (.pointer (some ⟨aT,0,none⟩))),(4,I.of (none:Ref)),(5,I.of (ak)),(6,I.eq (.pointer (some ⟨a7,0,none⟩))),(7,I.of (aP.1)),(8,I.of (aP.2)),(9,I.of (some ei.1:Ref)),(16,I.of (decide (ak < 0))),(34,I.of (aP.1)),(42,I.of (aP.1 ==1)),(50,I.of (aP.1 ==2))]) (fun cD a1=>(⟨some a7,.var (aA aa.bH a4:bN)⟩ :: ⟨some aT,.var (aa:a3)⟩ :: bd cD)) (ae rfl) (fun cD a1 h=> ?_) (fun hm ar h=> ?_) (fun hm ar h=> ?_)
   ·exact dI 0 (hm cD () h)
   ·refine aD ?_
    refine aQ ?_
    refine bM ?_
    refine ai.seq ?_
    obtain⟨bZ,c7,h⟩:=aG.cT h
    obtain⟨bf,fh,h⟩:=aG.cT h
    refine ai.draw mixed 8 [some 52,some 53,some 54,some 55,some 56,some 57,some 58,some 59] [[],[],[1],[],[2,3],[4],[5],[0,6]] [.val _,.val _,.val _,.val _,.val _,.val _,.val _,.val _] [false,false,false,false,false,false,false,false] (by kernel_rfl) rfl rfl rfl (fun dx=>⟨fA 1 fy,H1 (a0 kc),ee 0 iM jT,cW,mg c7 Tryz.underlying62 hS,nC m8 Ef,H1 (cL bG),fb LF (HL fh),trivial⟩) fun dx=> ?_
    refine aQ ?_
    refine bS ?_
    refine aB ?_
    refine bj kX ?_
    refine aN ?_
    obtain⟨fj,hh,h⟩:=aG.cT h
    refine ai.dt (γ:=Unit) (fun br=> [(0,I.of (aa)),(1,I.of (aj)),(2,I.eq (.pointer (some ⟨aT,0,none⟩))),(4,I.of (none:Ref)),(5,I.of (ak)),(6,I.eq (.pointer (some ⟨a7,0,none⟩))),(7,I.of (aP.1)),(8,I.of (aP.2)),(9,I.of (some ei.1:Ref)),(10,I.of (fj)),(11,I.of (bf)),(16,I.of (decide (ak < 0))),(34,I.of (aP.1)),(42,I.of (aP.1 ==1)),(50,I.of (aP.1 ==2)),(61,I.of (decide (bf≥0)))]) (fun br=>(⟨some a7,.var (aA aa.bH a4:bN)⟩ :: ⟨some aT,.var (aa:a3)⟩ :: bd ei.2)) (ae rfl) (fun br=> ?_) (fun hm ar=> ?_) (fun hm ar=> ?_)
    ·clear hh
     refine ag.next ?_
     refine ai.cl ?_
     refine aB ?_
     refine aB ?_
     refine aB ?_
     refine ah.D9 (α:=Vector ao 4) (β:=Ref) 2 rfl (Cell.mc ([]:List ((Vector ao 4) × Ref))) (fun _=>rfl) rfl fun jn Vi=> ?_
     replace h:=aG.qT h jn Vi
     obtain⟨c8,ho,h⟩:=aG.cT h
     refine cZ ho (cC (b:= { pT:=aP.2,eN:=fj,fv:=(⟨some jn.1⟩:fR):ef }) rfl To Tp (.cons vZ rfl (ae rfl) rfl (.cons rX rfl (ae rfl) rfl (.cons m6 rfl (ae rfl) rfl (.nil))))) ?_
     refine bp (Eh Tryz.underlying169 rfl (ae rfl) (fun _ _ _ h=>PK h)) ?_
     refine bp (fw (gQ (ae rfl) rfl)) ?_
     refine aW (a0 xq) ?_
     obtain⟨dL,ik,h⟩:=aG.cT h
     obtain⟨eE,vj,h⟩:=aG.cT h
     refine ah.oH (k':=Cell.me ({ dL with js:=(gr.mO c8) } :gZ)) 2 rfl ((aL.id gZ).comp v3) (v:=((gr.mO c8):gr)) va (ae rfl) (ae rfl) (pK ik) rfl rfl rfl rfl (aI vj) ?_
     refine ah.nil ?_
     exact dI 0 (hm eE () h)
    ·have h:=ht ar hh
     refine ai.cl ?_
     refine aW (a0 uK) ?_
     refine b3 1 tJ sM ?_
     refine aB ?_
     obtain⟨dj,fB,h⟩:=aw h
     refine fL fB Tryz.underlying24 n0 ?_
     refine vy m7 DP ?_
     refine aW (cL bG) ?_
     refine aQ ?_
     refine ah.nil ?_
     obtain rfl:=aI h
     exact dI 0 (hm ())
    ·have h:=hv ar hh
     refine ai.skip ?_
     obtain rfl:=aI h
     exact dI 0 (hm ())
   ·refine ai.cl ?_
    refine aB ?_
    refine cc 1 fy ?_
    obtain⟨cb,gL,h⟩:=aG.cT h
    refine eD 0 UB (N4 gL) fun da=> ?_
    refine ah.Tq 4 2 (Cell.rk cb da.2.1 da.2.2) rfl rfl rfl rfl List.mem_cons_self fun lO Vj Vk=> ?_
    replace h:=h (da.2.1,da.2.2) lO Vj
    refine ah.Tr 37 rfl Vk ?_
    refine g2 Ts Tt { dE:=(some lO.1:Ref):jr } (ij CU .nil) ?_
    refine bp (Eh Tryz.underlying173 rfl (ae rfl) (fun _ _ _ h=>PL h)) ?_
    refine bp (fw (gQ (ae rfl) rfl)) ?_
    refine aW (a0 xq) ?_
    obtain⟨fV,mU,h⟩:=aG.cT h
    obtain⟨hV,Fi,h⟩:=aG.cT h
    refine ah.oH (k':=Cell.me ({ fV with js:=(gr.mP ({ dE:=(some lO.1:Ref):jr })) } :gZ)) 2 rfl ((aL.id gZ).comp v3) (v:=((gr.mP ({ dE:=(some lO.1:Ref):jr })):gr)) va (ae rfl) (ae rfl) (pK mU) rfl rfl rfl rfl (aI Fi) ?_
    refine ah.nil ?_
    exact dI 0 (hm hV () h)
end Go.Proofs.YtmnggbjcnoffeaaGreat
namespace Go.Proofs.YtmnggbjcnoffeaaGreat
open Go Gv
set_option linter.unusedVariables false
set_option linter.unusedSimpArgs false
set_option maxRecDepth 100000
set_option maxHeartbeats 2000000
theorem NU {aa:bw} {aj:a3} {aR:cn} {cv:Nat} {r:ch × bw} (h:wz aa aj aR=some r):cz Tryz.prog 75 [I.eq (.pointer (some ⟨cv,0,none⟩)),I.of (aj),I.of (aR)] [⟨some cv,.var (aa:bw)⟩] (δ:=Unit) (fun d=>I.of (r.1)) (fun d=> [⟨some cv,.var (r.2:bw)⟩]):=by
 unfold wz at h
 refine cz.of Tryz.func75 rfl Tryz.ntmps75 rfl fun W A=> ?_
 refine aD ?_
 refine cd fun aT=> ?_
 refine cd fun a7=> ?_
 refine cG lx fun bU=> ?_
 refine bS ?_
 refine cc 2 fy ?_
 refine aW (a0 Ef) ?_
 refine b3 1 m8 bG ?_
 obtain⟨ak,bB,h⟩:=aw h
 refine dF Tu (Ot bB) ?_
 refine aQ ?_
 refine bS ?_
 refine aB ?_
 refine ah.b6 3 rfl ?_
 obtain⟨aP,cg,h⟩:=aw h
 refine eD 1 gd (fX cg) fun aE=> ?_
 refine aW (iy Tryz.underlying3 Tryz.underlying41) ?_
 refine bp (nd (ae rfl) (hc 24 rfl)) ?_
 refine aB ?_
 refine ah.b6 0 rfl ?_
 obtain⟨bc,ek,h⟩:=aw h
 refine eD 1 gd (fX ek) fun da=> ?_
 refine aW (iy Tryz.underlying3 Tryz.underlying41) ?_
 refine bp (nd (ae rfl) (hc 8 rfl)) ?_
 obtain⟨bk,dc,h⟩:=aw h
 refine cZ dc (uI (ae rfl) (ae rfl)) ?_
 refine aB ?_
 refine ah.b6 0 rfl ?_
 obtain⟨bf,fh,h⟩:=aw h
 refine eD 1 gd (fX fh) fun fi=> ?_
 refine aW (iy Tryz.underlying3 Tryz.underlying41) ?_
 refine bj uI ?_
 obtain⟨c8,ho,h⟩:=aw h
 refine cZ ho (cC (b:=({ (default:ao) with bY:=bk ||| (BitVec.ofInt 64 bf.1) } :ao)) rfl gS dP (.cons ev rfl (ae rfl) rfl (.nil))) ?_
 refine aB ?_
 obtain⟨cb,gL,h⟩:=aw h
 refine dF Fq (C9 gL) ?_
 refine cG dP fun cR=> ?_
 refine ca 0 bT ?_
 refine bM ?_
 refine aD ?_
 refine aW (a0 pB) ?_
 refine b3 3 ka bG ?_
 refine aN ?_
 refine ai.block ?_
 refine aD ?_
 refine bj gb ?_
 refine aQ ?_
 refine aN ?_
 refine ck h (fun h=>?_) fun h=>?_
 ·refine aD ?_
  refine aB ?_
  refine ah.b6 1 rfl ?_
  obtain⟨cN,g4,h⟩:=aw h
  refine eD 1 gd (fX g4) fun iq=> ?_
  refine bj mJ ?_
  refine aN ?_
  refine ck h (fun h=>?_) fun h=>?_
  ·refine aD ?_
   refine aB ?_
   refine aB ?_
   refine aB ?_
   refine ah.b6 0 rfl ?_
   obtain⟨dm,kK,h⟩:=aw h
   refine eD 1 gd (fX kK) fun dM=> ?_
   refine bj dg ?_
   refine fM [ak,8,16,1,bD (1 + dm.1)] Tryz.underlying63 bG hy ?_
   refine aB ?_
   refine ah.b6 0 rfl ?_
   obtain⟨et,kk,h⟩:=aw h
   refine eD 1 gd (fX kk) fun g8=> ?_
   obtain⟨a4,cw,h⟩:=aw h
   refine fL cw Tryz.underlying63 bG ?_
   refine aW (cL bG) ?_
   refine aQ ?_
   refine bM ?_
   obtain⟨fk,mT,h⟩:=aw h
   obtain⟨e8,jf,h⟩:=aw h
   obtain⟨gN,lF,h⟩:=aw h
   refine ai.draw mixed 10 [some 51,some 52,some 53,some 54,some 55,some 56,some 57,some 58,some 59,some 60] [[],[],[1],[],[],[3,4],[5],[2,6],[7],[0,8]] [.val _,.val _,.val _,.val _,.val _,.val _,.val _,.val _,.val _,.val _] [false,false,false,false,false,false,false,false,false,false] (by kernel_rfl) rfl rfl rfl (fun dx=>⟨cW,H1 (a0 jP),ee 1 ev fH,cW,cW,fb Tv (OI mT),dT fun ay au=>DN ev J7 fH rfl (ae rfl) rfl rfl,mZ si,GX jf fun ay au=>cC (b:=({ (default:ao) with bY:=cb.bY &&& fk.bY } :ao)) rfl gS dP (.cons ev rfl (ae rfl) rfl (.nil)),GX lF fun ay au=>cC (b:=({ (default:ch) with h1:=true,gw:=aA [ak,8,16,1,bD (1 + dm.1)] a4,bR:=e8 } :ch)) rfl sU lx (.cons rY rfl (fr true) rfl (.cons rZ rfl (ae rfl) rfl (.cons qz rfl (ae rfl) rfl (.nil)))),trivial⟩) fun dx=> ?_
   refine ca 2 gA ?_
   refine aN ?_
   refine ai.ret ?_
   refine ag.eC ?_
   refine ag.ret ?_
   refine ag.b6 0 rfl ?_
   obtain rfl:=aI h
   exact ag.gR () (.cons_cons _ (List.nil_sublist _)) rfl rfl (nq (i:=2) gA rfl rfl)
  ·refine ai.skip ?_
   refine ag.ea ?_
   refine ag.next ?_
   refine aD ?_
   refine g2 sU lx (default:ch) .nil ?_
   refine ca 2 gA ?_
   refine aN ?_
   refine ai.ret ?_
   refine ag.b6 0 rfl ?_
   obtain rfl:=aI h
   exact ag.gR () (.cons_cons _ (List.nil_sublist _)) rfl rfl (nq (i:=2) gA rfl rfl)
 ·refine aD ?_
  refine bj gb ?_
  refine aQ ?_
  refine aN ?_
  refine ck h (fun h=>?_) fun h=>?_
  ·refine aD ?_
   refine aB ?_
   refine ah.b6 1 rfl ?_
   obtain⟨hz,p0,h⟩:=aw h
   refine eD 1 gd (fX p0) fun Cy=> ?_
   refine fM ([255,15,1,12,hz.1]:List Int) Tryz.underlying63 bG hy ?_
   refine aB ?_
   refine ah.b6 0 rfl ?_
   obtain⟨iR,sR,h⟩:=aw h
   refine eD 1 gd (fX sR) fun GW=> ?_
   obtain⟨bZ,c7,h⟩:=aw h
   refine fL c7 Tryz.underlying63 bG ?_
   refine aW (cL bG) ?_
   refine aW (iy Tryz.underlying3 Tryz.underlying41) ?_
   obtain⟨gO,mR,h⟩:=aw h
   refine cZ mR (cC (b:=({ (default:ao) with bY:=BitVec.ofInt 64 (aA ([255,15,1,12,hz.1]:List Int) bZ) } :ao)) rfl gS dP (.cons ev rfl (ae rfl) rfl (.nil))) ?_
   refine aB ?_
   obtain⟨h7,sS,h⟩:=aw h
   refine dF Fq (C9 sS) ?_
   refine cG dP fun ts=> ?_
   refine ca 0 bT ?_
   refine bS ?_
   refine aW (a0 jP) ?_
   refine b3 0 ev fH ?_
   refine bp (QR (ae rfl) (hc 0 rfl)) ?_
   refine aN ?_
   refine ck h (fun h=>?_) fun h=>?_
   ·refine aD ?_
    refine cc 0 bT ?_
    refine aW (a0 jP) ?_
    refine b3 2 ev fH ?_
    refine aW (a0 jP) ?_
    refine b3 0 ev fH ?_
    refine bj si ?_
    obtain⟨jm,p8,h⟩:=aw h
    refine cZ p8 (cC (b:=({ (default:ao) with bY:=cb.bY &&& h7.bY } :ao)) rfl gS dP (.cons ev rfl (ae rfl) rfl (.nil))) ?_
    obtain⟨iU,p9,h⟩:=aw h
    refine cZ p9 (cC (b:=({ (default:ch) with h1:=true,bK:=h7,bR:=jm } :ch)) rfl sU lx (.cons rY rfl (fr true) rfl (.cons An rfl (ae rfl) rfl (.cons qz rfl (ae rfl) rfl (.nil))))) ?_
    refine ca 3 gA ?_
    refine aN ?_
    refine ai.ret ?_
    refine ag.eC ?_
    refine ag.ret ?_
    refine ag.b6 1 rfl ?_
    obtain rfl:=aI h
    exact ag.gR () (.cons_cons _ (List.nil_sublist _)) rfl rfl (nq (i:=3) gA rfl rfl)
   ·refine ai.skip ?_
    refine ag.ea ?_
    refine ag.next ?_
    refine aD ?_
    refine g2 sU lx (default:ch) .nil ?_
    refine ca 3 gA ?_
    refine aN ?_
    refine ai.ret ?_
    refine ag.b6 1 rfl ?_
    obtain rfl:=aI h
    exact ag.gR () (.cons_cons _ (List.nil_sublist _)) rfl rfl (nq (i:=3) gA rfl rfl)
  ·refine aD ?_
   refine bj gb ?_
   refine aQ ?_
   refine aN ?_
   refine ck h (fun h=>?_) fun h=>?_
   ·refine ai.seq ?_
    obtain⟨jg,yx,h⟩:=aw h
    obtain⟨gV,qa,h⟩:=aw h
    refine k5 [0,1,2,4,5,6,7,8,12,13,14,15,16,17,18,19,20,21,22,23,24,25,26,27,28,29,30,31,32,33,36,37,61,62,85,86] ?_
    refine ai.jS mixed (bq 87 [] [] _ :: bq 88 (0 :: []) (0 :: []) _ :: bq 89 [] [] _ :: ⟨some 90,(2 :: []),(1 :: []),(1 :: []),fun _=>I.of (jg.1),fun hd _=>⟨some cv,.var (jg.2:bw)⟩⟩ :: bq 91 (3 :: []) [] _ :: bq 92 (1 :: 4 :: []) [] _ :: bq 93 [] [] _ :: bq 94 (6 :: []) [] _ :: bq 95 (7 :: []) [] _ :: bq 96 (8 :: []) [] _ :: bq 97 (5 :: 9 :: []) [] _ :: bq 11 (10 :: []) [] _ :: []) _ (0 :: 1 :: 2 :: 4 :: 5 :: 6 :: 7 :: 8 :: 12 :: 13 :: 14 :: 15 :: 16 :: 17 :: 18 :: 19 :: 20 :: 21 :: 22 :: 23 :: 24 :: 25 :: 26 :: 27 :: 28 :: 29 :: 30 :: 31 :: 32 :: 33 :: 36 :: 37 :: 61 :: 62 :: 85 :: 86 :: []) rfl rfl (by kernel_rfl) ⟨fD (a0 jP),oZ 0 ev fH,gW,?_,fD (iy Tryz.underlying3 Tryz.underlying41),Cx QS,gW,fD (iy Tryz.underlying3 Tryz.underlying130),cS fun hd E' ay aK au=>nd (hc 1 rfl) (ae (aK _ _ rfl)),cS fun hd E' ay aK au=>sj (ae (aK _ _ rfl)) (hc 1 rfl),cS fun hd E' ay aK au=>(Qe (ae (aK _ _ rfl)) (ae (aK _ _ rfl))).as (aI qa),cS fun hd E' ay aK au=>eG (ae (aK _ _ rfl)),trivial⟩ fun gp=> ?_
    ·intro hd E' ay aK au
     refine ah.b6 1 (au 1 _ rfl rfl) ?_
     refine ah.lu (Lin:= [⟨some cv,.var (bf.2:bw)⟩]) (Lr:=ay.eraseIdx 1) gd (fX yx) ⟨ae (aK _ _ rfl),bz 256,trivial⟩ rfl fun pb=> ?_
     refine ah.nil ?_
     refine ag.back 1 (au 1 _ rfl rfl) ?_
     exact ag.fin (ft []) rfl rfl
    refine ag.fg (L2:= [⟨some cR,.var (cb:ao)⟩,⟨some cv,.var (jg.2:bw)⟩,⟨some bU,.var ((default:ch):ch)⟩,⟨some a7,.var (aR:cn)⟩,⟨some aT,.var (aj:a3)⟩]) rfl ?_
    refine lD [0,1,2,4,5,6,7,8,11,12,13,14,15,16,17,18,19,20,21,22,23,24,25,26,27,28,29,30,31,32,33,36,37,61,62,85,86,87,88,89,90,91,92,93,94,95,96,97] ?_
    refine ag.next ?_
    refine aD ?_
    refine aB ?_
    refine ah.b6 1 rfl ?_
    obtain⟨kl,yy,h⟩:=aw h
    refine eD 1 gd (fX yy) fun FM=> ?_
    refine bj mJ ?_
    refine aB ?_
    refine dU (a0 jP) ?_
    refine eY (fun hb=>gx (i:=1) ((aL.id ao).comp ev) (r:=cb.bY) fH (cY rfl hb) rfl rfl rfl) ?_
    refine eY (fun hb=>DO (cY rfl hb) (hc 0 rfl)) ?_
    refine dU cQ ?_
    refine ah.gg (fun hb=>cQ (ae rfl)) rfl rfl rfl rfl rfl ?_
    refine ah.gg (fun hb=>cQ (ae rfl)) rfl rfl rfl rfl rfl ?_
    refine ah.gg (fun hb=>iy Tryz.underlying3 Tryz.underlying130 (cY rfl hb)) rfl rfl rfl rfl rfl ?_
    refine ah.gg (fun hb=>nd (hc 1 rfl) (cY rfl hb)) rfl rfl rfl rfl rfl ?_
    refine ah.gg (fun hb=>sj (cY rfl hb) (hc 1 rfl)) rfl rfl rfl rfl rfl ?_
    refine ah.gg (fun hb=>DO (cY rfl hb) (cY rfl hb)) rfl rfl rfl rfl rfl ?_
    refine eY (fun hb=>oJ (cY rfl hb) (ae rfl) (fun h=>⟨hb,h⟩)) ?_
    refine dU ju ?_
    obtain⟨ku,s6,h⟩:=aw h
    refine cZ s6 (oJ (ae rfl) (ae rfl) (fun h=>h)) ?_
    refine aN ?_
    refine ck h (fun h=>?_) fun h=>?_
    ·refine aD ?_
     refine cc 1 bT ?_
     refine aB ?_
     refine g2 gS dP ({ (default:ao) with bY:=gV } :ao) (ij ev .nil) ?_
     obtain⟨jY,sO,h⟩:=aw h
     refine cZ sO (cC (b:=({ (default:ch) with h1:=true,bR:=cb,nW:=({ (default:ao) with bY:=gV } :ao) } :ch)) rfl sU lx (.cons rY rfl (fr true) rfl (.cons qz rfl (ae rfl) rfl (.cons CW rfl (ae rfl) rfl (.nil))))) ?_
     refine ca 2 gA ?_
     refine aN ?_
     refine ai.ret ?_
     refine ag.eC ?_
     refine ag.ret ?_
     refine ag.b6 0 rfl ?_
     obtain rfl:=aI h
     exact ag.gR () (.cons_cons _ (List.nil_sublist _)) rfl rfl (nq (i:=2) gA rfl rfl)
    ·refine ai.skip ?_
     refine ag.ea ?_
     refine ag.next ?_
     refine aD ?_
     refine g2 sU lx (default:ch) .nil ?_
     refine ca 2 gA ?_
     refine aN ?_
     refine ai.ret ?_
     refine ag.b6 0 rfl ?_
     obtain rfl:=aI h
     exact ag.gR () (.cons_cons _ (List.nil_sublist _)) rfl rfl (nq (i:=2) gA rfl rfl)
   ·refine aD ?_
    refine cc 0 bT ?_
    obtain⟨jC,sP,h⟩:=aw h
    refine cZ sP (cC (b:=({ (default:ch) with h1:=true,bR:=cb } :ch)) rfl sU lx (.cons rY rfl (fr true) rfl (.cons qz rfl (ae rfl) rfl (.nil)))) ?_
    refine ca 2 gA ?_
    refine aN ?_
    refine ai.ret ?_
    refine ag.eC ?_
    refine ag.ret ?_
    refine ag.b6 1 rfl ?_
    obtain rfl:=aI h
    exact ag.gR () (.cons_cons _ (List.nil_sublist _)) rfl rfl (nq (i:=2) gA rfl rfl)
end Go.Proofs.YtmnggbjcnoffeaaGreat
namespace Go.Proofs.YtmnggbjcnoffeaaGreat
open Go Gv
set_option linter.unusedVariables false
set_option linter.unusedSimpArgs false
set_option maxRecDepth 100000
set_option maxHeartbeats 2000000
theorem NV {aa:bw} {aj:a3} {aR:Int} {cv:Nat} {r:bE × bw} (h:wA aa aj aR=some r):cz Tryz.prog 27 [I.eq (.pointer (some ⟨cv,0,none⟩)),I.of (aj),I.of (aR)] [⟨some cv,.var (aa:bw)⟩] (δ:=Unit) (fun d=>I.of (r.1)) (fun d=> [⟨some cv,.var (r.2:bw)⟩]):=by
 unfold wA at h
 refine cz.of Tryz.func27 rfl Tryz.ntmps27 rfl fun W A=> ?_
 refine aD ?_
 refine cd fun aT=> ?_
 refine cG vf fun a7=> ?_
 refine bM ?_
 obtain⟨ak,bB,h⟩:=aw h
 obtain⟨a4,cw,h⟩:=aw h
 refine ai.draw mixed 10 [some 13,some 14,some 15,some 16,some 17,some 18,some 19,some 20,some 21,some 7] [[],[0],[],[],[3],[4],[2,5],[1,6],[7],[]] [.val _,.val _,.val _,.val _,.val _,.val _,.val _,.val _,.val _,.new (.var (default:bN))] [false,false,false,false,false,false,false,false,false,false] (by kernel_rfl) rfl rfl rfl (fun dx=>⟨H1 (a0 lp),ee 1 lk k1,cW,H1 (a0 lp),ee 1 lk k1,H1 (eJ Tryz.underlying28),fb LH (H9 bB),mg cw Tryz.underlying28 fQ,H1 (cL fQ),uy k2,trivial⟩) fun dx=> ?_
 refine ca 0 fQ ?_
 refine bS ?_
 refine aW (a0 sr) ?_
 refine b3 0 nO bG ?_
 refine bp (oD (b:=({ (default:bE) with dq:=(aA aj.bH a4).bF } :bE)) [1,4] I7 rfl Fo vf (.cons pg rfl (ae rfl) rfl (by rfl) (.nil))) ?_
 refine ah.own (α:=ch) 88 ?_
 refine ah.own (α:=ao) 43 ?_
 refine ah.nU (z:=(default:bE)) [1,4] I7 vf rfl fun bU=> ?_
 refine ah.own (α:=ch) 88 ?_
 refine ah.own (α:=ao) 43 ?_
 refine ah.pE (i:=2) h5 (ae rfl) (ae rfl) rfl ?_
 refine bM ?_
 refine aD ?_
 refine aW (a0 kc) ?_
 refine b3 5 iM jT ?_
 refine aW (eJ Tryz.underlying62) ?_
 refine aB ?_
 refine aN ?_
 refine ai.block ?_
 obtain⟨az,aq,h⟩:=aw h
 refine gB (γ:=(Option Nat × Nat)) (δ:=(Option Nat × Nat)) aq [0,1,2,4,6,7,8,26,27] (fun s1 ax=> [(28,I.of (s1.1))]) (fun s1 ax=> [(2,⟨some bU,.cj (s1.2.1:bE) [(1,aV ax.1 s1.2.2.1.length ax.2),(4,aV none ([]:List ao).length 0)]⟩),(4,⟨ax.1,.row 88 (s1.2.2.1:List ch) ax.2⟩),(8,⟨some cv,.var (s1.2.2.2:bw)⟩)]) (fun aE=>Exit.exit 0) (fun aE ax=> [(28,I.of (aE.1)),(29,I.of (aE.2.1))]) (fun aE ax=> [(2,⟨some bU,.cj (aE.2.2.1:bE) [(1,aV ax.1 aE.2.2.2.1.length ax.2),(4,aV none ([]:List ao).length 0)]⟩),(4,⟨ax.1,.row 88 (aE.2.2.2.1:List ch) ax.2⟩),(8,⟨some cv,.var (aE.2.2.2.2:bw)⟩)]) (none,0) (fun s1 r h ax=> ?_) fun ax=> ?_
 ·clear aq
  refine aD ?_
  refine bj dZ ?_
  refine bM ?_
  refine ck h (fun h=>?_) fun h=>?_
  ·refine cO ?_
   refine ai.seq ?_
   refine ai.block ?_
   refine aD ?_
   obtain⟨bZ,c7,h⟩:=aw h
   refine fL c7 Tryz.underlying62 hS ?_
   refine aW (cL hS) ?_
   refine cG iB fun cR=> ?_
   refine ca 0 hS ?_
   refine bM ?_
   obtain⟨aP,cg,h⟩:=aw h
   obtain⟨bc,ek,h⟩:=aw h
   refine k5 [0,1,2,4,6,7,8,10,26,27,28,29,30,31] ?_
   refine ai.jS mixed (bq 32 [] [] _ :: bq 33 (0 :: []) (3 :: []) _ :: bq 34 [] [] _ :: bq 35 [] (8 :: []) _ :: bq 36 [] (0 :: []) _ :: ⟨some 37,(2 :: 3 :: 4 :: []),(9 :: []),(9 :: []),fun _=>I.of (aP.1),fun hd _=>⟨some cv,.var (aP.2:bw)⟩⟩ :: bq 38 (5 :: []) [] _ :: ⟨some 39,(1 :: 6 :: []),(5 :: []),(5 :: []),fun hd=>I.eq (aV (hd 7 0) bc.length ((hd 7 1).getD 0)),fun hd _=>⟨(hd 7 0),.row 88 (bc:List ch) ((hd 7 1).getD 0)⟩⟩ :: bq 40 [] [] _ :: ⟨none,(1 :: 7 :: 8 :: []),(3 :: []),(3 :: []),fun _=>I.any,fun hd _=>⟨some bU,.cj (({ s1.2.1 with cA:= [] } :bE):bE) [(1,aV (hd 7 0) bc.length ((hd 7 1).getD 0)),(4,aV none ([]:List ao).length 0)]⟩⟩ :: []) _ (0 :: 1 :: 2 :: 4 :: 6 :: 7 :: 8 :: 10 :: 26 :: 27 :: 28 :: 29 :: 30 :: 31 :: []) rfl rfl (by kernel_rfl) ⟨fD (a0 kD),cS fun hd E' ay aK au=>ie (i:=3) (q:=0) (β:=bE) (γ:=ch) kg (ae (aK _ _ rfl)) (au 3 _ rfl rfl) rfl,gW,o0 8 fy,o0 0 hS,?_,cS fun hd E' ay aK au=>iZ (r:= [aP.1]) Tryz.underlying47 gA lx rfl rfl (.cons (by simp) (ae (aK _ _ rfl)) (.nil)),?_,fD (a0 kD),?_,trivial⟩ fun gp=> ?_
   ·intro hd E' ay aK au
    refine ah.b6 9 (au 9 _ rfl rfl) ?_
    refine ah.lu (Lin:= [⟨some cv,.var (s1.2.2.2:bw)⟩]) (Lr:=ay.eraseIdx 9) UC (NU cg) ⟨ae (aK _ _ rfl),ae (aK _ _ rfl),ae (aK _ _ rfl),trivial⟩ rfl fun da=> ?_
    refine ah.nil ?_
    refine ag.back 9 (au 9 _ rfl rfl) ?_
    exact ag.fin (ft []) rfl rfl
   ·intro hd E' ay aK au
    refine ah.app (i:=5) Tryz.underlying47 gA lx (bytes:=64) (by kernel_rfl) (ae (aK _ _ rfl)) (au 5 _ rfl rfl) (ae (aK _ _ rfl)) ek rfl fun gH eU=> ?_
    refine ah.nil ?_
    exact ag.fin (ft [gH,some eU]) rfl rfl
   ·intro hd E' ay aK au
    refine ah.iz (i:=3) (γ:=ch) (b':=(({ s1.2.1 with cA:= [] } :bE):bE)) (os':= [(1,aV (hd 7 0) bc.length ((hd 7 1).getD 0)),(4,aV none ([]:List ao).length 0)]) ((aL.id bE).comp jM) kg (ae (aK _ _ rfl)) (ae (aK _ _ rfl)) hO (au 3 _ rfl rfl) rfl rfl rfl ?_
    refine ah.nil ?_
    exact ag.fin (ft []) rfl rfl
   refine ag.fg (L2:= [⟨some cR,.var (aA ((aA aj.bH a4).b1) bZ:cn)⟩,⟨none,.row 43 (([]:List ao):List ao) 0⟩,⟨none,.row 88 (([]:List ch):List ch) 0⟩,⟨some bU,.cj (({ s1.2.1 with cA:= [] } :bE):bE) [(1,aV (gp 7 0) bc.length ((gp 7 1).getD 0)),(4,aV none ([]:List ao).length 0)]⟩,⟨none,.row 43 (([]:List ao):List ao) 0⟩,⟨(gp 7 0),.row 88 (bc:List ch) ((gp 7 1).getD 0)⟩,⟨some (dx 9),.var (aA aj.bH a4:bN)⟩,⟨some a7,.var ((default:bE):bE)⟩,⟨some aT,.var (aj:a3)⟩,⟨some cv,.var (aP.2:bw)⟩]) rfl ?_
   refine lD [0,1,2,4,6,7,8,10,26,27,28,29,30,31,32,34,35,36,37,38,39,40] ?_
   refine ag.next ?_
   refine aD ?_
   refine aW (a0 pB) ?_
   refine b3 0 ka bG ?_
   refine bj gb ?_
   refine aB ?_
   refine dU (a0 pB) ?_
   refine eY (fun hb=>gx (i:=0) ((aL.id cn).comp ka) (r:=(aA ((aA aj.bH a4).b1) bZ).cI) bG (cY rfl hb) rfl rfl rfl) ?_
   refine jX gb ?_
   obtain⟨bk,dc,h⟩:=aw h
   refine cZ dc (vi (ae rfl) (ae rfl) (fun h=>h)) ?_
   refine aN ?_
   obtain⟨bO,cM,h⟩:=aw h
   refine jd (γ:=Unit) [0,1,2,4,6,7,8,10,26,27,28,29,48] (fun a1=> []) (fun a1=> [(3,⟨some bU,.cj (bO.1:bE) [(1,aV (gp 7 0) bc.length ((gp 7 1).getD 0)),(4,aV none ([]:List ao).length 0)]⟩),(9,⟨some cv,.var (bO.2:bw)⟩)]) (fun a1=> ?_) (fun hm ar=> ?_) fun hm ar=> ?_
   ·clear cM
    refine ag.ea ?_
    refine ag.next ?_
    refine ai.cl ?_
    refine bj dg ?_
    refine aB ?_
    refine ah.nil ?_
    obtain rfl:=aI h
    exact fo ((gp 7 0),((gp 7 1).getD 0)) 1
   ·have h:=ht ar cM
    refine ai.cl ?_
    refine aB ?_
    refine ah.b6 9 rfl ?_
    obtain⟨bf,fh,h⟩:=aw h
    refine eD 1 gd (fX fh) fun fi=> ?_
    refine bj dg ?_
    refine aW (a0 pC) ?_
    obtain⟨c8,ho,h⟩:=aw h
    refine ah.q1 (i:=4) ((aL.id bE).comp nN) (v:=(bD (1 + bf.1):Int)) (b':=(c8:bE)) bG (ae rfl) (ae rfl) rfl rfl (aI ho) (by rfl) ?_
    refine ah.nil ?_
    refine ag.b6 9 rfl ?_
    refine ag.b6 9 rfl ?_
    refine ag.b6 9 rfl ?_
    refine ag.b6 9 rfl ?_
    refine ag.b6 9 rfl ?_
    refine ag.b6 9 rfl ?_
    refine ag.b6 9 rfl ?_
    refine ag.b6 9 rfl ?_
    refine ag.b6 9 rfl ?_
    obtain rfl:=aI h
    exact dI 0 (hm ())
   ·have h:=hv ar cM
    refine ai.skip ?_
    obtain rfl:=aI h
    exact dI 0 (hm ())
  ·refine ai.exit ?_
   refine ag.exit ?_
   obtain rfl:=aI h
   exact eh (ax.1,ax.2) 0
 ·clear aq
  refine ag.fe ?_
  refine ag.next ?_
  refine ai.seq ?_
  obtain⟨cb,gL,h⟩:=aw h
  obtain⟨dj,fB,h⟩:=aw h
  obtain⟨e8,jf,h⟩:=aw h
  refine k5 [0,1,2,4,6,7,8,26,27,28,29] ?_
  refine ai.jS mixed (bq 54 [] [] _ :: bq 55 (0 :: []) (5 :: []) _ :: bq 56 [] [] _ :: bq 57 [] [] _ :: bq 58 (3 :: []) (5 :: []) _ :: bq 59 (4 :: []) [] _ :: ⟨some 60,(2 :: 5 :: []),(8 :: []),(8 :: []),fun _=>I.of (cb.1),fun hd _=>⟨some cv,.var (cb.2:bw)⟩⟩ :: bq 61 (1 :: 6 :: []) [] _ :: bq 62 (7 :: []) [] _ :: bq 63 [] [] _ :: ⟨none,(8 :: 9 :: []),(2 :: []),(2 :: []),fun _=>I.any,fun hd _=>⟨some bU,.cj (e8:bE) [(1,aV ax.1 az.2.2.2.1.length ax.2),(4,aV none ([]:List ao).length 0)]⟩⟩ :: []) _ (0 :: 1 :: 2 :: 4 :: 6 :: 7 :: 8 :: 26 :: 27 :: 28 :: 29 :: []) rfl rfl (by kernel_rfl) ⟨fD (a0 Kh),oZ 5 tK kG,gW,fD (a0 Kh),oZ 5 tK kG,fD (eJ Tryz.underlying63),?_,cS fun hd E' ay aK au=>oK (k:=dj) Tryz.underlying63 bG (ae (aK _ _ rfl)) (ae (aK _ _ rfl)) (cu fB),fD (cL bG),fD (a0 Ki),?_,trivial⟩ fun jh=> ?_
  ·intro hd E' ay aK au
   refine ah.b6 8 (au 8 _ rfl rfl) ?_
   refine ah.lu (Lin:= [⟨some cv,.var (az.2.2.2.2:bw)⟩]) (Lr:=ay.eraseIdx 8) gd (fX gL) ⟨ae (aK _ _ rfl),ae (aK _ _ rfl),trivial⟩ rfl fun iq=> ?_
   refine ah.nil ?_
   refine ag.back 8 (au 8 _ rfl rfl) ?_
   exact ag.fin (ft []) rfl rfl
  ·intro hd E' ay aK au
   refine ah.q1 (i:=2) ((aL.id bE).comp Ab) (v:=(aA ((aA aj.bH a4).cX) dj:Int)) (b':=(e8:bE)) bG (ae (aK _ _ rfl)) (ae (aK _ _ rfl)) (au 2 _ rfl rfl) rfl (aI jf) (by rfl) ?_
   refine ah.nil ?_
   exact ag.fin (ft []) rfl rfl
  refine ag.fg (L2:= [⟨none,.row 43 (([]:List ao):List ao) 0⟩,⟨none,.row 88 (([]:List ch):List ch) 0⟩,⟨some bU,.cj (e8:bE) [(1,aV ax.1 az.2.2.2.1.length ax.2),(4,aV none ([]:List ao).length 0)]⟩,⟨none,.row 43 (([]:List ao):List ao) 0⟩,⟨ax.1,.row 88 (az.2.2.2.1:List ch) ax.2⟩,⟨some (dx 9),.var (aA aj.bH a4:bN)⟩,⟨some a7,.var ((default:bE):bE)⟩,⟨some aT,.var (aj:a3)⟩,⟨some cv,.var (cb.2:bw)⟩]) rfl ?_
  refine lD [0,1,2,4,6,7,8,26,27,28,29,54,55,56,57,58,59,60,61,62,63] ?_
  refine ag.next ?_
  refine ai.seq ?_
  refine aD ?_
  refine cc 7 fy ?_
  refine aW (a0 Ki) ?_
  refine L3 2 Ab bG ?_
  obtain⟨cN,g4,h⟩:=aw h
  refine dF UD (N9 g4) ?_
  refine bp (DN z6 QT Tw rfl (ae rfl) rfl rfl) ?_
  refine aW (eJ Tryz.underlying145) ?_
  refine aB ?_
  refine aN ?_
  refine ai.block ?_
  obtain⟨aX,aq,h⟩:=aw h
  refine gB (γ:=(Option Nat × Nat)) (δ:=(Option Nat × Nat)) aq [0,1,2,4,6,7,8,26,27,28,29,68,69] (fun s2 br=> [(70,I.of (s2.1))]) (fun s2 br=> [(2,⟨some bU,.cj (s2.2.1:bE) [(1,aV ax.1 az.2.2.2.1.length ax.2),(4,aV br.1 s2.2.2.1.length br.2)]⟩),(3,⟨br.1,.row 43 (s2.2.2.1:List ao) br.2⟩),(8,⟨some cv,.var (s2.2.2.2:bw)⟩)]) (fun dM=>Exit.exit 2) (fun dM br=> [(70,I.of (dM.1)),(71,I.of (dM.2.1))]) (fun dM br=> [(2,⟨some bU,.cj (dM.2.2.1:bE) [(1,aV ax.1 az.2.2.2.1.length ax.2),(4,aV br.1 dM.2.2.2.1.length br.2)]⟩),(3,⟨br.1,.row 43 (dM.2.2.2.1:List ao) br.2⟩),(8,⟨some cv,.var (dM.2.2.2.2:bw)⟩)]) (none,0) (fun s2 r h br=> ?_) fun br=> ?_
  ·clear aq
   refine aD ?_
   refine bj dZ ?_
   refine bM ?_
   refine ck h (fun h=>?_) fun h=>?_
   ·refine cO ?_
    refine ai.seq ?_
    refine ai.block ?_
    refine aD ?_
    obtain⟨hj,k7,h⟩:=aw h
    refine fL k7 Tryz.underlying145 uZ ?_
    refine aW (cL uZ) ?_
    refine cG ra fun ts=> ?_
    refine ca 0 uZ ?_
    refine aN ?_
    obtain⟨dm,kK,h⟩:=aw h
    obtain⟨gN,lF,h⟩:=aw h
    obtain⟨et,kk,h⟩:=aw h
    obtain⟨fk,mT,h⟩:=aw h
    refine k5 [0,1,2,4,6,7,8,12,26,27,28,29,68,69,70,71,72,73] ?_
    refine ai.jS mixed (bq 74 [] [] _ :: bq 75 (0 :: []) (3 :: []) _ :: bq 76 [] [] _ :: ⟨some 77,(2 :: []),(9 :: []),(9 :: []),fun _=>I.of (dm.1),fun hd _=>⟨some cv,.var (dm.2:bw)⟩⟩ :: bq 78 (3 :: []) [] _ :: bq 79 (4 :: []) [] _ :: bq 80 [] [] _ :: bq 81 (6 :: []) (0 :: []) _ :: bq 82 (5 :: 7 :: []) [] _ :: bq 83 (8 :: []) [] _ :: ⟨some 84,(1 :: 9 :: []),(4 :: []),(4 :: []),fun hd=>I.eq (aV (hd 10 0) fk.length ((hd 10 1).getD 0)),fun hd _=>⟨(hd 10 0),.row 43 (fk:List ao) ((hd 10 1).getD 0)⟩⟩ :: bq 85 [] [] _ :: ⟨none,(1 :: 10 :: 11 :: []),(3 :: []),(3 :: []),fun _=>I.any,fun hd _=>⟨some bU,.cj (({ s2.2.1 with lq:= [] } :bE):bE) [(1,aV ax.1 az.2.2.2.1.length ax.2),(4,aV (hd 10 0) fk.length ((hd 10 1).getD 0))]⟩⟩ :: []) _ (0 :: 1 :: 2 :: 4 :: 6 :: 7 :: 8 :: 12 :: 26 :: 27 :: 28 :: 29 :: 68 :: 69 :: 70 :: 71 :: 72 :: 73 :: []) rfl rfl (by kernel_rfl) ⟨fD (a0 A9),cS fun hd E' ay aK au=>ie (i:=3) (q:=1) (β:=bE) (γ:=ao) yn (ae (aK _ _ rfl)) (au 3 _ rfl rfl) rfl,gW,?_,fD (iy Tryz.underlying3 Tryz.underlying41),cS fun hd E' ay aK au=>(cC (b:=({ (default:ao) with bY:=BitVec.ofInt 64 dm.1 } :ao)) rfl gS dP (.cons ev rfl (ae (aK _ _ rfl)) rfl (.nil))).as (aI lF),fD (a0 QU),oZ 0 wu bG,cS fun hd E' ay aK au=>hP Fq (C9 kk) ⟨ae (aK _ _ rfl),ae (aK _ _ rfl),trivial⟩,cS fun hd E' ay aK au=>iZ (r:= [et]) Tryz.underlying48 bT dP rfl rfl (.cons (by simp) (ae (aK _ _ rfl)) (.nil)),?_,fD (a0 A9),?_,trivial⟩ fun qd=> ?_
    ·intro hd E' ay aK au
     refine ah.b6 9 (au 9 _ rfl rfl) ?_
     refine ah.lu (Lin:= [⟨some cv,.var (s2.2.2.2:bw)⟩]) (Lr:=ay.eraseIdx 9) gd (fX kK) ⟨ae (aK _ _ rfl),bz 256,trivial⟩ rfl fun g8=> ?_
     refine ah.nil ?_
     refine ag.back 9 (au 9 _ rfl rfl) ?_
     exact ag.fin (ft []) rfl rfl
    ·intro hd E' ay aK au
     refine ah.app (i:=4) Tryz.underlying48 bT dP (bytes:=16) (by kernel_rfl) (ae (aK _ _ rfl)) (au 4 _ rfl rfl) (ae (aK _ _ rfl)) mT rfl fun jx nx=> ?_
     refine ah.nil ?_
     exact ag.fin (ft [jx,some nx]) rfl rfl
    ·intro hd E' ay aK au
     refine ah.iz (i:=3) (γ:=ao) (b':=(({ s2.2.1 with lq:= [] } :bE):bE)) (os':= [(1,aV ax.1 az.2.2.2.1.length ax.2),(4,aV (hd 10 0) fk.length ((hd 10 1).getD 0))]) ((aL.id bE).comp Ai) yn (ae (aK _ _ rfl)) (ae (aK _ _ rfl)) hO (au 3 _ rfl rfl) rfl rfl rfl ?_
     refine ah.nil ?_
     exact ag.fin (ft []) rfl rfl
    refine ag.fg (L2:= [⟨some ts,.var (aA cN.iY hj:hG)⟩,⟨none,.row 43 (([]:List ao):List ao) 0⟩,⟨none,.row 88 (([]:List ch):List ch) 0⟩,⟨some bU,.cj (({ s2.2.1 with lq:= [] } :bE):bE) [(1,aV ax.1 az.2.2.2.1.length ax.2),(4,aV (qd 10 0) fk.length ((qd 10 1).getD 0))]⟩,⟨(qd 10 0),.row 43 (fk:List ao) ((qd 10 1).getD 0)⟩,⟨ax.1,.row 88 (az.2.2.2.1:List ch) ax.2⟩,⟨some (dx 9),.var (aA aj.bH a4:bN)⟩,⟨some a7,.var ((default:bE):bE)⟩,⟨some aT,.var (aj:a3)⟩,⟨some cv,.var (dm.2:bw)⟩]) rfl ?_
    refine lD [0,1,2,4,6,7,8,12,26,27,28,29,68,69,70,71,72,73,74,76,77,78,79,80,81,82,83,84,85] ?_
    refine ag.ea ?_
    refine ag.next ?_
    refine ai.cl ?_
    refine bj dg ?_
    refine aB ?_
    refine ah.nil ?_
    obtain rfl:=aI h
    exact fo ((qd 10 0),((qd 10 1).getD 0)) 1
   ·refine ai.exit ?_
    refine ag.exit ?_
    obtain rfl:=aI h
    exact eh (br.1,br.2) 0
  ·clear aq
   refine ag.fe ?_
   refine ag.next ?_
   refine aD ?_
   refine ah.ih (β:=bE) (γ:=ch) (b':=(({ aX.2.2.1 with cA:=az.2.2.2.1 } :bE):bE)) ((aL.id bE).comp jM) 2 4 0 rfl rfl rfl rfl rfl rfl ?_
   refine ah.ih (β:=bE) (γ:=ao) (b':=(({ ({ aX.2.2.1 with cA:=az.2.2.2.1 } :bE) with lq:=aX.2.2.2.1 } :bE):bE)) ((aL.id bE).comp Ai) 2 3 0 rfl rfl rfl rfl rfl rfl ?_
   refine ah.mI 2 rfl ?_
   obtain⟨gO,mR,h⟩:=aw h
   refine cZ mR (gx (i:=2) (aL.id bE) (r:=({ ({ aX.2.2.1 with cA:=az.2.2.2.1 } :bE) with lq:=aX.2.2.2.1 } :bE)) h5 (ae rfl) rfl rfl rfl) ?_
   refine ca 6 h5 ?_
   refine aN ?_
   refine ai.ret ?_
   refine ag.b6 8 rfl ?_
   obtain rfl:=aI h
   exact ag.gR () (.cons_cons _ (List.nil_sublist _)) rfl rfl (nq (i:=7) h5 rfl rfl)
end Go.Proofs.YtmnggbjcnoffeaaGreat
namespace Go.Proofs.YtmnggbjcnoffeaaGreat
open Go Gv
set_option linter.unusedVariables false
set_option linter.unusedSimpArgs false
set_option maxRecDepth 100000
set_option maxHeartbeats 2000000
theorem N7 {hp:bb Cell} {aa:Ref} {aj:aM} {Q:Bool × (bb Cell)→Prop} (h:wE hp aa aj Q):cz Tryz.prog 44 [I.of (aa),I.of (aj)] ([] ++ bd hp) (δ:= {r:Bool × (bb Cell) // Q r} × Unit) (fun d=>I.of (d.1.1.1)) (fun d=> [] ++ bd d.1.1.2):=by
 unfold wE at h
 refine cz.of Tryz.func44 rfl Tryz.ntmps44 rfl fun W A=> ?_
 refine aD ?_
 refine cd fun aT=> ?_
 refine aQ ?_
 refine bM ?_
 refine aD ?_
 refine aB ?_
 refine bp (qN Tryz.underlying37 (ae rfl)) ?_
 refine aN ?_
 refine ai.cond (ae rfl) (fun ar=> ?_) (fun ar=> ?_)
 ·replace h:=qU ar h
  refine aD ?_
  refine aQ ?_
  refine aN ?_
  refine ai.ret ?_
  refine ag.ret ?_
  exact ag.gR (⟨⟨(false,hp),h⟩,()⟩: {r // _} × _) (.cons _ (.refl _)) rfl rfl (fP rfl)
 ·replace h:=qV ar h
  refine cO ?_
  refine ai.seq ?_
  obtain⟨dK,fz,h⟩:=aG.cT h
  obtain⟨cK,hg,h⟩:=aG.cT h
  obtain⟨cB,g3,h⟩:=aG.cT h
  obtain⟨dL,ik,h⟩:=aG.cT h
  obtain⟨bk,dc,h⟩:=aG.cT h
  refine ai.Tx 1 1 ?_
  refine k5 [0,1,3,4,9,10] ?_
  refine ai.Bn 2 mixed (bq 12 [] [] _ :: bq 13 (0 :: []) [] _ :: bq 14 (1 :: []) [] _ :: ⟨some 15,(2 :: []),[],[],fun _=>I.of (cK.lV),fun _ _=>⟨none,.dead⟩⟩ :: bq 16 [] [] _ :: bq 17 (4 :: []) (0 :: []) _ :: ⟨some 18,(3 :: 5 :: []),[],[],fun _=>I.cF [I.of (bk.getD default),I.of (bk.isSome)],fun _ _=>⟨none,.dead⟩⟩ :: bq 11 (6 :: []) [] _ :: bq 19 (7 :: []) [] _ :: bq 20 (7 :: []) [] _ :: ⟨some 5,[],(1 :: []),(1 :: []),fun hd=>I.eq (.pointer (some ⟨((hd 10 0).getD 0),0,none⟩)),fun hd _=>⟨some ((hd 10 0).getD 0),.var ((default:aM):aM)⟩⟩ :: ⟨none,(8 :: 10 :: []),(1 :: []),(1 :: []),fun _=>I.any,fun hd _=>⟨some ((hd 10 0).getD 0),.var (bk.getD default:aM)⟩⟩ :: bq 6 (9 :: []) [] _ :: []) _ (0 :: 1 :: 3 :: 4 :: 9 :: 10 :: []) rfl rfl (by kernel_rfl) (by kernel_rfl) ⟨eT.q (gW),eT.q (cS fun hd E' ay aK au=>fw (gQ (ae (aK _ _ rfl)) fz)),eT.q (fD (a0 JH)),?_,eT.q (fD (a0 kW)),eT.q (oZ 0 jL bG),?_,eT.q (gW),eT.q (cS fun hd E' ay aK au=>nk (ae (aK _ _ rfl)) rfl),eT.q (cS fun hd E' ay aK au=>nk (ae (aK _ _ rfl)) rfl),?_,?_,eT.q (cS fun hd E' ay aK au=>eG (ae (aK _ _ rfl))),trivial⟩ fun gp=> ?_
  ·intro hd E' ay aK au eX
   refine bp (jt ((aL.id gZ).comp CE) (r:=cK.lV) EX (ae (aK _ _ rfl)) (h4 (n:=2) (eX.trans rfl) (pK hg) rfl) rfl rfl) ?_
   refine ah.nil ?_
   exact ag.fin (ft []) rfl rfl
  ·intro hd E' ay aK au eX
   refine bp (Du (r:=bk) Tryz.underlying133 L7 h6 (pv (ae (aK _ _ rfl)) g3) (ae (aK _ _ rfl)) (h4 (n:=2) (eX.trans rfl) (Bb ik) rfl) (aI dc)) ?_
   refine ah.nil ?_
   exact ag.fin (ft []) rfl rfl
  ·intro hd E' ay aK au eX
   refine cG h6 fun a7=> ?_
   refine ah.nil ?_
   refine ag.place 1 (au 1 _ rfl rfl) ?_
   exact ag.fin (ft [some a7]) rfl rfl
  ·intro hd E' ay aK au eX
   refine ah.store (i:=1) (aL.id aM) (v:=(bk.getD default:aM)) (b':=(bk.getD default:aM)) cV (ae (aK _ _ rfl)) (ae (aK _ _ rfl)) (au 1 _ rfl rfl) rfl rfl ?_
   refine ah.nil ?_
   exact ag.fin (ft []) rfl rfl
  refine ag.fg (L2:=(⟨some aT,.var (aj:aM)⟩ :: ⟨some ((gp 10 0).getD 0),.var (bk.getD default:aM)⟩ :: bd hp)) rfl ?_
  refine lD [0,1,3,4,5,6,9,10,11,12,13,14,15,16,17,18,19,20] ?_
  refine ag.b6 1 rfl ?_
  refine ag.next ?_
  refine ai.seq ?_
  refine ai.seq ?_
  obtain⟨rO,yZ,h⟩:=aG.cT h
  obtain⟨fV,mU,h⟩:=aG.cT h
  obtain⟨ak,bB,h⟩:=aG.cT h
  refine k5 [0,1,3,4,5,6,9,10,11,12,13,14,15,16,17,18,19,20] ?_
  refine ai.Bn 2 mixed (bq 22 [] [] _ :: bq 23 (0 :: []) [] _ :: bq 24 (1 :: []) [] _ :: ⟨some 25,(2 :: []),[],[],fun _=>I.of (fV.js),fun _ _=>⟨none,.dead⟩⟩ :: bq 26 [] [] _ :: bq 27 (4 :: []) (1 :: []) _ :: ⟨some 28,(3 :: 5 :: []),[],[],fun _=>I.cF [I.of (ak.1),I.of (ak.2)],fun _ _=>⟨none,.dead⟩⟩ :: bq 21 (6 :: []) [] _ :: bq 29 (7 :: []) [] _ :: bq 30 (7 :: []) [] _ :: bq 7 (8 :: []) [] _ :: bq 8 (9 :: []) [] _ :: []) _ (0 :: 1 :: 3 :: 4 :: 5 :: 6 :: 9 :: 10 :: 11 :: 12 :: 13 :: 14 :: 15 :: 16 :: 17 :: 18 :: 19 :: 20 :: []) rfl rfl (by kernel_rfl) (by kernel_rfl) ⟨eT.q (gW),eT.q (cS fun hd E' ay aK au=>fw (gQ (ae (aK _ _ rfl)) yZ)),eT.q (fD (a0 xq)),?_,eT.q (fD (a0 jQ)),eT.q (oZ 1 iL h5),?_,eT.q (gW),eT.q (cS fun hd E' ay aK au=>nk (ae (aK _ _ rfl)) rfl),eT.q (cS fun hd E' ay aK au=>nk (ae (aK _ _ rfl)) rfl),eT.q (cS fun hd E' ay aK au=>eG (ae (aK _ _ rfl))),eT.q (cS fun hd E' ay aK au=>eG (ae (aK _ _ rfl))),trivial⟩ fun jh=> ?_
  ·intro hd E' ay aK au eX
   refine bp (jt ((aL.id gZ).comp v3) (r:=fV.js) va (ae (aK _ _ rfl)) (h4 (n:=2) (eX.trans rfl) (pK mU) rfl) rfl rfl) ?_
   refine ah.nil ?_
   exact ag.fin (ft []) rfl rfl
  ·intro hd E' ay aK au eX
   refine ah.pa (iF.Fs 2 (eX.trans rfl) (NK bB) ⟨ae (aK _ _ rfl),ae (aK _ _ rfl),trivial⟩) rfl rfl rfl ?_
   refine ah.nil ?_
   exact ag.fin (ft []) rfl rfl
  refine ag.fg (L2:=(⟨some ((gp 10 0).getD 0),.var (bk.getD default:aM)⟩ :: ⟨some aT,.var (aj:aM)⟩ :: bd hp)) rfl ?_
  refine lD [0,1,3,4,5,6,7,8,9,10,11,12,13,14,15,16,17,18,19,20,21,22,23,24,25,26,27,28,29,30] ?_
  refine ag.next ?_
  refine aD ?_
  refine aB ?_
  refine aB ?_
  refine dU cQ ?_
  refine o1 ?_
  refine aN ?_
  refine ai.cond (ae rfl) (fun ar=> ?_) (fun ar=> ?_)
  ·replace h:=qU ar h
   refine aD ?_
   refine aQ ?_
   refine aN ?_
   refine ai.ret ?_
   refine ag.ret ?_
   exact ag.gR (⟨⟨(false,hp),h⟩,()⟩: {r // _} × _) (.cons _ (.cons _ (.refl _))) rfl rfl (fP rfl)
  ·replace h:=qV ar h
   refine cO ?_
   refine ai.seq ?_
   obtain⟨G0,L8,h⟩:=aG.cT h
   obtain⟨rP,FP,h⟩:=aG.cT h
   obtain⟨aP,cg,h⟩:=aG.cT h
   refine ai.draw mixed 8 [some 35,some 36,some 37,some 38,some 39,some 40,some 41,some 42] [[],[0],[1],[2],[],[4],[],[6]] [.val _,.val _,.val _,.val _,.val _,.val _,.val _,.val _] [false,false,false,false,false,false,false,false] (by kernel_rfl) rfl rfl rfl (fun dx=>⟨cW,dT fun ay au=>fw (gQ (ae rfl) L8),H1 (a0 JH),dT fun ay au=>jt ((aL.id gZ).comp CE) (r:=rP.lV) EX (ae rfl) (nw (fun i e q=>au i e q rfl) (h4 (n:=2) rfl (pK FP) rfl)) rfl rfl,H1 (a0 kW),ee 1 jL bG,fA 1 cV,fb Fg (C2 cg),trivial⟩) fun dx=> ?_
   obtain⟨G1,Vl,h⟩:=aG.cT h
   obtain⟨tt,FQ,h⟩:=aG.cT h
   obtain⟨dy,n6,h⟩:=aG.cT h
   refine ah.EB (k':=Cell.k3 (fS tt aj.cy aP)) 2 rfl (by first | exact .inl rfl | exact .inr rfl) Tryz.underlying133 L7 (pv (ae rfl) Vl) (ae rfl) (ae rfl) (Bb FQ) rfl rfl rfl (aI n6) ?_
   refine bM ?_
   obtain⟨qq,FR,h⟩:=aG.cT h
   refine ai.draw mixed 5 [some 43,some 44,some 45,some 46,some 47] [[],[0],[1],[2],[]] [.val _,.val _,.val _,.val _,.val _] [false,false,false,false,false] (by kernel_rfl) rfl rfl rfl (fun il=>⟨cW,dT fun ay au=>fw (gQ (ae rfl) L8),H1 (a0 xq),dT fun ay au=>jt ((aL.id gZ).comp v3) (r:=qq.js) va (ae rfl) (nw (fun i e q=>au i e q rfl) (h4 (n:=2) rfl (pK FR) rfl)) rfl rfl,fA 1 cV,trivial⟩) fun il=> ?_
   refine ah.Fs 2 0 rfl (NT h) rfl rfl ⟨ae rfl,ae rfl,trivial⟩ rfl fun⟨⟨bc,h⟩,aE⟩=> ?_
   refine ah.fg (L2:=(⟨some ((gp 10 0).getD 0),.var (bk.getD default:aM)⟩ :: ⟨some aT,.var (aj:aM)⟩ :: bd bc)) rfl ?_
   refine bS ?_
   refine aQ ?_
   refine aN ?_
   refine ai.ret ?_
   exact ag.gR (⟨⟨(true,bc),h⟩,()⟩: {r // _} × _) (.cons _ (.cons _ (.refl _))) rfl rfl (fP rfl)
end Go.Proofs.YtmnggbjcnoffeaaGreat
namespace Go.Proofs.YtmnggbjcnoffeaaGreat
open Go Gv
set_option linter.unusedVariables false
set_option linter.unusedSimpArgs false
set_option maxRecDepth 100000
set_option maxHeartbeats 2000000
theorem Ow {hp:bb Cell} {aa:a3} {aj:bw} {aR:Int} {c3:Int} {od:Nat} {Q:Ref × (List aM) × bw × (bb Cell)→Prop} (h:wQ hp aa aj aR c3 Q):cz Tryz.prog 35 [I.of (aa),I.eq (.pointer (some ⟨od,0,none⟩)),I.of (aR),I.of (c3)] ([⟨some od,.var (aj:bw)⟩] ++ bd hp) (δ:= {r:Ref × (List aM) × bw × (bb Cell) // Q r} × Unit) (fun d=>I.cF [I.of (d.1.1.1),I.of (d.1.1.2.1)]) (fun d=> [⟨some od,.var (d.1.1.2.2.1:bw)⟩] ++ bd d.1.1.2.2.2):=by
 unfold wQ at h
 refine cz.of Tryz.func35 rfl Tryz.ntmps35 rfl fun W A=> ?_
 refine aD ?_
 refine cd fun aT=> ?_
 refine bp (eG (qG)) ?_
 refine bp (eG (look_nil (α:=aM))) ?_
 refine bM ?_
 obtain⟨ak,bB,h⟩:=aG.cT h
 obtain⟨a4,cw,h⟩:=aG.cT h
 refine ai.draw mixed 11 [some 14,some 15,some 16,some 17,some 18,some 19,some 20,some 21,some 22,some 23,some 24] [[],[],[1],[],[],[4],[5],[3,6],[2,7],[8],[9]] [.val _,.val _,.val _,.val _,.val _,.val _,.val _,.val _,.val _,.val _,.val _] [false,false,false,false,false,false,false,false,false,false,false] (by kernel_rfl) rfl rfl rfl (fun dx=>⟨fA 0 fy,H1 (a0 lp),ee 0 lk k1,cW,H1 (a0 lp),ee 0 lk k1,H1 (eJ Tryz.underlying28),fb LH (H9 bB),mg cw Tryz.underlying28 fQ,nC nO sr,H1 (cL bG),trivial⟩) fun dx=> ?_
 refine ah.mH 2 0 rfl UE (OY h) rfl rfl ⟨ae rfl,ae rfl,trivial⟩ rfl fun⟨⟨aP,h⟩,aE⟩=> ?_
 refine ah.fg (L2:=(⟨some aT,.var (aa:a3)⟩ :: ⟨some od,.var (aj:bw)⟩ :: bd aP.2)) rfl ?_
 refine aQ ?_
 refine bS ?_
 refine ah.own (α:=aM) 52 ?_
 refine bp (eG qO) ?_
 refine bM ?_
 refine aD ?_
 refine aQ ?_
 refine aN ?_
 refine ai.block ?_
 refine ai.J8 (σ:=Int × (List aM) × bw × (bb Cell)) (ε:=(Int × Bool × (List aM) × bw × (bb Cell))) (γ:=(Option Nat × Nat)) (δ:=(Option Nat × Nat)) h (fun s1 ax=> [(0,I.of (aa)),(1,I.eq (.pointer (some ⟨od,0,none⟩))),(2,I.of (aR)),(3,I.of (c3)),(4,I.eq (.pointer (some ⟨aT,0,none⟩))),(8,I.of (none:Ref)),(9,I.of ([]:List aM)),(10,I.of (aP.1)),(11,I.eq (aV ax.1 s1.2.1.length ax.2)),(12,I.of (s1.1))]) (fun s1 ax=>(⟨ax.1,.row 52 (s1.2.1:List aM) ax.2⟩ :: ⟨some aT,.var (aa:a3)⟩ :: ⟨some od,.var (s1.2.2.1:bw)⟩ :: bd s1.2.2.2)) (fun da=>Exit.exit 0) (fun da ax=> [(0,I.of (aa)),(1,I.eq (.pointer (some ⟨od,0,none⟩))),(2,I.of (aR)),(3,I.of (c3)),(4,I.eq (.pointer (some ⟨aT,0,none⟩))),(8,I.of (none:Ref)),(9,I.of ([]:List aM)),(10,I.of (aP.1)),(11,I.eq (aV ax.1 da.2.2.1.length ax.2)),(12,I.of (da.1)),(32,I.of (da.2.1))]) (fun da ax=>(⟨ax.1,.row 52 (da.2.2.1:List aM) ax.2⟩ :: ⟨some aT,.var (aa:a3)⟩ :: ⟨some od,.var (da.2.2.2.1:bw)⟩ :: bd da.2.2.2.2)) (none,0) rfl (.same rfl (.same rfl (.same rfl (.same rfl (.same rfl (.same rfl (.same rfl (.same rfl (.same rfl (.same rfl .nil)))))))))) (fun s1 R h ax=> ?_) (fun az h ax=> ?_)
 ·refine ai.seq ?_
  refine aD ?_
  refine aB ?_
  refine aB ?_
  refine bj dZ ?_
  refine aB ?_
  refine dU cQ ?_
  obtain⟨bc,ek,h⟩:=aG.cT h
  refine eY (fun hb=>bX.Lb (z:=(s1.2.2.1:bw)) 2 30 rfl (fun _ _ _ h=>h.1 hb) rfl w8 (hP Lw (NF (ib ek hb)) ⟨ae rfl,trivial⟩)) ?_
  refine k6 ?_
  refine aN ?_
  refine ai.cond (ae rfl) (fun ar=> ?_) (fun ar=> ?_)
  ·replace h:=qU ar h
   refine cO ?_
   refine ai.seq ?_
   refine ai.block ?_
   refine aD ?_
   refine aB ?_
   refine cc 1 fy ?_
   refine aB ?_
   refine ah.b6 2 rfl ?_
   obtain⟨bf,fh,h⟩:=aG.cT h
   refine eD 1 UF (NV fh) fun fi=> ?_
   refine aB ?_
   refine bj dg ?_
   obtain⟨bk,dc,h⟩:=aG.cT h
   refine cZ dc (cC (b:=({ (default:aM) with b5:=bf.1,cy:=bD (s1.1 + 1) } :aM)) rfl Fp h6 (.cons iL rfl (ae rfl) rfl (.cons jL rfl (ae rfl) rfl (.nil)))) ?_
   refine cG h6 fun a7=> ?_
   refine ca 0 cV ?_
   refine bS ?_
   refine aB ?_
   refine cc 0 cV ?_
   refine ah.mH 4 0 rfl UG (N7 h) rfl rfl ⟨ae rfl,ae rfl,trivial⟩ rfl fun⟨⟨cb,h⟩,iq⟩=> ?_
   refine ah.fg (L2:=(⟨some a7,.var (bk:aM)⟩ :: ⟨some od,.var (bf.2:bw)⟩ :: ⟨ax.1,.row 52 (s1.2.1:List aM) ax.2⟩ :: ⟨some aT,.var (aa:a3)⟩ :: bd cb.2)) rfl ?_
   refine aN ?_
   obtain⟨bO,cM,h⟩:=aG.cT h
   refine ai.dt (γ:=(Option Nat × Nat)) (fun a1=> [(0,I.of (aa)),(1,I.eq (.pointer (some ⟨od,0,none⟩))),(2,I.of (aR)),(3,I.of (c3)),(4,I.eq (.pointer (some ⟨aT,0,none⟩))),(8,I.of (none:Ref)),(9,I.of ([]:List aM)),(10,I.of (aP.1)),(11,I.eq (aV a1.1 bO.length a1.2)),(12,I.of (s1.1)),(13,I.eq (.pointer (some ⟨a7,0,none⟩))),(32,I.of ((decide (s1.1 < c3)) && bc)),(44,I.of (cb.1))]) (fun a1=>(⟨some a7,.var (bk:aM)⟩ :: ⟨some od,.var (bf.2:bw)⟩ :: ⟨a1.1,.row 52 (bO:List aM) a1.2⟩ :: ⟨some aT,.var (aa:a3)⟩ :: bd cb.2)) (ae rfl) (fun a1=> ?_) (fun hm ar=> ?_) (fun hm ar=> ?_)
   ·clear cM
    refine ag.ea ?_
    refine ag.next ?_
    refine ai.cl ?_
    refine aB ?_
    refine bj dg ?_
    refine aQ ?_
    refine ah.nil ?_
    refine ag.b6 3 rfl ?_
    refine ag.b6 3 rfl ?_
    refine ag.b6 2 rfl ?_
    exact ag.J9 h (a1.1,a1.2) 1 rfl (.same rfl (.same rfl (.same rfl (.same rfl (.same rfl (.same rfl (.same rfl (.same rfl (.same rfl (.same rfl .nil))))))))))
   ·have h:=ht ar cM
    refine ai.cl ?_
    refine aB ?_
    refine cc 0 cV ?_
    refine fM [bk] Tryz.underlying38 cV h6 ?_
    obtain⟨cN,g4,h⟩:=aw h
    refine je 2 Tryz.underlying38 cV h6 g4 fun gH eU=> ?_
    refine aQ ?_
    refine ah.nil ?_
    obtain rfl:=aI h
    exact dI 0 (hm (gH,eU))
   ·have h:=hv ar cM
    refine ai.skip ?_
    obtain rfl:=aI h
    exact dI 0 (hm (ax.1,ax.2))
  ·replace h:=qV ar h
   refine ai.exit ?_
   refine ag.exit ?_
   exact ag.Eb h (ax.1,ax.2) 0 rfl (by simp) rfl (.same rfl (.same rfl (.same rfl (.same rfl (.same rfl (.same rfl (.same rfl (.same rfl (.same rfl (.same rfl (.same rfl .nil)))))))))))
 ·refine ag.fe ?_
  refine ag.next ?_
  refine aD ?_
  refine aB ?_
  refine aB ?_
  refine aQ ?_
  refine aQ ?_
  refine aN ?_
  refine ai.ret ?_
  refine ag.kV (α:=aM) 0 [9,11,50] ⟨rfl,rfl,rfl,trivial⟩ rfl ?_
  refine ag.b6 2 rfl ?_
  exact ag.pM (⟨⟨(aP.1,az.2.2.1,az.2.2.2.1,az.2.2.2.2),h⟩,()⟩: {r // _} × _) (.cons_cons _ (.cons _ (.cons _ (.refl _)))) rfl rfl (fP rfl) (fP rfl)
end Go.Proofs.YtmnggbjcnoffeaaGreat
namespace Go.Proofs.YtmnggbjcnoffeaaGreat
open Go Gv
set_option linter.unusedVariables false
set_option linter.unusedSimpArgs false
set_option maxRecDepth 100000
set_option maxHeartbeats 2000000
theorem N8 {hp:bb Cell} {aa:List (BitVec 8)} {aj:List (BitVec 8)} {aR:Int} {Q:Bool × (bb Cell)→Prop} (h:wF hp aa aj aR Q):cz Tryz.prog 6 [I.of (aa),I.of (aj),I.of (aR)] ([] ++ bd hp) (δ:= {r:Bool × (bb Cell) // Q r} × Unit) (fun d=>I.of (d.1.1.1)) (fun d=> [] ++ bd d.1.1.2):=by
 unfold wF at h
 refine cz.of Tryz.func6 rfl Tryz.ntmps6 rfl fun W A=> ?_
 refine aD ?_
 refine aQ ?_
 refine bS ?_
 refine aB ?_
 obtain⟨ak,bB,h⟩:=aG.cT h
 refine eD 0 Fm (C8 bB) fun aE=> ?_
 refine ah.b6 0 rfl ?_
 obtain⟨aP,cg,h⟩:=aG.cT h
 refine eD 1 LG (Hz cg) fun da=> ?_
 refine aB ?_
 obtain⟨bc,ek,h⟩:=aG.cT h
 refine eD 0 Fm (C8 ek) fun fi=> ?_
 refine cG yz fun aT=> ?_
 refine ca 0 fy ?_
 refine aQ ?_
 refine bS ?_
 refine cc 0 fy ?_
 refine aB ?_
 refine aB ?_
 refine ah.b6 1 rfl ?_
 refine ah.MN (gM.mH 3 1 rfl UH (Ow h) rfl rfl ⟨ae rfl,ae rfl,ae rfl,bz 12,trivial⟩) rfl rfl rfl fun⟨⟨bf,h⟩,iq⟩=> ?_
 refine ah.fg (L2:=(⟨some fi,.var (bf.2.2.1:bw)⟩ :: ⟨some aT,.var (aP.1:a3)⟩ :: ⟨some aE,.var (aP.2:bw)⟩ :: bd bf.2.2.2)) rfl ?_
 refine aB ?_
 refine gf ?_
 refine gf ?_
 refine aQ ?_
 refine aQ ?_
 refine bM ?_
 refine aD ?_
 refine aB ?_
 refine aW (eJ Tryz.underlying38) ?_
 refine aB ?_
 refine aN ?_
 refine ai.block ?_
 obtain⟨az,aq,h⟩:=aG.cT h
 refine ai.uY (σ:=Int) (ε:=(Int × Bool) ⊕ (Bool × Int × Bool × Int × Int × Bool × (List aM) × Int × Int × Bool × Bool)) (γ:=Unit) (δ:=Unit) aq (fun s1 ax=> [(0,I.of (aa)),(1,I.of (aj)),(2,I.of (aR)),(6,I.of (false)),(7,I.eq (.pointer (some ⟨aT,0,none⟩))),(8,I.eq (.pointer (some ⟨fi,0,none⟩))),(10,I.of (bf.2.1)),(32,I.of (bf.2.1)),(33,I.of (bf.2.1.length:Int)),(34,I.of (s1))]) (fun s1 ax=>(⟨some fi,.var (bf.2.2.1:bw)⟩ :: ⟨some aT,.var (aP.1:a3)⟩ :: ⟨some aE,.var (aP.2:bw)⟩ :: bd bf.2.2.2)) (fun dM=>Sum.elim (fun dM=>Exit.exit 0) (fun dM=>Exit.ret) dM) (fun dM ax=>Sum.elim (fun dM=> [(0,I.of (aa)),(1,I.of (aj)),(2,I.of (aR)),(6,I.of (false)),(7,I.eq (.pointer (some ⟨aT,0,none⟩))),(8,I.eq (.pointer (some ⟨fi,0,none⟩))),(10,I.of (bf.2.1)),(32,I.of (bf.2.1)),(33,I.of (bf.2.1.length:Int)),(34,I.of (dM.1)),(35,I.of (dM.2))]) (fun dM=> [(0,I.of (aa)),(1,I.of (aj)),(2,I.of (aR)),(6,I.of (false)),(7,I.eq (.pointer (some ⟨aT,0,none⟩))),(8,I.eq (.pointer (some ⟨fi,0,none⟩))),(10,I.of (bf.2.1)),(16,I.of (dM.1)),(17,I.of (dM.2.1)),(18,I.of (dM.2.2.1)),(19,I.of (dM.2.2.2.1)),(32,I.of (bf.2.1)),(33,I.of (bf.2.1.length:Int)),(34,I.of (dM.2.2.2.2.1)),(35,I.of (dM.2.2.2.2.2.1)),(38,I.of (dM.2.2.2.2.2.2.1)),(39,I.of (dM.2.2.2.2.2.2.2.1)),(40,I.of (dM.2.2.2.2.2.2.2.2.1)),(41,I.of (dM.2.2.2.2.2.2.2.2.2.1)),(91,I.of (dM.2.2.2.2.2.2.2.2.2.2))]) dM) (fun dM ax=>Sum.elim (fun dM=>(⟨some fi,.var (bf.2.2.1:bw)⟩ :: ⟨some aT,.var (aP.1:a3)⟩ :: ⟨some aE,.var (aP.2:bw)⟩ :: bd bf.2.2.2)) (fun dM=>(⟨some fi,.var (bf.2.2.1:bw)⟩ :: ⟨some aT,.var (aP.1:a3)⟩ :: ⟨some aE,.var (aP.2:bw)⟩ :: bd bf.2.2.2)) dM) () rfl (.same rfl (.same rfl (.same rfl (.same rfl (.same rfl (.same rfl (.same rfl (.same rfl (.same rfl (.same rfl .nil)))))))))) (fun s1 r h ax=> ?_) (fun ax=> ?_)
 ·clear aq
  refine aD ?_
  refine bj dZ ?_
  refine bM ?_
  refine ck h (fun h=>?_) fun h=>?_
  ·refine cO ?_
   refine ai.seq ?_
   refine ai.block ?_
   refine aD ?_
   obtain⟨a4,cw,h⟩:=aw h
   refine fL cw Tryz.underlying38 cV ?_
   refine aW (cL cV) ?_
   refine cG h6 fun a7=> ?_
   refine ca 0 cV ?_
   refine bS ?_
   refine ah.own (α:=aM) 52 ?_
   refine bp (eG qO) ?_
   refine bM ?_
   refine aD ?_
   refine aB ?_
   refine aW (eJ Tryz.underlying38) ?_
   refine aB ?_
   refine aN ?_
   refine ai.block ?_
   obtain⟨aX,aq,h⟩:=aw h
   refine ai.uY (σ:=Int × (List aM)) (ε:=(Int × Bool × (List aM))) (γ:=(Option Nat × Nat)) (δ:=(Option Nat × Nat)) aq (fun s2 a1=> [(0,I.of (aa)),(1,I.of (aj)),(2,I.of (aR)),(6,I.of (false)),(7,I.eq (.pointer (some ⟨aT,0,none⟩))),(8,I.eq (.pointer (some ⟨fi,0,none⟩))),(10,I.of (bf.2.1)),(12,I.eq (.pointer (some ⟨a7,0,none⟩))),(13,I.eq (aV a1.1 s2.2.length a1.2)),(32,I.of (bf.2.1)),(33,I.of (bf.2.1.length:Int)),(34,I.of (s1)),(35,I.of (decide (s1 < (bf.2.1.length:Int)))),(38,I.of (bf.2.1)),(39,I.of (bf.2.1.length:Int)),(40,I.of (s2.1))]) (fun s2 a1=>(⟨a1.1,.row 52 (s2.2:List aM) a1.2⟩ :: ⟨some a7,.var (aA bf.2.1 a4:aM)⟩ :: ⟨some fi,.var (bf.2.2.1:bw)⟩ :: ⟨some aT,.var (aP.1:a3)⟩ :: ⟨some aE,.var (aP.2:bw)⟩ :: bd bf.2.2.2)) (fun g8=>Exit.exit 2) (fun g8 a1=> [(0,I.of (aa)),(1,I.of (aj)),(2,I.of (aR)),(6,I.of (false)),(7,I.eq (.pointer (some ⟨aT,0,none⟩))),(8,I.eq (.pointer (some ⟨fi,0,none⟩))),(10,I.of (bf.2.1)),(12,I.eq (.pointer (some ⟨a7,0,none⟩))),(13,I.eq (aV a1.1 g8.2.2.length a1.2)),(32,I.of (bf.2.1)),(33,I.of (bf.2.1.length:Int)),(34,I.of (s1)),(35,I.of (decide (s1 < (bf.2.1.length:Int)))),(38,I.of (bf.2.1)),(39,I.of (bf.2.1.length:Int)),(40,I.of (g8.1)),(41,I.of (g8.2.1))]) (fun g8 a1=>(⟨a1.1,.row 52 (g8.2.2:List aM) a1.2⟩ :: ⟨some a7,.var (aA bf.2.1 a4:aM)⟩ :: ⟨some fi,.var (bf.2.2.1:bw)⟩ :: ⟨some aT,.var (aP.1:a3)⟩ :: ⟨some aE,.var (aP.2:bw)⟩ :: bd bf.2.2.2)) (none,0) rfl (.same rfl (.same rfl (.same rfl (.same rfl (.same rfl (.same rfl (.same rfl (.same rfl (.same rfl (.same rfl (.same rfl (.same rfl (.same rfl (.same rfl (.same rfl (.same rfl .nil)))))))))))))))) (fun s2 r h a1=> ?_) (fun a1=> ?_)
   ·clear aq
    refine aD ?_
    refine bj dZ ?_
    refine bM ?_
    refine ck h (fun h=>?_) fun h=>?_
    ·refine cO ?_
     refine ai.seq ?_
     refine ai.block ?_
     refine aD ?_
     obtain⟨bZ,c7,h⟩:=aw h
     refine fL c7 Tryz.underlying38 cV ?_
     refine aW (cL cV) ?_
     refine cG h6 fun bU=> ?_
     refine ca 0 cV ?_
     refine bS ?_
     refine aW (a0 kW) ?_
     refine b3 0 jL bG ?_
     refine aW (a0 kW) ?_
     refine b3 2 jL bG ?_
     refine bj gb ?_
     refine aB ?_
     refine eY (fun hb=>gx (i:=4) (aL.id a3) (r:=aP.1) fy (ae rfl) rfl rfl rfl) ?_
     refine eY (fun hb=>gx (i:=0) (aL.id aM) (r:=(aA bf.2.1 bZ)) cV (ae rfl) rfl rfl rfl) ?_
     refine eY (fun hb=>gx (i:=2) (aL.id aM) (r:=(aA bf.2.1 a4)) cV (ae rfl) rfl rfl rfl) ?_
     obtain⟨cb,gL,h⟩:=aw h
     refine eY (fun hb=>hP UI (OA (ib gL hb)) ⟨cY rfl hb,cY rfl hb,cY rfl hb,trivial⟩) ?_
     refine o1 ?_
     refine aN ?_
     obtain⟨bO,cM,h⟩:=aw h
     refine ai.dt (γ:=(Option Nat × Nat)) (fun br=> [(0,I.of (aa)),(1,I.of (aj)),(2,I.of (aR)),(6,I.of (false)),(7,I.eq (.pointer (some ⟨aT,0,none⟩))),(8,I.eq (.pointer (some ⟨fi,0,none⟩))),(10,I.of (bf.2.1)),(12,I.eq (.pointer (some ⟨a7,0,none⟩))),(13,I.eq (aV br.1 bO.length br.2)),(15,I.eq (.pointer (some ⟨bU,0,none⟩))),(32,I.of (bf.2.1)),(33,I.of (bf.2.1.length:Int)),(34,I.of (s1)),(35,I.of (decide (s1 < (bf.2.1.length:Int)))),(38,I.of (bf.2.1)),(39,I.of (bf.2.1.length:Int)),(40,I.of (s2.1)),(41,I.of (decide (s2.1 < (bf.2.1.length:Int)))),(54,I.of ((((aA bf.2.1 bZ).cy) ==((aA bf.2.1 a4).cy)) || cb))]) (fun br=>(⟨some bU,.var (aA bf.2.1 bZ:aM)⟩ :: ⟨br.1,.row 52 (bO:List aM) br.2⟩ :: ⟨some a7,.var (aA bf.2.1 a4:aM)⟩ :: ⟨some fi,.var (bf.2.2.1:bw)⟩ :: ⟨some aT,.var (aP.1:a3)⟩ :: ⟨some aE,.var (aP.2:bw)⟩ :: bd bf.2.2.2)) (ae rfl) (fun br=> ?_) (fun hm ar=> ?_) (fun hm ar=> ?_)
     ·clear cM
      refine ag.ea ?_
      refine ag.next ?_
      refine ai.cl ?_
      refine bj dg ?_
      refine aB ?_
      refine ah.nil ?_
      obtain rfl:=aI h
      exact fo (br.1,br.2) 1
     ·have h:=ht ar cM
      refine ai.cl ?_
      refine aB ?_
      refine cc 0 cV ?_
      refine fM [(aA bf.2.1 bZ)] Tryz.underlying38 cV h6 ?_
      obtain⟨cN,g4,h⟩:=aw h
      refine je 1 Tryz.underlying38 cV h6 g4 fun gH eU=> ?_
      refine aQ ?_
      refine ah.nil ?_
      obtain rfl:=aI h
      exact dI 0 (hm (gH,eU))
     ·have h:=hv ar cM
      refine ai.skip ?_
      obtain rfl:=aI h
      exact dI 0 (hm (a1.1,a1.2))
    ·refine ai.exit ?_
     refine ag.exit ?_
     obtain rfl:=aI h
     exact eh (a1.1,a1.2) 0
   ·clear aq
    refine ag.fe ?_
    refine ag.next ?_
    refine aD ?_
    refine cc 3 fy ?_
    refine aB ?_
    refine aW (a0 kW) ?_
    refine b3 1 jL bG ?_
    obtain⟨dm,kK,h⟩:=aw h
    refine dF BO (AB kK) ?_
    refine aB ?_
    refine gf ?_
    refine gf ?_
    refine aQ ?_
    refine aQ ?_
    refine bS ?_
    refine cc 3 fy ?_
    refine aB ?_
    refine aW (a0 kW) ?_
    refine b3 1 jL bG ?_
    obtain⟨et,kk,h⟩:=aw h
    refine bp (bX.LD (α:=aM) 0 70 rfl rfl (AQ w8 qP) (hP BO (AB kk) ⟨ae rfl,ae rfl,ae rfl,trivial⟩)) ?_
    refine aB ?_
    refine gf ?_
    refine gf ?_
    refine aQ ?_
    refine aQ ?_
    refine bS ?_
    refine aB ?_
    refine aB ?_
    refine bj (Ty Tryz.underlying4) ?_
    refine aB ?_
    refine dU cQ ?_
    refine dU cQ ?_
    refine jX sC ?_
    refine o1 ?_
    refine aB ?_
    refine dU cQ ?_
    refine eY (fun hb=>su (i:=0) Tryz.underlying38 (cY rfl hb) rfl rfl) ?_
    refine jX gb ?_
    refine dU cQ ?_
    refine ah.gg (fun hb=>cQ (ae rfl)) rfl rfl rfl rfl rfl ?_
    refine eY (fun hb=>oJ (cY rfl hb) (ae rfl) (fun h=>⟨hb,h⟩)) ?_
    obtain⟨bk,dc,h⟩:=aw h
    refine cZ dc (vi (ae rfl) (ae rfl) (fun h=>h)) ?_
    refine aN ?_
    refine ck h (fun h=>?_) fun h=>?_
    ·refine aD ?_
     refine aQ ?_
     refine aN ?_
     refine ai.ret ?_
     refine ag.eC ?_
     refine ag.ret ?_
     obtain rfl:=aI h
     exact eh () 2
    ·refine ai.skip ?_
     refine ag.ea ?_
     refine ag.next ?_
     refine ai.cl ?_
     refine bj dg ?_
     refine aB ?_
     refine ah.nil ?_
     obtain rfl:=aI h
     exact fo () 2
  ·refine ai.exit ?_
   refine ag.exit ?_
   obtain rfl:=aI h
   exact eh () 0
 ·clear aq
  rcases az with az | az
  ·simp only [Sum.elim_inl] at h
   refine ag.fe ?_
   refine ag.next ?_
   refine aD ?_
   obtain⟨fk,mT,h⟩:=aG.cT h
   refine dF UJ (OD mT) ?_
   refine aQ ?_
   refine aN ?_
   refine ai.ret ?_
   exact ag.gR (⟨⟨(fk,bf.2.2.2),h⟩,()⟩: {r // _} × _) (.cons _ (.cons _ (.cons _ (.refl _)))) rfl rfl (fP rfl)
  ·simp only [Sum.elim_inr] at h
   refine ag.eC ?_
   refine ag.ret ?_
   exact ag.gR (⟨⟨(false,bf.2.2.2),h⟩,()⟩: {r // _} × _) (.cons _ (.cons _ (.cons _ (.refl _)))) rfl rfl (fP rfl)
end Go.Proofs.YtmnggbjcnoffeaaGreat
