/-
  Each function meets its functional program. Conditions: none.
-/
import Derived.Test.YtmnggbjcnoffeaaGreatMd
import Derived.Test.YtmnggbjcnoffeaaGreatMc0
set_option linter.unusedVariables false
set_option linter.unusedSimpArgs false
set_option maxRecDepth 100000
set_option maxHeartbeats 2000000
namespace Go.Proofs.YtmnggbjcnoffeaaGreat
open Go Gv
theorem Q9 {aa:List bV} {aj:List bV} {aP:bV→bV→Option Int} {r:Int} (h:zd aa aj aP=some r):bK Tryz.prog 134 [I.of (aa),I.of (aj),I.q5 Tryz.prog aP] (I.of (r)):=by
 unfold zd at h
 refine bK.of Tryz.func134 rfl Tryz.ntmps134 rfl fun W A=> ?_
 refine aF ?_
 refine aL ?_
 refine bO ?_
 refine aF ?_
 refine aD ?_
 refine aY (eK Tryz.underlying47) ?_
 refine aD ?_
 refine aK ?_
 refine ag.block ?_
 obtain⟨av,ao,h⟩:=aw h
 refine hT (γ:=Unit) (δ:=Unit) ao [0,1,2,11,12] (fun s1 aq=> [(6,I.of (0:Int)),(13,I.of (s1))]) (fun s1 aq=> []) (fun az=>Sum.elim (fun az=>Exit.exit 0) (fun az=>Exit.ret) az) (fun az aq=>Sum.elim (fun az=> [(6,I.of (0:Int)),(13,I.of (az.1)),(14,I.of (az.2))]) (fun az=> [(6,I.of (az.1)),(7,I.of (az.2.1)),(13,I.of (az.2.2.1)),(14,I.of (az.2.2.2.1)),(21,I.of (az.2.2.2.2))]) az) (fun az aq=>Sum.elim (fun az=> []) (fun az=> []) az) () (fun s1 r h aq=> ?_) fun aq=> ?_
 ·clear ao
  refine aF ?_
  refine bm eT ?_
  refine bO ?_
  refine cm h (fun h=>?_) fun h=>?_
  ·refine cW ?_
   refine ag.seq ?_
   refine ag.block ?_
   refine aF ?_
   refine aD ?_
   obtain⟨a8,cE,h⟩:=aw h
   refine hU cE Tryz.underlying47 fr ?_
   refine aY (dV fr) ?_
   refine c1 mN fun aZ=> ?_
   refine aL ?_
   refine cA 0 fr ?_
   refine bO ?_
   refine aF ?_
   refine aD ?_
   refine aD ?_
   refine aY (eK Tryz.underlying47) ?_
   refine bm kT ?_
   refine aK ?_
   refine cm h (fun h=>?_) fun h=>?_
   ·refine aF ?_
    refine aL ?_
    refine aK ?_
    refine ag.ret ?_
    refine ae.ret ?_
    refine ae.dn ?_
    refine ae.ret ?_
    obtain rfl:=aI h
    exact eD () 1
   ·refine cW ?_
    refine aF ?_
    refine aD ?_
    refine aD ?_
    obtain⟨bY,cX,h⟩:=aw h
    refine hU cX Tryz.underlying47 fr ?_
    refine aY (dV fr) ?_
    refine c1 mN fun bc=> ?_
    refine cA 0 fr ?_
    refine b0 ?_
    refine aD ?_
    refine cG 1 fr ?_
    refine cG 0 fr ?_
    obtain⟨aG,bo,h⟩:=aw h
    refine bl (Ay (ab rfl) (ab rfl) (ab rfl) bo) ?_
    refine aL ?_
    refine b0 ?_
    refine aD ?_
    refine bm qV ?_
    refine aK ?_
    refine cm h (fun h=>?_) fun h=>?_
    ·refine aF ?_
     refine aD ?_
     refine aL ?_
     refine aK ?_
     refine ag.ret ?_
     refine ae.dn ?_
     refine ae.ret ?_
     obtain rfl:=aI h
     exact eD () 2
    ·refine ag.skip ?_
     refine ae.ea ?_
     refine ae.next ?_
     refine ag.cz ?_
     refine bm dI ?_
     refine aD ?_
     refine ah.nil ?_
     obtain rfl:=aI h
     exact gP () 2
  ·refine ag.exit ?_
   refine ae.exit ?_
   obtain rfl:=aI h
   exact eD () 0
 ·clear ao
  rcases av with av | av
  ·simp only [Sum.elim_inl] at h
   refine ae.fM ?_
   refine ae.next ?_
   refine ag.seq ?_
   refine aF ?_
   refine aD ?_
   refine aY (eK Tryz.underlying47) ?_
   refine aD ?_
   refine aY (eK Tryz.underlying47) ?_
   refine bm eT ?_
   refine aK ?_
   refine cm h (fun h=>?_) fun h=>?_
   ·refine aF ?_
    refine aL ?_
    refine aK ?_
    refine ag.ret ?_
    refine ae.ret ?_
    obtain rfl:=aI h
    exact cR
   ·refine cW ?_
    refine aF ?_
    refine aL ?_
    refine aK ?_
    refine ag.ret ?_
    obtain rfl:=aI h
    exact cR
  ·simp only [Sum.elim_inr] at h
   refine ae.dn ?_
   refine ae.ret ?_
   obtain rfl:=aI h
   exact cR
theorem Ra {aa:List ar} {aj:List ar} {aP:ar→ar→Option Int} {r:Int} (h:ze aa aj aP=some r):bK Tryz.prog 136 [I.of (aa),I.of (aj),I.q5 Tryz.prog aP] (I.of (r)):=by
 unfold ze at h
 refine bK.of Tryz.func136 rfl Tryz.ntmps136 rfl fun W A=> ?_
 refine aF ?_
 refine aL ?_
 refine bO ?_
 refine aF ?_
 refine aD ?_
 refine aY (eK Tryz.underlying48) ?_
 refine aD ?_
 refine aK ?_
 refine ag.block ?_
 obtain⟨av,ao,h⟩:=aw h
 refine hT (γ:=Unit) (δ:=Unit) ao [0,1,2,11,12] (fun s1 aq=> [(6,I.of (0:Int)),(13,I.of (s1))]) (fun s1 aq=> []) (fun az=>Sum.elim (fun az=>Exit.exit 0) (fun az=>Exit.ret) az) (fun az aq=>Sum.elim (fun az=> [(6,I.of (0:Int)),(13,I.of (az.1)),(14,I.of (az.2))]) (fun az=> [(6,I.of (az.1)),(7,I.of (az.2.1)),(13,I.of (az.2.2.1)),(14,I.of (az.2.2.2.1)),(21,I.of (az.2.2.2.2))]) az) (fun az aq=>Sum.elim (fun az=> []) (fun az=> []) az) () (fun s1 r h aq=> ?_) fun aq=> ?_
 ·clear ao
  refine aF ?_
  refine bm eT ?_
  refine bO ?_
  refine cm h (fun h=>?_) fun h=>?_
  ·refine cW ?_
   refine ag.seq ?_
   refine ag.block ?_
   refine aF ?_
   refine aD ?_
   obtain⟨a8,cE,h⟩:=aw h
   refine hU cE Tryz.underlying48 bQ ?_
   refine aY (dV bQ) ?_
   refine c1 ek fun aZ=> ?_
   refine aL ?_
   refine cA 0 bQ ?_
   refine bO ?_
   refine aF ?_
   refine aD ?_
   refine aD ?_
   refine aY (eK Tryz.underlying48) ?_
   refine bm kT ?_
   refine aK ?_
   refine cm h (fun h=>?_) fun h=>?_
   ·refine aF ?_
    refine aL ?_
    refine aK ?_
    refine ag.ret ?_
    refine ae.ret ?_
    refine ae.dn ?_
    refine ae.ret ?_
    obtain rfl:=aI h
    exact eD () 1
   ·refine cW ?_
    refine aF ?_
    refine aD ?_
    refine aD ?_
    obtain⟨bY,cX,h⟩:=aw h
    refine hU cX Tryz.underlying48 bQ ?_
    refine aY (dV bQ) ?_
    refine c1 ek fun bc=> ?_
    refine cA 0 bQ ?_
    refine b0 ?_
    refine aD ?_
    refine cG 1 bQ ?_
    refine cG 0 bQ ?_
    obtain⟨aG,bo,h⟩:=aw h
    refine bl (Ay (ab rfl) (ab rfl) (ab rfl) bo) ?_
    refine aL ?_
    refine b0 ?_
    refine aD ?_
    refine bm qV ?_
    refine aK ?_
    refine cm h (fun h=>?_) fun h=>?_
    ·refine aF ?_
     refine aD ?_
     refine aL ?_
     refine aK ?_
     refine ag.ret ?_
     refine ae.dn ?_
     refine ae.ret ?_
     obtain rfl:=aI h
     exact eD () 2
    ·refine ag.skip ?_
     refine ae.ea ?_
     refine ae.next ?_
     refine ag.cz ?_
     refine bm dI ?_
     refine aD ?_
     refine ah.nil ?_
     obtain rfl:=aI h
     exact gP () 2
  ·refine ag.exit ?_
   refine ae.exit ?_
   obtain rfl:=aI h
   exact eD () 0
 ·clear ao
  rcases av with av | av
  ·simp only [Sum.elim_inl] at h
   refine ae.fM ?_
   refine ae.next ?_
   refine ag.seq ?_
   refine aF ?_
   refine aD ?_
   refine aY (eK Tryz.underlying48) ?_
   refine aD ?_
   refine aY (eK Tryz.underlying48) ?_
   refine bm eT ?_
   refine aK ?_
   refine cm h (fun h=>?_) fun h=>?_
   ·refine aF ?_
    refine aL ?_
    refine aK ?_
    refine ag.ret ?_
    refine ae.ret ?_
    obtain rfl:=aI h
    exact cR
   ·refine cW ?_
    refine aF ?_
    refine aL ?_
    refine aK ?_
    refine ag.ret ?_
    obtain rfl:=aI h
    exact cR
  ·simp only [Sum.elim_inr] at h
   refine ae.dn ?_
   refine ae.ret ?_
   obtain rfl:=aI h
   exact cR
theorem Le {aa:bV} {r:Int} (h:xv aa=some r):bK Tryz.prog 186 [I.of (aa)] (I.of (r)):=by
 unfold xv at h
 refine bK.of Tryz.func186 rfl Tryz.ntmps186 rfl fun W A=> ?_
 refine aF ?_
 refine cj fun aZ=> ?_
 refine aL ?_
 refine bO ?_
 refine aF ?_
 refine aY (aT tm) ?_
 refine cq 0 nD gi ?_
 refine aK ?_
 refine cm h (fun h=>?_) fun h=>?_
 ·refine aF ?_
  refine aL ?_
  refine aK ?_
  refine ag.ret ?_
  refine ae.ret ?_
  obtain rfl:=aI h
  exact cR
 ·refine cW ?_
  refine aF ?_
  refine aL ?_
  refine aK ?_
  refine ag.ret ?_
  obtain rfl:=aI h
  exact cR
theorem xw {aa:ar} {aj:ar} {r:Int} (h:o2 aa aj=some r):bK Tryz.prog 137 [I.of (aa),I.of (aj)] (I.of (r)):=by
 unfold o2 at h
 refine bK.of Tryz.func137 rfl Tryz.ntmps137 rfl fun W A=> ?_
 refine aF ?_
 refine cj fun aZ=> ?_
 refine cj fun bc=> ?_
 refine aL ?_
 refine bO ?_
 refine ag.block ?_
 refine aF ?_
 refine cG 1 bQ ?_
 refine cG 0 bQ ?_
 refine bm (yb oE rfl tx rfl) ?_
 refine aL ?_
 refine aK ?_
 refine cm h (fun h=>?_) fun h=>?_
 ·refine aF ?_
  refine aL ?_
  refine aK ?_
  refine ag.ret ?_
  refine ae.dn ?_
  refine ae.ret ?_
  obtain rfl:=aI h
  exact cR
 ·refine aF ?_
  refine aY (aT j5) ?_
  refine cq 1 hx eC ?_
  refine aY (aT j5) ?_
  refine cq 0 hx eC ?_
  refine bm M3 ?_
  refine aD ?_
  refine ey (aT j5) ?_
  refine ep (fun hb=>eA (i:=1) ((aN.id ar).comp hx) (r:=aa.cV) eC (cb rfl hb) rfl rfl rfl) ?_
  refine ey (aT j5) ?_
  refine ep (fun hb=>eA (i:=0) ((aN.id ar).comp hx) (r:=aj.cV) eC (cb rfl hb) rfl rfl rfl) ?_
  refine kE xQ ?_
  refine ey cM ?_
  refine ah.gg (fun hb=>aT h4 (ab rfl)) rfl rfl rfl rfl rfl ?_
  refine ah.gg (fun hb=>eA (i:=1) ((aN.id ar).comp ef) (r:=aa.bG) eC (cb rfl hb) rfl rfl rfl) rfl rfl rfl rfl rfl ?_
  refine ah.gg (fun hb=>aT h4 (ab rfl)) rfl rfl rfl rfl rfl ?_
  refine ah.gg (fun hb=>eA (i:=0) ((aN.id ar).comp ef) (r:=aj.bG) eC (cb rfl hb) rfl rfl rfl) rfl rfl rfl rfl rfl ?_
  refine ah.gg (fun hb=>M3 (cb rfl hb) (cb rfl hb)) rfl rfl rfl rfl rfl ?_
  refine ep (fun hb=>pc (cb rfl hb) (ab rfl) (fun h=>⟨hb,h⟩)) ?_
  obtain⟨bE,dE,h⟩:=aw h
  refine dF dE (vT (ab rfl) (ab rfl) (fun h=>h)) ?_
  refine aL ?_
  refine aK ?_
  refine cm h (fun h=>?_) fun h=>?_
  ·refine aF ?_
   refine aL ?_
   refine aK ?_
   refine ag.ret ?_
   refine ae.dn ?_
   refine ae.ret ?_
   obtain rfl:=aI h
   exact cR
  ·refine ag.skip ?_
   refine ae.ea ?_
   refine ae.next ?_
   refine aF ?_
   refine aL ?_
   refine aK ?_
   refine ag.ret ?_
   obtain rfl:=aI h
   exact cR
theorem K5 {hp:aS Cell} {aa:Ref} {r:Bool} (h:xn hp aa=some r):bM Tryz.prog 252 [I.of (aa)] ([] ++ aV hp) (δ:=Unit) (fun _=>I.of (r)) (fun _=> [] ++ aV hp):=by
 unfold xn at h
 refine bM.of Tryz.func252 rfl Tryz.ntmps252 rfl fun W A=> ?_
 refine aF ?_
 refine aL ?_
 refine b0 ?_
 refine aD ?_
 obtain⟨ca,dh,h⟩:=aw h
 refine bl (dD (eg (ab rfl) dh)) ?_
 refine aY (aT qJ) ?_
 obtain⟨bC,dP,h⟩:=aw h
 refine bl (fA ((aN.id dx).comp qB) (r:=bC.dC) gi (ab rfl) (eM (n:=0) rfl (iP dP) rfl) rfl rfl) ?_
 refine aY hP ?_
 refine aD ?_
 refine ey cM ?_
 obtain⟨b2,eZ,h⟩:=aw h
 refine ep (fun hb=>dD (eg (cb rfl hb) (fE eZ hb))) ?_
 refine ey (aT qL) ?_
 obtain⟨cf,fk,h⟩:=aw h
 refine ep (fun hb=>fA ((aN.id dx).comp qA) (r:=cf.cU) Oq (cb rfl hb) (eM (n:=0) rfl (iP (fE fk hb)) rfl) rfl rfl) ?_
 refine ep (fun hb=>UD (b:=(default:Vector Ref 2)) (sz:=1) rfl Tryz.underlying333 (by kernel_rfl) Xm (.nil)) ?_
 refine ep (fun hb=>UE Tryz.underlying333 dX Tryz.underlying331 V8 (cb rfl hb) (cb rfl hb) Xn) ?_
 refine jB ?_
 refine aL ?_
 refine aK ?_
 refine ag.ret ?_
 obtain rfl:=aI h
 exact ae.fi () (.refl _) rfl rfl (dv rfl)
theorem Rz {hp:aS Cell} {aa:Ref} {aj:ar} {aP:Int} {bR:List di} {oH:Nat} {Hw:Option Nat} {Hx:Nat} {r:(List di)} (h:C8 hp aa aj aP bR=some r):bM Tryz.prog 257 [I.of (aa),I.of (aj),I.of (aP),I.eq (.pointer (some ⟨oH,0,none⟩))] ([⟨some oH,.b4 ([]:List di) [(0,a2 Hw bR.length Hx)]⟩,⟨Hw,.row 347 (bR:List di) Hx⟩] ++ aV hp) (δ:=(Option Nat × Nat)) (fun d=>I.ed []) (fun d=> [⟨some oH,.b4 ([]:List di) [(0,a2 d.1 (r).length d.2)]⟩,⟨d.1,.row 347 (r:List di) d.2⟩] ++ aV hp):=by
 unfold C8 at h
 refine bM.of Tryz.func257 rfl Tryz.ntmps257 rfl fun W A=> ?_
 refine aF ?_
 refine cj fun aZ=> ?_
 refine b0 ?_
 refine aD ?_
 obtain⟨ca,dh,h⟩:=aw h
 refine bl (dD (eg (ab rfl) dh)) ?_
 refine aY (aT qJ) ?_
 obtain⟨bC,dP,h⟩:=aw h
 refine bl (fA ((aN.id dx).comp qB) (r:=bC.dC) gi (ab rfl) (eM (n:=3) rfl (iP dP) rfl) rfl rfl) ?_
 refine aK ?_
 obtain⟨bp,ck,h⟩:=aw h
 refine ag.cy (γ:=(Option Nat × Nat)) (fun aq=> [(0,I.of (aa)),(1,I.of (aj)),(2,I.of (aP)),(3,I.eq (.pointer (some ⟨oH,0,none⟩))),(5,I.eq (.pointer (some ⟨aZ,0,none⟩))),(10,I.of (bC.dC))]) (fun aq=>(⟨some aZ,.var (aj:ar)⟩ :: ⟨some oH,.b4 ([]:List di) [(0,a2 aq.1 bp.length aq.2)]⟩ :: ⟨aq.1,.row 347 (bp:List di) aq.2⟩ :: aV hp)) (ab rfl) (fun aq=> ?_) (fun hm ak=> ?_) (fun hm ak=> ?_)
 ·clear ck
  refine ae.nd ?_
  refine ae.bz 2 rfl ?_
  refine ae.bz 2 rfl ?_
  obtain rfl:=aI h
  exact ae.kU (aq.1,aq.2) (.cons_cons _ (.cons_cons _ (.cons _ (.refl _)))) rfl rfl
 ·have h:=gZ ak ck
  refine ag.draw mixed 9 [some 11,some 12,some 13,some 14,some 15,some 16,some 17,some 18,some 19] [[],[],[],[],[3],[4],[5],[1,2,6],[7]] [.val _,.val _,.val _,.val _,.val _,.val _,.val _,.val _,.val _] [false,false,false,false,false,false,false,false,false] (by kernel_rfl) rfl rfl rfl (fun da=>⟨dO fun L' al=>ih (i:=1) (q:=0) (β:=List di) (γ:=di) Iu (ab rfl) (al _ _ rfl rfl) rfl,fy 0 bQ,cZ,cZ,dO fun L' al=>dD (eg (ab rfl) dh),H1 (aT AI),dO fun L' al=>fA ((aN.id dx).comp zT) (r:=bC.hc) bF (ab rfl) (kc (fun i e q=>al i e q rfl) (eM (n:=3) rfl (iP dP) rfl)) rfl rfl,dO fun L' al=>c3 (b:= { cI:=aj,u1:=aP,bX:=bC.hc:di }) rfl Xo Iv (.cons RA rfl (ab rfl) rfl (.cons Rs rfl (ab rfl) rfl (.cons R5 rfl (ab rfl) rfl (.nil)))),dO fun L' al=>iI (r:= [{ cI:=aj,u1:=aP,bX:=bC.hc:di }]) Tryz.underlying342 Ot Iv rfl rfl (.cons (by simp) (ab rfl) (.nil)),trivial⟩) fun da=> ?_
  obtain⟨aG,bo,h⟩:=aw h
  refine nq 2 Tryz.underlying342 Ot Iv bo fun g3 fC=> ?_
  refine ah.j6 (i:=1) (γ:=di) (b':=([]:List di)) (os':= [(0,a2 g3 aG.length fC)]) (aN.id (List di)) Iu (ab rfl) (ab rfl) jc rfl rfl rfl rfl ?_
  refine ah.nil ?_
  obtain rfl:=aI h
  exact dp 0 (hm (g3,fC))
 ·have h:=g1 ak ck
  refine ag.skip ?_
  obtain rfl:=aI h
  exact dp 0 (hm (Hw,Hx))
theorem Tt {aa:BitVec 64} {r:ar} (h:GV aa=some r):bK Tryz.prog 166 [I.of (aa)] (I.of (r)):=by
 unfold GV at h
 refine bK.of Tryz.func166 rfl Tryz.ntmps166 rfl fun W A=> ?_
 refine aF ?_
 refine c1 ek fun aZ=> ?_
 refine b0 ?_
 refine aD ?_
 refine hC ha ek ({ (default:ar) with bG:=aa } :ar) (iK ef .nil) ?_
 refine cA 0 bQ ?_
 refine aK ?_
 refine ag.ret ?_
 obtain rfl:=aI h
 exact ae.jg rfl (hK 0 bQ)
theorem SW {aa:ar} {aj:Int} {r:ar} (h:Ad aa aj=some r):bK Tryz.prog 165 [I.of (aa),I.of (aj)] (I.of (r)):=by
 unfold Ad at h
 refine bK.of Tryz.func165 rfl Tryz.ntmps165 rfl fun W A=> ?_
 refine aF ?_
 refine cj fun aZ=> ?_
 refine c1 ek fun bc=> ?_
 refine bO ?_
 refine ag.block ?_
 refine aF ?_
 refine aD ?_
 refine bm qS ?_
 refine aL ?_
 refine aK ?_
 refine cm h (fun h=>?_) fun h=>?_
 ·refine aF ?_
  refine cG 1 bQ ?_
  refine cA 0 bQ ?_
  refine aK ?_
  refine ag.ret ?_
  refine ae.dn ?_
  refine ae.ret ?_
  obtain rfl:=aI h
  exact ae.jg rfl (hK 0 bQ)
 ·refine aF ?_
  refine aD ?_
  refine bm kT ?_
  refine aL ?_
  refine aK ?_
  refine cm h (fun h=>?_) fun h=>?_
  ·refine aF ?_
   refine aY (aT h4) ?_
   refine cq 1 ef eC ?_
   refine aD ?_
   refine bm ix ?_
   refine aY (ij Tryz.underlying3 Tryz.underlying130) ?_
   refine bm nM ?_
   obtain⟨bE,dE,h⟩:=aw h
   refine dF dE (c3 (b:=({ (default:ar) with cV:=aa.bG <<< (BitVec.ofInt 64 (bq (aj - 64))).toNat } :ar)) rfl ha ek (.cons hx rfl (ab rfl) rfl (.nil))) ?_
   refine cA 0 bQ ?_
   refine aK ?_
   refine ag.ret ?_
   refine ae.dn ?_
   refine ae.ret ?_
   obtain rfl:=aI h
   exact ae.jg rfl (hK 0 bQ)
  ·refine ag.skip ?_
   refine ae.ea ?_
   refine ae.next ?_
   refine aF ?_
   refine aY (aT j5) ?_
   refine cq 1 hx eC ?_
   refine aD ?_
   refine aY (ij Tryz.underlying3 Tryz.underlying130) ?_
   refine bm nM ?_
   refine aY (aT h4) ?_
   refine cq 1 ef eC ?_
   refine aD ?_
   refine bm ix ?_
   refine aY (ij Tryz.underlying3 Tryz.underlying130) ?_
   refine bm qK ?_
   obtain⟨dt,hD,h⟩:=aw h
   refine dF hD (qN (ab rfl) (ab rfl)) ?_
   refine aY (aT h4) ?_
   refine cq 1 ef eC ?_
   refine aD ?_
   refine aY (ij Tryz.underlying3 Tryz.underlying130) ?_
   refine bm nM ?_
   obtain⟨fz,kD,h⟩:=aw h
   refine dF kD (c3 (b:= { cV:=dt,bG:=aa.bG <<< (BitVec.ofInt 64 aj).toNat:ar }) rfl ha ek (.cons hx rfl (ab rfl) rfl (.cons ef rfl (ab rfl) rfl (.nil)))) ?_
   refine cA 0 bQ ?_
   refine aK ?_
   refine ag.ret ?_
   obtain rfl:=aI h
   exact ae.jg rfl (hK 0 bQ)
theorem Tu {aa:ar} {aj:ar} {r:ar} (h:GW aa aj=some r):bK Tryz.prog 167 [I.of (aa),I.of (aj)] (I.of (r)):=by
 unfold GW at h
 refine bK.of Tryz.func167 rfl Tryz.ntmps167 rfl fun W A=> ?_
 refine aF ?_
 refine cj fun aZ=> ?_
 refine cj fun bc=> ?_
 refine c1 ek fun cC=> ?_
 refine b0 ?_
 refine aY (aT j5) ?_
 refine cq 2 hx eC ?_
 refine aY (aT j5) ?_
 refine cq 1 hx eC ?_
 refine bm qN ?_
 refine aY (aT h4) ?_
 refine cq 2 ef eC ?_
 refine aY (aT h4) ?_
 refine cq 1 ef eC ?_
 refine bm qN ?_
 obtain⟨bE,dE,h⟩:=aw h
 refine dF dE (c3 (b:= { cV:=aa.cV ||| aj.cV,bG:=aa.bG ||| aj.bG:ar }) rfl ha ek (.cons hx rfl (ab rfl) rfl (.cons ef rfl (ab rfl) rfl (.nil)))) ?_
 refine cA 0 bQ ?_
 refine aK ?_
 refine ag.ret ?_
 obtain rfl:=aI h
 exact ae.jg rfl (hK 0 bQ)
theorem RJ {aa:cu} {aj:Int} {r:Int} (h:zs aa aj=some r):bK Tryz.prog 272 [I.ptr aa,I.of (aj)] (I.of (r)):=by
 unfold zs at h
 refine bK.of Tryz.func272 rfl Tryz.ntmps272 rfl fun W A=> ?_
 refine aF ?_
 refine cj fun aZ=> ?_
 refine aL ?_
 refine bO ?_
 refine aF ?_
 refine aD ?_
 refine bl (Vl Tryz.underlying170 (ab rfl)) ?_
 refine aK ?_
 refine ag.rY (ab rfl) rfl ?_
 refine cW ?_
 refine aF ?_
 refine aD ?_
 refine aY AR ?_
 refine Fj xh rJ ?_
 refine aY (dV q1) ?_
 refine ah.share (α:=Int) 0 3 rfl rfl ?_
 refine bl (Em (F:=(fun ib=>w7 ib aj)) (τs:= [I.ptr aj]) Oc ⟨ab rfl,trivial⟩ (fun _ _ h=>KQ h)) ?_
 obtain⟨aG,bo,h⟩:=aw h
 refine e6 Od (KM bo) ?_
 refine aL ?_
 refine aK ?_
 refine ag.ret ?_
 obtain rfl:=aI h
 exact cR
theorem s5 {aa:Int} {aj:Int} {r:Int} (h:o1 aa aj=some r):bK Tryz.prog 92 [I.of (aa),I.of (aj)] (I.of (r)):=by
 unfold o1 at h
 refine bK.of Tryz.func92 rfl Tryz.ntmps92 rfl fun W A=> ?_
 refine aF ?_
 refine aL ?_
 refine b0 ?_
 refine aD ?_
 obtain⟨aG,bo,h⟩:=aw h
 refine e6 Ou (Lc bo) ?_
 refine aL ?_
 refine b0 ?_
 refine aD ?_
 obtain⟨aJ,cr,h⟩:=aw h
 refine e6 Ou (Lc cr) ?_
 refine aL ?_
 refine bO ?_
 refine aF ?_
 refine aD ?_
 refine aK ?_
 refine cm h (fun h=>?_) fun h=>?_
 ·refine ag.seq ?_
  refine aF ?_
  refine aD ?_
  refine aK ?_
  refine cm h (fun h=>?_) fun h=>?_
  ·refine aF ?_
   refine aL ?_
   refine aK ?_
   refine ag.ret ?_
   refine ae.ret ?_
   refine ae.ret ?_
   obtain rfl:=aI h
   exact cR
  ·refine cW ?_
   refine aF ?_
   refine aL ?_
   refine aK ?_
   refine ag.ret ?_
   refine ae.ret ?_
   obtain rfl:=aI h
   exact cR
 ·refine cW ?_
  refine ag.seq ?_
  refine aF ?_
  refine aD ?_
  refine aK ?_
  refine cm h (fun h=>?_) fun h=>?_
  ·refine aF ?_
   refine aL ?_
   refine aK ?_
   refine ag.ret ?_
   refine ae.ret ?_
   obtain rfl:=aI h
   exact cR
  ·refine cW ?_
   refine ag.seq ?_
   refine aF ?_
   refine aD ?_
   refine aD ?_
   refine bm eT ?_
   refine aK ?_
   refine cm h (fun h=>?_) fun h=>?_
   ·refine aF ?_
    refine aL ?_
    refine aK ?_
    refine ag.ret ?_
    refine ae.ret ?_
    obtain rfl:=aI h
    exact cR
   ·refine cW ?_
    refine ag.seq ?_
    refine aF ?_
    refine aD ?_
    refine aD ?_
    refine bm pO ?_
    refine aK ?_
    refine cm h (fun h=>?_) fun h=>?_
    ·refine aF ?_
     refine aL ?_
     refine aK ?_
     refine ag.ret ?_
     refine ae.ret ?_
     obtain rfl:=aI h
     exact cR
    ·refine cW ?_
     refine aF ?_
     refine aL ?_
     refine aK ?_
     refine ag.ret ?_
     obtain rfl:=aI h
     exact cR
theorem RU {hp:aS Cell} {aa:Ref} {aj:Vector ar 4} {r:Bool × (aS Cell)} (h:De hp aa aj=some r):bM Tryz.prog 234 [I.of (aa),I.of (aj)] ([] ++ aV hp) (δ:=Unit) (fun d=>I.of (r.1)) (fun d=> [] ++ aV r.2):=by
 unfold De at h
 refine bM.of Tryz.func234 rfl Tryz.ntmps234 rfl fun W A=> ?_
 refine aF ?_
 refine cj fun aZ=> ?_
 refine aL ?_
 refine bO ?_
 refine aF ?_
 refine aD ?_
 refine cG 0 jx ?_
 obtain⟨aG,bo,h⟩:=aw h
 refine ah.iM (fG.jd 1 rfl Ij (GD bo) ⟨ab rfl,ab rfl,trivial⟩) rfl rfl rfl ?_
 refine aD ?_
 refine gr ?_
 refine gr ?_
 refine aL ?_
 refine aL ?_
 refine b0 ?_
 refine aD ?_
 refine aY hP ?_
 refine aK ?_
 refine cm h (fun h=>?_) fun h=>?_
 ·refine aF ?_
  refine aL ?_
  refine aK ?_
  refine ag.ret ?_
  refine ae.ret ?_
  obtain rfl:=aI h
  exact ae.fi () (.cons _ (.refl _)) rfl rfl (dv rfl)
 ·refine cW ?_
  refine ag.seq ?_
  obtain⟨ca,dh,h⟩:=aw h
  obtain⟨bC,dP,h⟩:=aw h
  refine ag.draw mixed 5 [some 15,some 16,some 17,some 18,some 19] [[],[0],[1],[2],[]] [.val _,.val _,.val _,.val _,.val _] [false,false,false,false,false] (by kernel_rfl) rfl rfl rfl (fun da=>⟨cZ,dO fun L' al=>dD (eg (ab rfl) dh),H1 (aT D2),dO fun L' al=>fA ((aN.id m5).comp zx) (r:=bC.oD) A5 (ab rfl) (kc (fun i e q=>al i e q rfl) (eM (n:=1) rfl (tn dP) rfl)) rfl rfl,fy 0 jx,trivial⟩) fun da=> ?_
  obtain⟨b2,eZ,h⟩:=aw h
  obtain⟨cf,fk,h⟩:=aw h
  obtain⟨cS,kz,h⟩:=aw h
  refine ah.Iw (k':=Cell.n0 (hR cf aj)) 1 rfl Tryz.underlying222 Ey (l7 (ab rfl) eZ) (ab rfl) (qO fk) rfl rfl rfl (aI kz) ?_
  refine b0 ?_
  refine aL ?_
  refine aK ?_
  refine ag.ret ?_
  obtain rfl:=aI h
  exact ae.fi () (.cons _ (.refl _)) rfl rfl (dv rfl)
theorem Rg (n:Nat):∀ (hp:aS Cell) (aa:Ref) (aj:Ref) (aP:ar) (bR:Int) (ic:List di) (oJ:Nat) (rM:Option Nat) (rN:Nat) (r:(List di)),uB n hp aa aj aP bR ic=some r→bM Tryz.prog 258 [I.of (aa),I.of (aj),I.of (aP),I.of (bR),I.of (⟨257,some [.pointer (some ⟨oJ,0,none⟩)]⟩:Raw)] ([⟨some oJ,.b4 ([]:List di) [(0,a2 rM ic.length rN)]⟩,⟨rM,.row 347 (ic:List di) rN⟩] ++ aV hp) (δ:=(Option Nat × Nat)) (fun d=>I.ed []) (fun d=> [⟨some oJ,.b4 ([]:List di) [(0,a2 d.1 (r).length d.2)]⟩,⟨d.1,.row 347 (r:List di) d.2⟩] ++ aV hp):=by
 induction n with
 | zero=>intro hp aa aj aP bR ic oJ rM rN r h; simp [uB] at h
 | succ n bJ=>
   intro hp aa aj aP bR ic oJ rM rN r h
   simp only [uB] at h
   refine bM.of Tryz.func258 rfl Tryz.ntmps258 rfl fun W A=> ?_
   refine aF ?_
   refine cj fun aZ=> ?_
   refine bO ?_
   refine aF ?_
   refine aD ?_
   refine bl (mE Tryz.underlying331 (ab rfl)) ?_
   refine aK ?_
   refine cm h (fun h=>?_) fun h=>?_
   ·refine ag.ret ?_
    refine ae.ret ?_
    refine ae.bz 2 rfl ?_
    refine ae.bz 2 rfl ?_
    obtain rfl:=aI h
    exact ae.kU (rM,rN) (.cons_cons _ (.cons_cons _ (.cons _ (.refl _)))) rfl rfl
   ·refine cW ?_
    refine aF ?_
    refine aD ?_
    refine aD ?_
    refine cG 0 bQ ?_
    refine aD ?_
    refine ah.bz 2 rfl ?_
    refine ah.bz 2 rfl ?_
    obtain⟨aG,bo,h⟩:=aw h
    refine ah.rm (eV.I1 (τs:= [I.of (aj:Ref),I.of (aP:ar),I.of (bR:Int)]) 3 2 rfl Xp (Hc (ab rfl)) (Rz bo) rfl rfl ⟨ab rfl,ab rfl,ab rfl,trivial⟩) rfl rfl rfl fun az=> ?_
    refine ah.dR (L2:=(⟨some oJ,.b4 ([]:List di) [(0,a2 az.1 aG.length az.2)]⟩ :: ⟨az.1,.row 347 (aG:List di) az.2⟩ :: ⟨some aZ,.var (aP:ar)⟩ :: aV hp)) rfl ?_
    refine bO ?_
    obtain⟨ca,dh,h⟩:=aw h
    obtain⟨bC,dP,h⟩:=aw h
    refine ag.draw mixed 10 [some 17,some 18,some 19,some 20,some 21,some 22,some 23,some 24,some 25,some 26] [[],[],[1],[2],[3],[4],[],[],[7],[]] [.val _,.val _,.val _,.val _,.val _,.val _,.val _,.val _,.val _,.val _] [false,false,false,false,false,false,false,false,false,false] (by kernel_rfl) rfl rfl rfl (fun da=>⟨cZ,cZ,dO fun L' al=>dD (eg (ab rfl) dh),H1 (aT qL),dO fun L' al=>il (k:=0) r3 (ab rfl) (bP 0) ⟨by decide,rfl⟩,dO fun L' al=>fA (((aN.id dx).comp qA).comp (aN.idx (α:=Ref) 2 0 (⟨by decide,rfl⟩:0 < 2∧ (0:Int)=0).1)) (r:=bD bC.cU 0) dX (ab rfl) (kc (fun i e q=>al i e q rfl) (eM (n:=3) rfl (iP dP) rfl)) rfl rfl,fy 2 bQ,cZ,iC dI,cZ,trivial⟩) fun da=> ?_
    obtain⟨aJ,cr,h⟩:=aw h
    refine ah.rm (eV.iR 3 2 rfl Ix (bJ _ _ _ _ _ _ _ _ _ _ cr) rfl rfl ⟨ab rfl,ab rfl,ab rfl,ab rfl,ab rfl,trivial⟩) rfl rfl rfl fun c7=> ?_
    refine ah.dR (L2:=(⟨some oJ,.b4 ([]:List di) [(0,a2 c7.1 aJ.length c7.2)]⟩ :: ⟨c7.1,.row 347 (aJ:List di) c7.2⟩ :: ⟨some aZ,.var (aP:ar)⟩ :: aV hp)) rfl ?_
    refine aK ?_
    obtain⟨bh,e7,h⟩:=aw h
    obtain⟨b2,eZ,h⟩:=aw h
    obtain⟨cf,fk,h⟩:=aw h
    obtain⟨bn,fT,h⟩:=aw h
    obtain⟨cw,hV,h⟩:=aw h
    refine ag.draw mixed 20 ((some 28) :: (some 29) :: (some 30) :: (some 31) :: (some 32) :: (some 33) :: (some 34) :: (some 35) :: (some 36) :: (some 37) :: (some 38) :: (some 39) :: (some 40) :: (some 41) :: (some 42) :: (some 43) :: (some 44) :: (some 45) :: (some 46) :: (some 47) :: []) ([] :: [] :: [1] :: [2] :: [3] :: [4] :: [] :: [] :: [] :: [8] :: [9] :: [10] :: [11] :: [] :: [12,13] :: [7,14] :: [6,15] :: [] :: [17] :: [] :: []) (.val _ :: .val _ :: .val _ :: .val _ :: .val _ :: .val _ :: .val _ :: .val _ :: .val _ :: .val _ :: .val _ :: .val _ :: .val _ :: .val _ :: .val _ :: .val _ :: .val _ :: .val _ :: .val _ :: .val _ :: []) (false :: false :: false :: false :: false :: false :: false :: false :: false :: false :: false :: false :: false :: false :: false :: false :: false :: false :: false :: false :: []) (by kernel_rfl) rfl rfl rfl (fun kg=>⟨cZ,cZ,dO fun L' al=>dD (eg (ab rfl) dh),H1 (aT qL),dO fun L' al=>il (k:=1) r3 (ab rfl) (bP 1) ⟨by decide,rfl⟩,dO fun L' al=>fA (((aN.id dx).comp qA).comp (aN.idx (α:=Ref) 2 1 (⟨by decide,rfl⟩:1 < 2∧ (1:Int)=1).1)) (r:=bD bC.cU 1) dX (ab rfl) (kc (fun i e q=>al i e q rfl) (eM (n:=3) rfl (iP dP) rfl)) rfl rfl,fy 2 bQ,dO fun L' al=>iG Xq (Tt e7) ⟨fK 1 rfl,trivial⟩,cZ,dO fun L' al=>dD (eg (ab rfl) eZ),H1 (aT va),dO fun L' al=>fA ((aN.id fv).comp sY) (r:=cf.fw) bF (ab rfl) (kc (fun i e q=>al i e q rfl) (eM (n:=3) rfl (mb fk) rfl)) rfl rfl,iC ix,cZ,iC ix,fl Xr (SW fT),fl Xs (Tu hV),cZ,iC dI,cZ,trivial⟩) fun kg=> ?_
    obtain⟨dg,hW,h⟩:=aw h
    refine ah.rm (eV.iR 3 2 rfl Ix (bJ _ _ _ _ _ _ _ _ _ _ hW) rfl rfl ⟨ab rfl,ab rfl,ab rfl,ab rfl,ab rfl,trivial⟩) rfl rfl rfl fun dZ=> ?_
    refine ah.dR (L2:=(⟨some oJ,.b4 ([]:List di) [(0,a2 dZ.1 dg.length dZ.2)]⟩ :: ⟨dZ.1,.row 347 (dg:List di) dZ.2⟩ :: ⟨some aZ,.var (aP:ar)⟩ :: aV hp)) rfl ?_
    refine ah.nil ?_
    refine ae.nd ?_
    refine ae.bz 1 rfl ?_
    refine ae.bz 1 rfl ?_
    obtain rfl:=aI h
    exact ae.kU (dZ.1,dZ.2) (.cons_cons _ (.cons_cons _ (.cons _ (.refl _)))) rfl rfl
theorem Ri {hp:aS Cell} {aa:Ref} {aj:Ref} {aP:ar} {bR:Int} {ic:List di} {oJ:Nat} {rM:Option Nat} {rN:Nat} {r:(List di)} (h:Gd hp aa aj aP bR ic=some r):bM Tryz.prog 258 [I.of (aa),I.of (aj),I.of (aP),I.of (bR),I.of (⟨257,some [.pointer (some ⟨oJ,0,none⟩)]⟩:Raw)] ([⟨some oJ,.b4 ([]:List di) [(0,a2 rM ic.length rN)]⟩,⟨rM,.row 347 (ic:List di) rN⟩] ++ aV hp) (δ:=(Option Nat × Nat)) (fun d=>I.ed []) (fun d=> [⟨some oJ,.b4 ([]:List di) [(0,a2 d.1 (r).length d.2)]⟩,⟨d.1,.row 347 (r:List di) d.2⟩] ++ aV hp):=Rg eU hp aa aj aP bR ic oJ rM rN r h
theorem SE {aa:List ar} {aj:List ar} {r:Int} (h:z6 aa aj=some r):bK Tryz.prog 140 [I.of (aa),I.of (aj)] (I.of (r)):=by
 unfold z6 at h
 refine bK.of Tryz.func140 rfl Tryz.ntmps140 rfl fun W A=> ?_
 refine aF ?_
 refine aL ?_
 refine bO ?_
 refine aF ?_
 refine aL ?_
 refine aK ?_
 refine ag.block ?_
 obtain⟨av,ao,h⟩:=aw h
 refine hT (γ:=Unit) (δ:=Unit) ao [0,1] (fun s1 aq=> [(4,I.of (0:Int)),(5,I.of (s1))]) (fun s1 aq=> []) (fun az=>Sum.elim (fun az=>Exit.exit 0) (fun az=>Exit.ret) az) (fun az aq=>Sum.elim (fun az=> [(4,I.of (0:Int)),(5,I.of (az.1)),(16,I.of (az.2))]) (fun az=> [(4,I.of (az.1)),(5,I.of (az.2.1)),(6,I.of (az.2.2.1)),(16,I.of (az.2.2.2.1)),(29,I.of (az.2.2.2.2))]) az) (fun az aq=>Sum.elim (fun az=> []) (fun az=> []) az) () (fun s1 r h aq=> ?_) fun aq=> ?_
 ·clear ao
  refine ag.seq ?_
  refine aF ?_
  refine aD ?_
  refine aD ?_
  refine aY (eK Tryz.underlying48) ?_
  refine bm eT ?_
  refine aD ?_
  refine ey cM ?_
  refine ey cM ?_
  refine ey (eK Tryz.underlying48) ?_
  refine kE eT ?_
  refine jB ?_
  refine aK ?_
  refine cm h (fun h=>?_) fun h=>?_
  ·refine cW ?_
   refine ag.seq ?_
   refine ag.block ?_
   refine ag.seq ?_
   obtain⟨a8,cE,h⟩:=aw h
   obtain⟨bY,cX,h⟩:=aw h
   obtain⟨aG,bo,h⟩:=aw h
   refine ag.draw mixed 9 [some 19,some 20,some 21,some 22,some 23,some 24,some 25,some 26,some 27] [[],[],[0,1],[2],[],[],[4,5],[6],[3,7]] [.val _,.val _,.val _,.val _,.val _,.val _,.val _,.val _,.val _] [false,false,false,false,false,false,false,false,false] (by kernel_rfl) rfl rfl rfl (fun da=>⟨cZ,cZ,nj cE Tryz.underlying48 bQ,H1 (dV bQ),cZ,cZ,nj cX Tryz.underlying48 bQ,H1 (dV bQ),fl EJ (Dv bo),trivial⟩) fun da=> ?_
   refine aL ?_
   refine b0 ?_
   refine aD ?_
   refine bm qV ?_
   refine aK ?_
   refine cm h (fun h=>?_) fun h=>?_
   ·refine aF ?_
    refine aD ?_
    refine aL ?_
    refine aK ?_
    refine ag.ret ?_
    refine ae.dn ?_
    refine ae.ret ?_
    obtain rfl:=aI h
    exact eD () 0
   ·refine ag.skip ?_
    refine ae.ea ?_
    refine ae.next ?_
    refine ag.cz ?_
    refine aD ?_
    refine bm dI ?_
    refine aL ?_
    refine ah.nil ?_
    obtain rfl:=aI h
    exact gP () 0
  ·refine ag.exit ?_
   refine ae.exit ?_
   obtain rfl:=aI h
   exact eD () 0
 ·clear ao
  rcases av with av | av
  ·simp only [Sum.elim_inl] at h
   refine ae.fM ?_
   refine ae.next ?_
   refine aF ?_
   refine aD ?_
   refine aY (eK Tryz.underlying48) ?_
   refine aD ?_
   refine aY (eK Tryz.underlying48) ?_
   obtain⟨aJ,cr,h⟩:=aw h
   refine e6 yc (xD cr) ?_
   refine aL ?_
   refine aK ?_
   refine ag.ret ?_
   obtain rfl:=aI h
   exact cR
  ·simp only [Sum.elim_inr] at h
   refine ae.dn ?_
   refine ae.ret ?_
   obtain rfl:=aI h
   exact cR
theorem Q6 {aa:List aA} {aj:aA→aA→Option Int} {g2:Option Nat} {dQ:Nat} {r:(List aA)} (h:zb aa aj=some r):bM Tryz.prog 96 [I.eq (a2 g2 aa.length dQ),I.q5 Tryz.prog aj] [⟨g2,.row 52 (aa:List aA) dQ⟩] (δ:=Unit) (fun d=>I.ed []) (fun d=> [⟨g2,.row 52 (r:List aA) dQ⟩]):=by
 unfold zb at h
 refine bM.of Tryz.func96 rfl Tryz.ntmps96 rfl fun W A=> ?_
 refine aF ?_
 refine aD ?_
 refine bl (pL (i:=0) Tryz.underlying38 (ab rfl) rfl rfl) ?_
 refine aL ?_
 refine aK ?_
 refine ag.cz ?_
 refine aD ?_
 refine aD ?_
 refine aD ?_
 refine aY (ij Tryz.underlying3 Tryz.underlying130) ?_
 obtain⟨aG,bo,h⟩:=aw h
 refine e6 Xt (So bo) ?_
 refine aD ?_
 refine ah.bz 0 rfl ?_
 obtain⟨aJ,cr,h⟩:=aw h
 refine eQ 1 Xu (Q4 (Hu cr)) fun az=> ?_
 refine ah.ik (m:=aJ.length) 0 rfl ((u0 cr).symm) ?_
 refine ah.ik (m:=aJ.length) 5 rfl ((u0 cr).symm) ?_
 refine ah.ik (m:=aJ.length) 7 rfl ((u0 cr).symm) ?_
 refine ah.nil ?_
 refine ae.nd ?_
 refine ae.bz 0 rfl ?_
 obtain rfl:=aI h
 exact ae.kU () (.cons_cons _ (List.nil_sublist _)) rfl rfl
theorem RV {aa:bV} {aj:bV} {r:Int} (h:zC aa aj=some r):bK Tryz.prog 135 [I.of (aa),I.of (aj)] (I.of (r)):=by
 unfold zC at h
 refine bK.of Tryz.func135 rfl Tryz.ntmps135 rfl fun W A=> ?_
 refine aF ?_
 refine cj fun aZ=> ?_
 refine cj fun bc=> ?_
 refine aL ?_
 refine bO ?_
 refine aF ?_
 refine cG 1 fr ?_
 refine cG 0 fr ?_
 refine bm (yb Oh rfl Oi rfl) ?_
 refine aK ?_
 refine cm h (fun h=>?_) fun h=>?_
 ·refine aF ?_
  refine aL ?_
  refine aK ?_
  refine ag.ret ?_
  refine ae.ret ?_
  obtain rfl:=aI h
  exact cR
 ·refine cW ?_
  refine ag.seq ?_
  obtain⟨aG,bo,h⟩:=aw h
  obtain⟨aJ,cr,h⟩:=aw h
  obtain⟨bh,e7,h⟩:=aw h
  obtain⟨bn,fT,h⟩:=aw h
  obtain⟨cw,hV,h⟩:=aw h
  obtain⟨dg,hW,h⟩:=aw h
  obtain⟨c8,nk,h⟩:=aw h
  obtain⟨eX,nm,h⟩:=aw h
  refine ag.draw mixed 27 ((some 8) :: (some 9) :: (some 10) :: (some 11) :: (some 12) :: (some 13) :: (some 14) :: (some 15) :: (some 16) :: (some 17) :: (some 18) :: (some 19) :: (some 20) :: (some 21) :: (some 22) :: (some 23) :: (some 24) :: (some 25) :: (some 26) :: (some 27) :: (some 28) :: (some 29) :: (some 30) :: (some 31) :: (some 32) :: (some 33) :: (some 34) :: []) ([] :: [0] :: [] :: [2] :: [1,3] :: [] :: [5] :: [] :: [7] :: [6,8] :: [] :: [10] :: [] :: [12] :: [11,13] :: [] :: [15] :: [] :: [17] :: [16,18] :: [] :: [20] :: [] :: [22] :: [21,23] :: [4,9,14,19,24] :: [25] :: []) (.val _ :: .val _ :: .val _ :: .val _ :: .val _ :: .val _ :: .val _ :: .val _ :: .val _ :: .val _ :: .val _ :: .val _ :: .val _ :: .val _ :: .val _ :: .val _ :: .val _ :: .val _ :: .val _ :: .val _ :: .val _ :: .val _ :: .val _ :: .val _ :: .val _ :: .val _ :: .val _ :: []) (false :: false :: false :: false :: false :: false :: false :: false :: false :: false :: false :: false :: false :: false :: false :: false :: false :: false :: false :: false :: false :: false :: false :: false :: false :: false :: false :: []) (by kernel_rfl) rfl rfl rfl (fun da=>⟨fy 1 fr,fl Ov (Le bo),fy 0 fr,fl Ov (Le cr),fl tK (s5 e7),H1 (aT na),dz 1 kr bQ,H1 (aT na),dz 0 kr bQ,fl yd (xw fT),H1 (aT qM),dz 1 oo bQ,H1 (aT qM),dz 0 oo bQ,fl yd (xw hV),H1 (aT o8),dz 1 m3 bF,H1 (aT o8),dz 0 m3 bF,fl tK (s5 hW),H1 (aT AV),dz 1 sZ bQ,H1 (aT AV),dz 0 sZ bQ,fl yd (xw nk),dO fun L' al=>iI (r:= [bh,bn,cw,dg,c8]) Tryz.underlying63 bF jD rfl rfl (.cons (by simp) (ab rfl) (.cons (by simp) (ab rfl) (.cons (by simp) (ab rfl) (.cons (by simp) (ab rfl) (.cons (by simp) (ab rfl) (.nil)))))),fl Iy (GJ nm),trivial⟩) fun da=> ?_
  refine aL ?_
  refine aK ?_
  refine ag.ret ?_
  obtain rfl:=aI h
  exact cR
theorem Lq {aa:a3} {aj:bu} {r:bW × Bool} (h:xG aa aj=some r):bK Tryz.prog 206 [I.of (aa),I.of (aj)] (I.ed [I.of (r.1),I.of (r.2)]):=by
 unfold xG at h
 refine bK.of Tryz.func206 rfl Tryz.ntmps206 rfl fun W A=> ?_
 refine aF ?_
 refine cj fun aZ=> ?_
 refine cj fun bc=> ?_
 refine c1 mO fun cC=> ?_
 refine aL ?_
 refine b0 ?_
 refine cG 2 ho ?_
 refine aY (aT vk) ?_
 refine cq 1 sX bF ?_
 obtain⟨aG,bo,h⟩:=aw h
 refine e6 Pq (La bo) ?_
 refine aL ?_
 refine bO ?_
 refine aF ?_
 refine aD ?_
 refine bm eT ?_
 refine aK ?_
 refine cm h (fun h=>?_) fun h=>?_
 ·refine aF ?_
  refine hC Bw mO (default:bW) .nil ?_
  refine cA 0 hn ?_
  refine aL ?_
  refine aK ?_
  refine ag.ret ?_
  refine ae.ret ?_
  obtain rfl:=aI h
  exact ae.EV rfl (hK 0 hn) (vZ rfl)
 ·refine cW ?_
  refine aF ?_
  refine aY (aT oy) ?_
  refine cq 2 om n1 ?_
  refine aD ?_
  obtain⟨a8,cE,h⟩:=aw h
  refine hU cE Tryz.underlying28 hn ?_
  refine aY (dV hn) ?_
  refine cA 0 hn ?_
  refine aL ?_
  refine aK ?_
  refine ag.ret ?_
  obtain rfl:=aI h
  exact ae.EV rfl (hK 0 hn) (vZ rfl)
theorem RK {hp:aS Cell} {aa:jM} {aj:aA} {r:(aS Cell)} (h:zt hp aa aj=some r):bM Tryz.prog 230 [I.of (aa),I.of (aj)] ([] ++ aV hp) (δ:=Unit) (fun d=>I.ed []) (fun d=> [] ++ aV r):=by
 unfold zt at h
 refine bM.of Tryz.func230 rfl Tryz.ntmps230 rfl fun W A=> ?_
 refine aF ?_
 refine cj fun aZ=> ?_
 refine cj fun bc=> ?_
 refine aK ?_
 obtain⟨aG,bo,h⟩:=aw h
 refine ag.draw mixed 5 [some 4,some 5,some 6,some 7,some 8] [[],[0],[],[2],[3]] [.val _,.val _,.val _,.val _,.val _] [false,false,false,false,false] (by kernel_rfl) rfl rfl rfl (fun da=>⟨H1 (aT D4),dz 1 zG A8,H1 (aT ll),dz 0 kq hf,fl EI (Dx bo),trivial⟩) fun da=> ?_
 obtain⟨aJ,cr,h⟩:=aw h
 refine ah.iR 2 0 rfl Xv (RU cr) rfl rfl ⟨ab rfl,ab rfl,trivial⟩ rfl fun az=> ?_
 refine ah.dR (L2:=(⟨some bc,.var (aj:aA)⟩ :: ⟨some aZ,.var (aa:jM)⟩ :: aV aJ.2)) rfl ?_
 refine ah.nil ?_
 refine ae.nd ?_
 obtain rfl:=aI h
 exact ae.kU () (.cons _ (.cons _ (.refl _))) rfl rfl
theorem Rh {hp:aS Cell} {aa:Ref} {aP:List di} {n5:Nat} {key02_0:Option Nat} {cap02_0:Nat} {r:(List di)} (h:C0 hp aa aP=some r):bM Tryz.prog 256 [I.of (aa),I.of (⟨257,some [.pointer (some ⟨n5,0,none⟩)]⟩:Raw)] ([⟨some n5,.b4 ([]:List di) [(0,a2 key02_0 aP.length cap02_0)]⟩,⟨key02_0,.row 347 (aP:List di) cap02_0⟩] ++ aV hp) (δ:=(Option Nat × Nat)) (fun d=>I.ed []) (fun d=> [⟨some n5,.b4 ([]:List di) [(0,a2 d.1 (r).length d.2)]⟩,⟨d.1,.row 347 (r:List di) d.2⟩] ++ aV hp):=by
 unfold C0 at h
 refine bM.of Tryz.func256 rfl Tryz.ntmps256 rfl fun W A=> ?_
 refine aF ?_
 refine aD ?_
 refine bl (DL Tryz.underlying321 (ab rfl)) ?_
 refine aK ?_
 obtain⟨bp,ck,h⟩:=aw h
 refine ag.cy (γ:=(Option Nat × Nat)) (fun aq=> [(0,I.of (aa)),(1,I.of (⟨257,some [.pointer (some ⟨n5,0,none⟩)]⟩:Raw)),(5,I.of (aa.isSome))]) (fun aq=>(⟨some n5,.b4 ([]:List di) [(0,a2 aq.1 bp.length aq.2)]⟩ :: ⟨aq.1,.row 347 (bp:List di) aq.2⟩ :: aV hp)) (ab rfl) (fun aq=> ?_) (fun hm ak=> ?_) (fun hm ak=> ?_)
 ·clear ck
  refine ae.nd ?_
  refine ae.bz 1 rfl ?_
  refine ae.bz 1 rfl ?_
  obtain rfl:=aI h
  exact ae.kU (aq.1,aq.2) (.cons_cons _ (.cons_cons _ (.refl _))) rfl rfl
 ·have h:=gZ ak ck
  refine ag.cz ?_
  refine aD ?_
  refine aD ?_
  obtain⟨ca,dh,h⟩:=aw h
  refine bl (dD (eg (ab rfl) dh)) ?_
  refine aY (aT rO) ?_
  obtain⟨bC,dP,h⟩:=aw h
  refine bl (fA ((aN.id fv).comp ry) (r:=bC.cB) dX (ab rfl) (eM (n:=2) rfl (mb dP) rfl) rfl rfl) ?_
  refine hC ha ek (default:ar) .nil ?_
  refine aD ?_
  obtain⟨aG,bo,h⟩:=aw h
  refine ah.rm (eV.iR 2 2 rfl Ix (Ri bo) rfl rfl ⟨ab rfl,ab rfl,ab rfl,bP 0,ab rfl,trivial⟩) rfl rfl rfl fun az=> ?_
  refine ah.dR (L2:=(⟨some n5,.b4 ([]:List di) [(0,a2 az.1 aG.length az.2)]⟩ :: ⟨az.1,.row 347 (aG:List di) az.2⟩ :: aV hp)) rfl ?_
  refine ah.nil ?_
  obtain rfl:=aI h
  exact dp 0 (hm (az.1,az.2))
 ·have h:=g1 ak ck
  refine ag.skip ?_
  obtain rfl:=aI h
  exact dp 0 (hm (key02_0,cap02_0))
theorem Rj {aa:cu} {aj:Int} {b9:Nat} {h2:Option Nat} {h3:Nat} {r:Bool × cu} (h:zi aa aj=some r):bM Tryz.prog 268 [I.eq (.pointer (some ⟨b9,0,none⟩)),I.of (aj)] [⟨some b9,.b4 (({ aa with b1:= [] } :cu):cu) [(10,a2 h2 aa.b1.length h3)]⟩,⟨h2,.row 52 (aa.b1:List aA) h3⟩] (δ:=(Option Nat × Nat)) (fun d=>I.of (r.1)) (fun d=> [⟨some b9,.b4 (({ r.2 with b1:= [] } :cu):cu) [(10,a2 d.1 (r.2.b1).length d.2)]⟩,⟨d.1,.row 52 (r.2.b1:List aA) d.2⟩]):=by
 unfold zi at h
 refine bM.of Tryz.func268 rfl Tryz.ntmps268 rfl fun W A=> ?_
 refine aF ?_
 refine aL ?_
 refine b0 ?_
 refine aD ?_
 refine aD ?_
 obtain⟨aG,bo,h⟩:=aw h
 refine ah.iM (fG.call [0,1] Ow (Rq bo) ⟨ab rfl,ab rfl,trivial⟩ rfl ⟨rfl,rfl,trivial⟩ rfl) rfl rfl rfl ?_
 refine aL ?_
 refine bO ?_
 refine aF ?_
 refine aD ?_
 refine bm eT ?_
 refine aK ?_
 refine cm h (fun h=>?_) fun h=>?_
 ·refine aF ?_
  refine aL ?_
  refine aK ?_
  refine ag.ret ?_
  refine ae.ret ?_
  refine ae.bz 1 rfl ?_
  refine ae.bz 1 rfl ?_
  obtain rfl:=aI h
  exact mn (h2,h3)
 ·refine cW ?_
  refine aF ?_
  refine aD ?_
  refine aD ?_
  refine aY dD ?_
  refine aY (aT rJ) ?_
  refine bl (ih (i:=0) (q:=0) (β:=cu) (γ:=aA) q1 (ab rfl) rfl rfl) ?_
  refine aD ?_
  refine aD ?_
  refine bm dI ?_
  refine ah.bz 1 rfl ?_
  obtain⟨aJ,cr,h⟩:=aw h
  refine eQ 1 Xw (Q7 cr) fun az=> ?_
  refine aY dD ?_
  refine aY (aT rJ) ?_
  refine ah.j6 (i:=1) (γ:=aA) (b':=(({ aa with b1:= [] } :cu):cu)) (os':= [(10,a2 az.1 aJ.length az.2)]) ((aN.id cu).comp xh) q1 (ab rfl) (ab rfl) jc rfl rfl rfl rfl ?_
  refine b0 ?_
  refine aL ?_
  refine aK ?_
  refine ag.ret ?_
  refine ae.bz 0 rfl ?_
  refine ae.bz 1 rfl ?_
  obtain rfl:=aI h
  exact mn (az.1,az.2)
theorem SI {aa:bV} {aj:bV} {r:Int} (h:Aa aa aj=some r):bK Tryz.prog 187 [I.of (aa),I.of (aj)] (I.of (r)):=by
 unfold Aa at h
 refine bK.of Tryz.func187 rfl Tryz.ntmps187 rfl fun W A=> ?_
 refine aF ?_
 refine cj fun aZ=> ?_
 refine cj fun bc=> ?_
 refine aL ?_
 refine bO ?_
 refine ag.block ?_
 refine aF ?_
 refine aY (aT tm) ?_
 refine cq 1 nD gi ?_
 refine aY (aT tm) ?_
 refine cq 0 nD gi ?_
 refine bm (Ih Tryz.underlying4) ?_
 refine aD ?_
 refine ey (aT tm) ?_
 refine ep (fun hb=>eA (i:=0) ((aN.id bV).comp nD) (r:=aj.fF) gi (cb rfl hb) rfl rfl rfl) ?_
 refine jB ?_
 refine aL ?_
 refine aK ?_
 refine cm h (fun h=>?_) fun h=>?_
 ·refine aF ?_
  refine aL ?_
  refine aK ?_
  refine ag.ret ?_
  refine ae.dn ?_
  refine ae.ret ?_
  obtain rfl:=aI h
  exact cR
 ·refine aF ?_
  refine aY (aT tm) ?_
  refine cq 1 nD gi ?_
  refine aY (aT tm) ?_
  refine cq 0 nD gi ?_
  refine bm (Ih Tryz.underlying4) ?_
  refine aL ?_
  refine aK ?_
  refine cm h (fun h=>?_) fun h=>?_
  ·refine aF ?_
   refine aL ?_
   refine aK ?_
   refine ag.ret ?_
   refine ae.dn ?_
   refine ae.ret ?_
   obtain rfl:=aI h
   exact cR
  ·refine aF ?_
   refine aY (aT na) ?_
   refine cq 1 kr bQ ?_
   refine aY (aT na) ?_
   refine cq 0 kr bQ ?_
   refine bm (Ex oE rfl tx rfl) ?_
   refine aL ?_
   refine aK ?_
   refine cm h (fun h=>?_) fun h=>?_
   ·refine aF ?_
    refine aY (aT na) ?_
    refine cq 1 kr bQ ?_
    refine aY (aT na) ?_
    refine cq 0 kr bQ ?_
    obtain⟨aG,bo,h⟩:=aw h
    refine e6 EJ (Dv bo) ?_
    refine aL ?_
    refine aK ?_
    refine ag.ret ?_
    refine ae.dn ?_
    refine ae.ret ?_
    obtain rfl:=aI h
    exact cR
   ·refine aF ?_
    refine aY (aT qM) ?_
    refine cq 1 oo bQ ?_
    refine aY (aT qM) ?_
    refine cq 0 oo bQ ?_
    refine bm (Ex oE rfl tx rfl) ?_
    refine aL ?_
    refine aK ?_
    refine cm h (fun h=>?_) fun h=>?_
    ·refine aF ?_
     refine aY (aT qM) ?_
     refine cq 1 oo bQ ?_
     refine aY (aT qM) ?_
     refine cq 0 oo bQ ?_
     obtain⟨aJ,cr,h⟩:=aw h
     refine e6 EJ (Dv cr) ?_
     refine aL ?_
     refine aK ?_
     refine ag.ret ?_
     refine ae.dn ?_
     refine ae.ret ?_
     obtain rfl:=aI h
     exact cR
    ·refine aF ?_
     refine aY (aT o8) ?_
     refine cq 1 m3 bF ?_
     refine aY (aT o8) ?_
     refine cq 0 m3 bF ?_
     refine bm qV ?_
     refine aL ?_
     refine aK ?_
     refine cm h (fun h=>?_) fun h=>?_
     ·refine aF ?_
      refine aY (aT o8) ?_
      refine cq 1 m3 bF ?_
      refine aY (aT o8) ?_
      refine cq 0 m3 bF ?_
      obtain⟨bh,e7,h⟩:=aw h
      refine e6 yc (xD e7) ?_
      refine aL ?_
      refine aK ?_
      refine ag.ret ?_
      refine ae.dn ?_
      refine ae.ret ?_
      obtain rfl:=aI h
      exact cR
     ·refine ag.skip ?_
      refine ae.ea ?_
      refine ae.next ?_
      refine aF ?_
      refine aY (aT AV) ?_
      refine cq 1 sZ bQ ?_
      refine aY (aT AV) ?_
      refine cq 0 sZ bQ ?_
      obtain⟨bn,fT,h⟩:=aw h
      refine e6 EJ (Dv fT) ?_
      refine aL ?_
      refine aK ?_
      refine ag.ret ?_
      obtain rfl:=aI h
      exact cR
theorem K4 {hp:aS Cell} {aa:Ref} {aj:ar} {aP:Int} {r:Bool} (h:xk hp aa aj aP=some r):bM Tryz.prog 251 [I.of (aa),I.of (aj),I.of (aP)] ([] ++ aV hp) (δ:=Unit) (fun _=>I.of (r)) (fun _=> [] ++ aV hp):=by
 unfold xk at h
 refine bM.of Tryz.func251 rfl Tryz.ntmps251 rfl fun W A=> ?_
 refine aF ?_
 refine cj fun aZ=> ?_
 refine aL ?_
 refine bO ?_
 obtain⟨ca,dh,h⟩:=aw h
 obtain⟨bC,dP,h⟩:=aw h
 obtain⟨b2,eZ,h⟩:=aw h
 obtain⟨cf,fk,h⟩:=aw h
 obtain⟨aG,bo,h⟩:=aw h
 obtain⟨aJ,cr,h⟩:=aw h
 obtain⟨bE,dE,h⟩:=aw h
 refine ag.draw mixed 26 ((some 7) :: (some 8) :: (some 9) :: (some 10) :: (some 11) :: (some 12) :: (some 13) :: (some 14) :: (some 15) :: (some 16) :: (some 17) :: (some 18) :: (some 19) :: (some 20) :: (some 21) :: (some 22) :: (some 23) :: (some 24) :: (some 25) :: (some 26) :: (some 27) :: (some 28) :: (some 29) :: (some 30) :: (some 31) :: (some 32) :: []) ([] :: [0] :: [1] :: [2] :: [2,3] :: [2,4] :: [5] :: [6] :: [6] :: [6,8] :: [6,9] :: [6,10] :: [6,7,11] :: [6,12] :: [13] :: [14] :: [14] :: [14,16] :: [14,17] :: [14,18] :: [14] :: [14,19,20] :: [14,15,21] :: [14] :: [14,22,23] :: [14,24] :: []) (.val _ :: .val _ :: .val _ :: .val _ :: .val _ :: .val _ :: .val _ :: .val _ :: .val _ :: .val _ :: .val _ :: .val _ :: .val _ :: .val _ :: .val _ :: .val _ :: .val _ :: .val _ :: .val _ :: .val _ :: .val _ :: .val _ :: .val _ :: .val _ :: .val _ :: .val _ :: []) (false :: false :: false :: false :: false :: false :: false :: false :: false :: false :: false :: false :: false :: false :: false :: false :: false :: false :: false :: false :: false :: false :: false :: false :: false :: false :: []) (by kernel_rfl) rfl rfl rfl (fun da=>⟨cZ,dO fun L' al=>DL Tryz.underlying321 (ab rfl),cZ,ei fun L' al=>fun hb=>cM (ab rfl),ei fun L' al=>fun hb=>kT (cb rfl hb) (bP 0),dO fun L' al=>pc (ab rfl) (ab rfl) (fun h=>h),cZ,ei fun L' al=>fun hb=>cM (ab rfl),ei fun L' al=>fun hb=>cM (ab rfl),ei fun L' al=>fun hb=>dD (eg (cb rfl hb) (fE dh hb)),ei fun L' al=>fun hb=>aT va (cb rfl hb),ei fun L' al=>fun hb=>fA ((aN.id fv).comp sY) (r:=bC.fw) bF (cb rfl hb) (kc (fun i e q=>al i e q rfl) (eM (n:=1) rfl (mb (fE dP hb)) rfl)) rfl rfl,ei fun L' al=>fun hb=>qS (cb rfl hb) (cb rfl hb),dO fun L' al=>pc (ab rfl) (ab rfl) (fun h=>h),cZ,ei fun L' al=>fun hb=>eA (i:=0) (aN.id ar) (r:=aj) bQ (ab rfl) (al _ _ rfl rfl) rfl rfl,ei fun L' al=>fun hb=>cM (ab rfl),ei fun L' al=>fun hb=>dD (eg (cb rfl hb) (fE eZ hb)),ei fun L' al=>fun hb=>aT va (cb rfl hb),ei fun L' al=>fun hb=>fA ((aN.id fv).comp sY) (r:=cf.fw) bF (cb rfl hb) (kc (fun i e q=>al i e q rfl) (eM (n:=1) rfl (mb (fE fk hb)) rfl)) rfl rfl,ei fun L' al=>fun hb=>cM (ab rfl),ei fun L' al=>fun hb=>iG Ox (Ld (fE bo hb)) ⟨cb rfl hb,cb rfl hb,trivial⟩,ei fun L' al=>fun hb=>iG Be (Ah (fE cr hb)) ⟨cb rfl hb,cb rfl hb,trivial⟩,ei fun L' al=>fun hb=>eA (i:=0) (aN.id ar) (r:=aj) bQ (ab rfl) (al _ _ rfl rfl) rfl rfl,ei fun L' al=>fun hb=>yb oE rfl tx rfl (cb rfl hb) (cb rfl hb),uo dE fun L' al=>pc (ab rfl) (ab rfl) (fun h=>h),trivial⟩) fun da=> ?_
 refine aL ?_
 refine aK ?_
 refine ag.ret ?_
 obtain rfl:=aI h
 exact ae.fi () (.cons _ (.refl _)) rfl rfl (dv rfl)
theorem SX {aa:List aA} {g2:Option Nat} {dQ:Nat} {r:(List aA)} (h:xJ aa=some r):bM Tryz.prog 269 [I.eq (a2 g2 aa.length dQ)] [⟨g2,.row 52 (aa:List aA) dQ⟩] (δ:=Unit) (fun d=>I.of (r)) (fun d=> [⟨g2,.row 52 (aa:List aA) dQ⟩]):=by
 unfold xJ at h
 refine bM.of Tryz.func269 rfl Tryz.ntmps269 rfl fun W A=> ?_
 refine aF ?_
 refine bl (eB (look_nil (α:=aA))) ?_
 refine b0 ?_
 refine ah.own (α:=aA) 52 ?_
 refine bl (eB rG) ?_
 refine bO ?_
 refine aF ?_
 refine aD ?_
 refine bl (pL (i:=1) Tryz.underlying38 (ab rfl) rfl rfl) ?_
 refine aD ?_
 refine aK ?_
 refine ag.block ?_
 obtain⟨av,ao,h⟩:=aw h
 refine hT (γ:=(Option Nat × Nat)) (δ:=(Option Nat × Nat)) ao [0,2,6,7] (fun s1 aq=> [(3,I.eq (a2 aq.1 s1.2.length aq.2)),(8,I.of (s1.1))]) (fun s1 aq=> [(0,⟨aq.1,.row 52 (s1.2:List aA) aq.2⟩)]) (fun az=>Exit.exit 0) (fun az aq=> [(3,I.eq (a2 aq.1 az.2.2.length aq.2)),(8,I.of (az.1)),(9,I.of (az.2.1))]) (fun az aq=> [(0,⟨aq.1,.row 52 (az.2.2:List aA) aq.2⟩)]) (none,0) (fun s1 r h aq=> ?_) fun aq=> ?_
 ·clear ao
  refine aF ?_
  refine bm eT ?_
  refine bO ?_
  refine cm h (fun h=>?_) fun h=>?_
  ·refine cW ?_
   refine ag.seq ?_
   refine ag.block ?_
   refine aF ?_
   obtain⟨a8,cE,h⟩:=aw h
   refine bl (lp (i:=1) (k:=a8) (xs:=(aa:List aA)) Tryz.underlying38 cg (ab rfl) (ab rfl) rfl (cL cE)) ?_
   refine bl (o5 (i:=1) (k:=a8) (aN.id aA) (r:=(aE aa a8)) cg (ab rfl) rfl (cL cE).1 rfl rfl) ?_
   refine c1 gh fun aZ=> ?_
   refine cA 0 cg ?_
   refine aK ?_
   refine ag.cz ?_
   refine aD ?_
   refine cG 0 cg ?_
   obtain⟨aG,bo,h⟩:=aw h
   refine e6 yp (xu bo) ?_
   refine hX [aG] Tryz.underlying38 cg gh ?_
   obtain⟨aJ,cr,h⟩:=aw h
   refine nq 1 Tryz.underlying38 cg gh cr fun g3 fC=> ?_
   refine aL ?_
   refine ah.nil ?_
   refine ae.ea ?_
   refine ae.next ?_
   refine ag.cz ?_
   refine bm dI ?_
   refine aD ?_
   refine ah.nil ?_
   obtain rfl:=aI h
   exact gP (g3,fC) 1
  ·refine ag.exit ?_
   refine ae.exit ?_
   obtain rfl:=aI h
   exact eD (aq.1,aq.2) 0
 ·clear ao
  refine ae.fM ?_
  refine ae.next ?_
  refine aF ?_
  refine aD ?_
  refine aL ?_
  refine aK ?_
  refine ag.ret ?_
  refine ae.m7 (α:=aA) 0 [2,3,18] ⟨rfl,rfl,rfl,trivial⟩ rfl ?_
  refine ae.bz 1 rfl ?_
  obtain rfl:=aI h
  exact mn ()
theorem Li {aa:a3} {aj:bu} {r:Int} (h:xE aa aj=some r):bK Tryz.prog 190 [I.of (aa),I.of (aj)] (I.of (r)):=by
 unfold xE at h
 refine bK.of Tryz.func190 rfl Tryz.ntmps190 rfl fun W A=> ?_
 refine aF ?_
 refine cj fun aZ=> ?_
 refine cj fun bc=> ?_
 refine aL ?_
 refine b0 ?_
 refine cG 1 ho ?_
 refine cG 0 hf ?_
 obtain⟨aG,bo,h⟩:=aw h
 refine e6 Oy (Lq bo) ?_
 refine aD ?_
 refine gr ?_
 refine gr ?_
 refine c1 mO fun cC=> ?_
 refine cA 0 hn ?_
 refine aL ?_
 refine b0 ?_
 refine aY (aT mH) ?_
 refine cq 0 kQ mg ?_
 obtain⟨aJ,cr,h⟩:=aw h
 refine bl (iG Xx (Rd cr) ⟨ab rfl,UF Xy (fun _ _=>Sb),trivial⟩) ?_
 refine aL ?_
 refine bO ?_
 refine aF ?_
 refine aD ?_
 refine aY hP ?_
 refine aD ?_
 refine ey cM ?_
 refine kE eT ?_
 refine sl ?_
 refine aD ?_
 refine ey cM ?_
 refine ey (aT lk) ?_
 refine ep (fun hb=>eA (i:=1) ((aN.id bu).comp lh) (r:=aj.bZ) kY (cb rfl hb) rfl rfl rfl) ?_
 refine ey (eK Tryz.underlying47) ?_
 refine kE kT ?_
 obtain⟨bE,dE,h⟩:=aw h
 refine dF dE (vT (ab rfl) (ab rfl) (fun h=>h)) ?_
 refine aK ?_
 refine cm h (fun h=>?_) fun h=>?_
 ·refine aF ?_
  refine aL ?_
  refine aK ?_
  refine ag.ret ?_
  refine ae.ret ?_
  obtain rfl:=aI h
  exact cR
 ·refine cW ?_
  refine aF ?_
  refine aY (aT lk) ?_
  refine cq 1 lh kY ?_
  refine aD ?_
  obtain⟨a8,cE,h⟩:=aw h
  refine hU cE Tryz.underlying47 fr ?_
  refine Fj m3 o8 ?_
  refine aY (dV bF) ?_
  refine aL ?_
  refine aK ?_
  refine ag.ret ?_
  obtain rfl:=aI h
  exact cR
theorem K1 {hp:aS Cell} {aa:Ref} {aj:Int} {aP:Bool} {r:aA × Bool} (h:xj hp aa aj aP=some r):bM Tryz.prog 72 [I.of (aa),I.of (aj),I.of (aP)] ([] ++ aV hp) (δ:=Unit) (fun _=>I.ed [I.of (r.1),I.of (r.2)]) (fun _=> [] ++ aV hp):=by
 unfold xj at h
 refine bM.of Tryz.func72 rfl Tryz.ntmps72 rfl fun W A=> ?_
 refine aF ?_
 refine c1 gh fun aZ=> ?_
 refine aL ?_
 refine bO ?_
 refine aF ?_
 refine aD ?_
 refine aY hP ?_
 refine aK ?_
 refine cm h (fun h=>?_) fun h=>?_
 ·refine aF ?_
  refine hC yq gh (default:aA) .nil ?_
  refine cA 0 cg ?_
  refine aL ?_
  refine aK ?_
  refine ag.ret ?_
  refine ae.ret ?_
  obtain rfl:=aI h
  exact ae.ky () (.cons _ (.refl _)) rfl rfl (ju (i:=0) cg rfl rfl) (dv rfl)
 ·refine cW ?_
  refine aF ?_
  refine aD ?_
  obtain⟨ca,dh,h⟩:=aw h
  refine bl (dD (eg (ab rfl) dh)) ?_
  refine aY (aT AK) ?_
  obtain⟨bC,dP,h⟩:=aw h
  refine bl (fA ((aN.id gA).comp w6) (r:=bC.ks) ye (ab rfl) (eM (n:=1) rfl (lN dP) rfl) rfl rfl) ?_
  refine aD ?_
  obtain⟨b2,eZ,h⟩:=aw h
  obtain⟨cf,fk,h⟩:=aw h
  obtain⟨bE,dE,h⟩:=aw h
  refine bl (vb (r:=bE) Tryz.underlying133 Fo gh (l7 (ab rfl) eZ) (ab rfl) (eM (n:=1) rfl (qQ fk) rfl) (aI dE)) ?_
  obtain⟨aG,bo,h⟩:=aw h
  refine e6 yp (xu bo) ?_
  refine cA 0 cg ?_
  refine aL ?_
  refine aK ?_
  refine ag.ret ?_
  obtain rfl:=aI h
  exact ae.ky () (.cons _ (.refl _)) rfl rfl (ju (i:=0) cg rfl rfl) (dv rfl)
theorem Sq {hp:aS Cell} {aa:Ref} {r:(List di)} (h:Dw hp aa=some r):bM Tryz.prog 253 [I.of (aa)] ([] ++ aV hp) (δ:=Unit) (fun _=>I.of (r)) (fun _=> [] ++ aV hp):=by
 unfold Dw at h
 refine bM.of Tryz.func253 rfl Tryz.ntmps253 rfl fun W A=> ?_
 refine aF ?_
 refine bl (eB (look_nil (α:=di))) ?_
 refine b0 ?_
 refine ah.pa (z:=(default:List di)) [0] Vm Xz rfl fun aZ=> ?_
 refine ah.own (α:=di) 347 ?_
 refine b0 ?_
 refine aD ?_
 refine bl (Oz (f:=257) (us:= [.pointer (some ⟨aZ,0,none⟩)]) ⟨ab rfl,trivial⟩) ?_
 refine ah.Fh (γ:=di) (b':=([]:List di)) (aN.id (List di)) 1 0 rfl rfl rfl ?_
 refine ah.bz 0 rfl ?_
 refine ah.bz 1 rfl ?_
 obtain⟨aG,bo,h⟩:=aw h
 refine ah.rm (eV.iR 2 2 rfl XA (Rh (key02_0:=none) (cap02_0:=0) bo) rfl rfl ⟨ab rfl,ab rfl,trivial⟩) rfl rfl rfl fun az=> ?_
 refine ah.dR (L2:=(⟨some aZ,.b4 ([]:List di) [(0,a2 az.1 aG.length az.2)]⟩ :: ⟨az.1,.row 347 (aG:List di) az.2⟩ :: aV hp)) rfl ?_
 refine b0 ?_
 refine bl (ih (i:=0) (q:=0) (β:=List di) (γ:=di) Iu (ab rfl) rfl rfl) ?_
 refine aL ?_
 refine aK ?_
 refine ag.ret ?_
 refine ae.tC (β:=List di) (γ:=di) (b':=(aG:List di)) (aN.id (List di)) 0 1 0 2 rfl rfl rfl rfl rfl rfl rfl ?_
 refine ae.pd 0 rfl ?_
 obtain rfl:=aI h
 exact ae.fi () (.cons _ (.cons _ (.refl _))) rfl rfl (dv rfl)
theorem K8 {hp:aS Cell} {aa:Ref} {aj:ar} {aP:Int} {r:Ref} (h:xq hp aa aj aP=some r):bM Tryz.prog 247 [I.of (aa),I.of (aj),I.of (aP)] ([] ++ aV hp) (δ:=Unit) (fun _=>I.of (r)) (fun _=> [] ++ aV hp):=by
 unfold xq at h
 refine bM.ofM Tryz.func247 rfl Tryz.ntmps247 rfl fun W A=> ?_
 refine aF ?_
 refine cj fun aZ=> ?_
 refine c1 vG fun bc=> ?_
 refine bO ?_
 refine aF ?_
 refine aD ?_
 refine cG 1 bQ ?_
 refine aD ?_
 obtain⟨aG,bo,h⟩:=aw h
 refine ah.iM (fG.jd 2 rfl OA (K4 bo) ⟨ab rfl,ab rfl,ab rfl,trivial⟩) rfl rfl rfl ?_
 refine aY hP ?_
 refine aK ?_
 refine cm h (fun h=>?_) fun h=>?_
 ·refine aF ?_
  refine ah.store (i:=0) (aN.id Ref) (v:=((none:Ref):Ref)) (b':=((none:Ref):Ref)) dX (ab rfl) (qE) rfl rfl rfl ?_
  refine aK ?_
  refine ag.ret ?_
  refine ae.ret ?_
  obtain rfl:=aI h
  refine ae.By ?_
  exact ae.fi () (.cons _ (.cons _ (.refl _))) rfl rfl (ju (i:=0) dX rfl rfl)
 ·refine cW ?_
  refine aF ?_
  refine aD ?_
  obtain⟨ca,dh,h⟩:=aw h
  refine bl (dD (eg (ab rfl) dh)) ?_
  refine aY (aT rO) ?_
  obtain⟨bC,dP,h⟩:=aw h
  refine bl (fA ((aN.id fv).comp ry) (r:=bC.cB) dX (ab rfl) (eM (n:=2) rfl (mb dP) rfl) rfl rfl) ?_
  refine c1 vG fun cC=> ?_
  refine cA 0 dX ?_
  refine bO ?_
  refine aF ?_
  refine aD ?_
  refine cG 2 bQ ?_
  refine aD ?_
  obtain⟨aJ,cr,h⟩:=aw h
  refine e6 EK (Du cr) ?_
  refine aK ?_
  refine ag.block ?_
  obtain⟨av,ao,h⟩:=aw h
  refine G2 (hp:=hp) (γ:=Unit) (g0:=()) (Ls:=fun s1 aq=>(⟨some cC,.var (s1:Ref)⟩ :: ⟨some bc,.var ((default:Ref):Ref)⟩ :: ⟨some aZ,.var (aj:ar)⟩ :: aV hp)) (Lx:=fun az aq=>(⟨some cC,.var (az.1:Ref)⟩ :: ⟨some bc,.var (az.2:Ref)⟩ :: ⟨some aZ,.var (aj:ar)⟩ :: aV hp)) (fun s1 aq=> [⟨some cC,.var (s1:Ref)⟩,⟨some bc,.var ((default:Ref):Ref)⟩,⟨some aZ,.var (aj:ar)⟩]) (fun az=> .ret) rfl EL rfl Gq ao (fun _ _=>rfl) rfl rfl (fun oK s1 r h aq k3 k8 k4 l D rec sq=> ?_) (fun s1 aR aq D=> ?_) (fun az aR aq D=> ?_)
  ·clear ao
   refine ag.cz ?_
   refine aL ?_
   refine ah.nil ?_
   refine ae.begin 0 rfl sq ?_
   refine ag.block ?_
   refine ag.seq ?_
   refine aF ?_
   refine cG 2 dX ?_
   refine bl (mE Tryz.underlying331 (ab rfl)) ?_
   refine aK ?_
   refine cm h (fun h=>?_) fun h=>?_
   ·refine aF ?_
    refine ah.store (i:=3) (aN.id Ref) (v:=((none:Ref):Ref)) (b':=((none:Ref):Ref)) dX (ab rfl) (qE) rfl rfl rfl ?_
    refine aK ?_
    refine ag.ret ?_
    refine ae.ret ?_
    refine ae.dn ?_
    obtain rfl:=aI h
    exact ae.HY () 0 rfl rfl rfl
   ·refine cW ?_
    refine ag.cz ?_
    refine cG 2 dX ?_
    refine aD ?_
    obtain⟨b2,eZ,h⟩:=aw h
    refine bl (dD (eg (ab rfl) eZ)) ?_
    refine aY (aT qL) ?_
    obtain⟨a8,cE,h⟩:=aw h
    refine bl (il (k:=a8) r3 (ab rfl) (ab rfl) (cL cE)) ?_
    obtain⟨cf,fk,h⟩:=aw h
    refine bl (fA (((aN.id dx).comp qA).comp (aN.idx (α:=Ref) 2 a8 (cL cE).1)) (r:=bD cf.cU a8) dX (ab rfl) (eM (n:=5) rfl (iP fk) rfl) rfl rfl) ?_
    refine cA 2 dX ?_
    refine ah.nil ?_
    refine ae.ea ?_
    obtain rfl:=aI h
    exact ae.Jp () 0 rfl
  ·clear ao; subst aR; simp only [Sum.elim_inl] at h
   refine ae.dR (L2:=(⟨some D,.dj⟩ :: ⟨some cC,.var (s1:Ref)⟩ :: ⟨some bc,.var ((default:Ref):Ref)⟩ :: ⟨some aZ,.var (aj:ar)⟩ :: aV hp)) rfl ?_
   refine ae.ea ?_
   refine ae.next ?_
   refine aF ?_
   refine cG 1 dX ?_
   refine cA 2 dX ?_
   refine aK ?_
   refine ag.ret ?_
   obtain rfl:=aI h
   refine ae.tL 0 rfl rfl ?_
   exact ae.fi () (.cons _ (.cons _ (.cons _ (.cons _ (.refl _))))) rfl rfl (ju (i:=2) dX rfl rfl)
  ·clear ao; subst aR; simp only [Sum.elim_inr] at h
   refine ag.ret ?_
   refine ae.dR (L2:=(⟨some D,.dj⟩ :: ⟨some cC,.var (az.1:Ref)⟩ :: ⟨some bc,.var (az.2:Ref)⟩ :: ⟨some aZ,.var (aj:ar)⟩ :: aV hp)) rfl ?_
   refine ae.dn ?_
   refine ae.ret ?_
   obtain rfl:=aI h
   refine ae.tL 0 rfl rfl ?_
   exact ae.fi () (.cons _ (.cons _ (.cons _ (.cons _ (.refl _))))) rfl rfl (ju (i:=2) dX rfl rfl)
theorem RB {aa:cu} {b9:Nat} {h2:Option Nat} {h3:Nat} {r:(List aA)} (h:zo aa=some r):bM Tryz.prog 264 [I.eq (.pointer (some ⟨b9,0,none⟩))] [⟨some b9,.b4 (({ aa with b1:= [] } :cu):cu) [(10,a2 h2 aa.b1.length h3)]⟩,⟨h2,.row 52 (aa.b1:List aA) h3⟩] (δ:=Unit) (fun d=>I.of (r)) (fun d=> [⟨some b9,.b4 (({ aa with b1:= [] } :cu):cu) [(10,a2 h2 (aa.b1).length h3)]⟩,⟨h2,.row 52 (aa.b1:List aA) h3⟩]):=by
 unfold zo at h
 refine bM.of Tryz.func264 rfl Tryz.ntmps264 rfl fun W A=> ?_
 refine aF ?_
 refine bl (eB (look_nil (α:=aA))) ?_
 refine bO ?_
 refine aF ?_
 refine aD ?_
 refine bl (En Tryz.underlying170 (ab rfl)) ?_
 refine aK ?_
 refine ag.rY (ab rfl) rfl ?_
 refine cW ?_
 refine aF ?_
 refine aD ?_
 refine aY dD ?_
 refine aY (aT rJ) ?_
 refine bl (ih (i:=0) (q:=0) (β:=cu) (γ:=aA) q1 (ab rfl) rfl rfl) ?_
 obtain⟨aG,bo,h⟩:=aw h
 refine ah.iM (fG.call [1] XB (SX bo) ⟨ab rfl,trivial⟩ rfl ⟨rfl,trivial⟩ rfl) rfl rfl rfl ?_
 refine aL ?_
 refine aK ?_
 refine ag.ret ?_
 refine ae.bz 1 rfl ?_
 refine ae.bz 1 rfl ?_
 obtain rfl:=aI h
 exact mn ()
theorem Lt {aa:a3} {aj:aA} {aP:aA} {r:Bool} (h:xH aa aj aP=some r):bK Tryz.prog 150 [I.of (aa),I.of (aj),I.of (aP)] (I.of (r)):=by
 unfold xH at h
 refine bK.of Tryz.func150 rfl Tryz.ntmps150 rfl fun W A=> ?_
 refine aF ?_
 refine cj fun aZ=> ?_
 refine cj fun bc=> ?_
 refine cj fun cC=> ?_
 refine aL ?_
 refine bO ?_
 obtain⟨aG,bo,h⟩:=aw h
 obtain⟨aJ,cr,h⟩:=aw h
 obtain⟨bh,e7,h⟩:=aw h
 obtain⟨bn,fT,h⟩:=aw h
 obtain⟨cw,hV,h⟩:=aw h
 obtain⟨dg,hW,h⟩:=aw h
 refine ag.draw mixed 24 ((some 7) :: (some 8) :: (some 9) :: (some 10) :: (some 11) :: (some 12) :: (some 13) :: (some 14) :: (some 15) :: (some 16) :: (some 17) :: (some 18) :: (some 19) :: (some 20) :: (some 21) :: (some 22) :: (some 23) :: (some 24) :: (some 25) :: (some 26) :: (some 27) :: (some 28) :: (some 29) :: (some 30) :: []) ([] :: [0] :: [1] :: [] :: [3] :: [4] :: [2,5] :: [] :: [] :: [8] :: [7,9] :: [] :: [] :: [12] :: [11,13] :: [10,14] :: [] :: [16] :: [] :: [18] :: [17,19] :: [6,15,20] :: [21] :: [22] :: []) (.val _ :: .val _ :: .val _ :: .val _ :: .val _ :: .val _ :: .val _ :: .val _ :: .val _ :: .val _ :: .val _ :: .val _ :: .val _ :: .val _ :: .val _ :: .val _ :: .val _ :: .val _ :: .val _ :: .val _ :: .val _ :: .val _ :: .val _ :: .val _ :: []) (false :: false :: false :: false :: false :: false :: false :: false :: false :: false :: false :: false :: false :: false :: false :: false :: false :: false :: false :: false :: false :: false :: false :: false :: []) (by kernel_rfl) rfl rfl rfl (fun da=>⟨H1 (aT ll),H1 (aT rR),dz 1 (kq.comp ru) bF,H1 (aT ll),H1 (aT rR),dz 0 (kq.comp ru) bF,fl tK (s5 bo),fy 2 ho,H1 (aT ll),dz 1 kq hf,fl OB (Li cr),fy 2 ho,H1 (aT ll),dz 0 kq hf,fl OB (Li e7),fl tK (s5 fT),H1 (aT nR),dz 1 mD bF,H1 (aT nR),dz 0 mD bF,fl tK (s5 hV),dO fun L' al=>iI (r:= [aG,bn,cw]) Tryz.underlying63 bF jD rfl rfl (.cons (by simp) (ab rfl) (.cons (by simp) (ab rfl) (.cons (by simp) (ab rfl) (.nil)))),fl Iy (GJ hW),iC pO,trivial⟩) fun da=> ?_
 refine aL ?_
 refine aK ?_
 refine ag.ret ?_
 obtain rfl:=aI h
 exact cR
theorem Sr {hp:aS Cell} {aa:Ref} {r:Int} (h:xx hp aa=some r):bM Tryz.prog 246 [I.of (aa)] ([] ++ aV hp) (δ:=Unit) (fun _=>I.of (r)) (fun _=> [] ++ aV hp):=by
 unfold xx at h
 refine bM.of Tryz.func246 rfl Tryz.ntmps246 rfl fun W A=> ?_
 refine aF ?_
 refine aL ?_
 refine b0 ?_
 refine aD ?_
 obtain⟨aG,bo,h⟩:=aw h
 refine ah.iM (fG.jd 0 rfl XC (Sq bo) ⟨ab rfl,trivial⟩) rfl rfl rfl ?_
 refine aY (eK Tryz.underlying342) ?_
 refine aL ?_
 refine aK ?_
 refine ag.ret ?_
 obtain rfl:=aI h
 exact ae.fi () (.refl _) rfl rfl (dv rfl)
theorem RL {hp:aS Cell} {aa:ja} {aj:aA} {Q:(aS Cell)→Prop} (h:zu hp aa aj Q):bM Tryz.prog 263 [I.of (aa),I.of (aj)] ([] ++ aV hp) (δ:= {r:(aS Cell) // Q r} × Unit) (fun d=>I.ed []) (fun d=> [] ++ aV d.1.1):=by
 unfold zu at h
 refine bM.of Tryz.func263 rfl Tryz.ntmps263 rfl fun W A=> ?_
 refine aF ?_
 refine cj fun aZ=> ?_
 refine cj fun bc=> ?_
 refine aK ?_
 refine ag.cz ?_
 refine aY (aT D7) ?_
 refine cq 1 zH Bf ?_
 refine aY (aT nR) ?_
 refine cq 0 mD bF ?_
 obtain⟨ca,dh,h⟩:=ax.cv h
 obtain⟨bC,dP,h⟩:=ax.cv h
 obtain⟨aG,bo,h⟩:=ax.cv h
 refine ah.rm (eV.obj 2 (fun q:Option Nat × Nat=>Cell.q0 aG.2 q.1 q.2) rfl (tr dP) XD (Rj bo) rfl (fun _=>rfl) ⟨eg (ab rfl) dh,ab rfl,trivial⟩) rfl rfl rfl fun az=> ?_
 replace h:=ax.any_bind h az
 obtain⟨cS,kz,h⟩:=ax.cv h
 refine ah.dR (L2:=(⟨some bc,.var (aj:aA)⟩ :: ⟨some aZ,.var (aa:ja)⟩ :: aV cS)) (by rw [← aI kz]; rfl) ?_
 refine ah.nil ?_
 refine ae.nd ?_
 exact ae.kU (⟨⟨cS,h⟩,()⟩: {r // _} × _) (.cons _ (.cons _ (.refl _))) rfl rfl
theorem Ss {aa:List bV} {aj:List bV} {r:Int} (h:zY aa aj=some r):bK Tryz.prog 138 [I.of (aa),I.of (aj)] (I.of (r)):=by
 unfold zY at h
 refine bK.of Tryz.func138 rfl Tryz.ntmps138 rfl fun W A=> ?_
 refine aF ?_
 refine aL ?_
 refine bO ?_
 refine aF ?_
 refine aL ?_
 refine aK ?_
 refine ag.block ?_
 obtain⟨av,ao,h⟩:=aw h
 refine hT (γ:=Unit) (δ:=Unit) ao [0,1] (fun s1 aq=> [(4,I.of (0:Int)),(5,I.of (s1))]) (fun s1 aq=> []) (fun az=>Sum.elim (fun az=>Exit.exit 0) (fun az=>Exit.ret) az) (fun az aq=>Sum.elim (fun az=> [(4,I.of (0:Int)),(5,I.of (az.1)),(16,I.of (az.2))]) (fun az=> [(4,I.of (az.1)),(5,I.of (az.2.1)),(6,I.of (az.2.2.1)),(16,I.of (az.2.2.2.1)),(29,I.of (az.2.2.2.2))]) az) (fun az aq=>Sum.elim (fun az=> []) (fun az=> []) az) () (fun s1 r h aq=> ?_) fun aq=> ?_
 ·clear ao
  refine ag.seq ?_
  refine aF ?_
  refine aD ?_
  refine aD ?_
  refine aY (eK Tryz.underlying47) ?_
  refine bm eT ?_
  refine aD ?_
  refine ey cM ?_
  refine ey cM ?_
  refine ey (eK Tryz.underlying47) ?_
  refine kE eT ?_
  refine jB ?_
  refine aK ?_
  refine cm h (fun h=>?_) fun h=>?_
  ·refine cW ?_
   refine ag.seq ?_
   refine ag.block ?_
   refine ag.seq ?_
   obtain⟨a8,cE,h⟩:=aw h
   obtain⟨bY,cX,h⟩:=aw h
   obtain⟨aG,bo,h⟩:=aw h
   refine ag.draw mixed 9 [some 19,some 20,some 21,some 22,some 23,some 24,some 25,some 26,some 27] [[],[],[0,1],[2],[],[],[4,5],[6],[3,7]] [.val _,.val _,.val _,.val _,.val _,.val _,.val _,.val _,.val _] [false,false,false,false,false,false,false,false,false] (by kernel_rfl) rfl rfl rfl (fun da=>⟨cZ,cZ,nj cE Tryz.underlying47 fr,H1 (dV fr),cZ,cZ,nj cX Tryz.underlying47 fr,H1 (dV fr),fl XE (SI bo),trivial⟩) fun da=> ?_
   refine aL ?_
   refine b0 ?_
   refine aD ?_
   refine bm qV ?_
   refine aK ?_
   refine cm h (fun h=>?_) fun h=>?_
   ·refine aF ?_
    refine aD ?_
    refine aL ?_
    refine aK ?_
    refine ag.ret ?_
    refine ae.dn ?_
    refine ae.ret ?_
    obtain rfl:=aI h
    exact eD () 0
   ·refine ag.skip ?_
    refine ae.ea ?_
    refine ae.next ?_
    refine ag.cz ?_
    refine aD ?_
    refine bm dI ?_
    refine aL ?_
    refine ah.nil ?_
    obtain rfl:=aI h
    exact gP () 0
  ·refine ag.exit ?_
   refine ae.exit ?_
   obtain rfl:=aI h
   exact eD () 0
 ·clear ao
  rcases av with av | av
  ·simp only [Sum.elim_inl] at h
   refine ae.fM ?_
   refine ae.next ?_
   refine aF ?_
   refine aD ?_
   refine aY (eK Tryz.underlying47) ?_
   refine aD ?_
   refine aY (eK Tryz.underlying47) ?_
   obtain⟨aJ,cr,h⟩:=aw h
   refine e6 yc (xD cr) ?_
   refine aL ?_
   refine aK ?_
   refine ag.ret ?_
   obtain rfl:=aI h
   exact cR
  ·simp only [Sum.elim_inr] at h
   refine ae.dn ?_
   refine ae.ret ?_
   obtain rfl:=aI h
   exact cR
theorem St {aa:bu} {aj:bu} {r:Int} (h:zZ aa aj=some r):bK Tryz.prog 98 [I.of (aa),I.of (aj)] (I.of (r)):=by
 unfold zZ at h
 refine bK.of Tryz.func98 rfl Tryz.ntmps98 rfl fun W A=> ?_
 refine aF ?_
 refine cj fun aZ=> ?_
 refine cj fun bc=> ?_
 refine aL ?_
 refine bO ?_
 obtain⟨aG,bo,h⟩:=aw h
 obtain⟨aJ,cr,h⟩:=aw h
 obtain⟨bh,e7,h⟩:=aw h
 obtain⟨bn,fT,h⟩:=aw h
 obtain⟨cw,hV,h⟩:=aw h
 obtain⟨dg,hW,h⟩:=aw h
 refine ag.draw mixed 27 ((some 5) :: (some 6) :: (some 7) :: (some 8) :: (some 9) :: (some 10) :: (some 11) :: (some 12) :: (some 13) :: (some 14) :: (some 15) :: (some 16) :: (some 17) :: (some 18) :: (some 19) :: (some 20) :: (some 21) :: (some 22) :: (some 23) :: (some 24) :: (some 25) :: (some 26) :: (some 27) :: (some 28) :: (some 29) :: (some 30) :: (some 31) :: []) ([] :: [0] :: [] :: [2] :: [1,3] :: [] :: [5] :: [] :: [7] :: [6,8] :: [] :: [10] :: [] :: [12] :: [11,13] :: [] :: [15] :: [] :: [17] :: [16,18] :: [] :: [20] :: [] :: [22] :: [21,23] :: [4,9,14,19,24] :: [25] :: []) (.val _ :: .val _ :: .val _ :: .val _ :: .val _ :: .val _ :: .val _ :: .val _ :: .val _ :: .val _ :: .val _ :: .val _ :: .val _ :: .val _ :: .val _ :: .val _ :: .val _ :: .val _ :: .val _ :: .val _ :: .val _ :: .val _ :: .val _ :: .val _ :: .val _ :: .val _ :: .val _ :: []) (false :: false :: false :: false :: false :: false :: false :: false :: false :: false :: false :: false :: false :: false :: false :: false :: false :: false :: false :: false :: false :: false :: false :: false :: false :: false :: false :: []) (by kernel_rfl) rfl rfl rfl (fun da=>⟨H1 (aT vk),dz 1 sX bF,H1 (aT vk),dz 0 sX bF,fl tK (s5 bo),H1 (aT rR),dz 0 ru bF,H1 (aT rR),dz 1 ru bF,fl tK (s5 cr),H1 (aT lk),dz 1 lh kY,H1 (aT lk),dz 0 lh kY,dO fun L' al=>iG XF (Q9 e7) ⟨ab rfl,ab rfl,Hd XG (fun _ _ _=>RV),trivial⟩,H1 (aT xY),dz 1 xb bF,H1 (aT xY),dz 0 xb bF,fl tK (s5 fT),H1 (aT tq),dz 1 s0 sb,H1 (aT tq),dz 0 s0 sb,dO fun L' al=>iG XH (Ra hV) ⟨ab rfl,ab rfl,Hd yd (fun _ _ _=>xw),trivial⟩,dO fun L' al=>iI (r:= [aG,aJ,bh,bn,cw]) Tryz.underlying63 bF jD rfl rfl (.cons (by simp) (ab rfl) (.cons (by simp) (ab rfl) (.cons (by simp) (ab rfl) (.cons (by simp) (ab rfl) (.cons (by simp) (ab rfl) (.nil)))))),fl Iy (GJ hW),trivial⟩) fun da=> ?_
 refine aL ?_
 refine aK ?_
 refine ag.ret ?_
 obtain rfl:=aI h
 exact cR
theorem R6 {hp:aS Cell} {aa:Ref} {aj:ar} {r:Int × Int × Bool} (h:zN hp aa aj=some r):bM Tryz.prog 242 [I.of (aa),I.of (aj)] ([] ++ aV hp) (δ:=Unit) (fun _=>I.ed [I.of (r.1),I.of (r.2.1),I.of (r.2.2)]) (fun _=> [] ++ aV hp):=by
 unfold zN at h
 refine bM.ofM Tryz.func242 rfl Tryz.ntmps242 rfl fun W A=> ?_
 refine aF ?_
 refine cj fun aZ=> ?_
 refine aL ?_
 refine aL ?_
 refine aL ?_
 refine bO ?_
 refine ag.seq ?_
 obtain⟨ca,dh,h⟩:=aw h
 obtain⟨bC,dP,h⟩:=aw h
 obtain⟨aG,bo,h⟩:=aw h
 refine ag.draw mixed 11 [some 14,some 15,some 16,some 17,some 18,some 19,some 20,some 21,some 22,some 23,some 24] [[],[0],[1],[2],[2],[2,4],[2,5],[2,6],[2,3,7],[2,8],[2,9]] [.val _,.val _,.val _,.val _,.val _,.val _,.val _,.val _,.val _,.val _,.val _] [false,false,false,false,false,false,false,false,false,false,false] (by kernel_rfl) rfl rfl rfl (fun da=>⟨cZ,dO fun L' al=>mE Tryz.underlying321 (ab rfl),cZ,ei fun L' al=>fun hb=>eA (i:=0) (aN.id ar) (r:=aj) bQ (ab rfl) (al _ _ rfl rfl) rfl rfl,ei fun L' al=>fun hb=>cM (ab rfl),ei fun L' al=>fun hb=>dD (eg (cb rfl hb) (fE dh hb)),ei fun L' al=>fun hb=>aT va (cb rfl hb),ei fun L' al=>fun hb=>fA ((aN.id fv).comp sY) (r:=bC.fw) bF (cb rfl hb) (kc (fun i e q=>al i e q rfl) (eM (n:=1) rfl (mb (fE dP hb)) rfl)) rfl rfl,ei fun L' al=>fun hb=>iG XI (SV (fE bo hb)) ⟨cb rfl hb,cb rfl hb,trivial⟩,ei fun L' al=>fun hb=>hP (cb rfl hb),dO fun L' al=>vT (ab rfl) (ab rfl) (fun h=>h),trivial⟩) fun da=> ?_
 refine aK ?_
 refine cm h (fun h=>?_) fun h=>?_
 ·refine aF ?_
  refine aL ?_
  refine aL ?_
  refine aL ?_
  refine aK ?_
  refine ag.ret ?_
  refine ae.ret ?_
  obtain rfl:=aI h
  refine ae.By ?_
  exact ae.Iz () (.cons _ (.refl _)) rfl rfl (dv rfl) (dv rfl) (dv rfl)
 ·refine cW ?_
  refine aF ?_
  refine c1 jD fun bc=> ?_
  refine c1 jD fun cC=> ?_
  refine c1 Fl fun fm=> ?_
  refine cA 2 bF ?_
  refine cA 1 bF ?_
  refine cA 0 gi ?_
  refine b0 ?_
  refine aD ?_
  obtain⟨b2,eZ,h⟩:=aw h
  refine bl (dD (eg (ab rfl) eZ)) ?_
  refine aY (aT rO) ?_
  obtain⟨cf,fk,h⟩:=aw h
  refine bl (fA ((aN.id fv).comp ry) (r:=cf.cB) dX (ab rfl) (eM (n:=4) rfl (mb fk) rfl) rfl rfl) ?_
  refine c1 vG fun iY=> ?_
  refine c1 jD fun kJ=> ?_
  refine cA 1 dX ?_
  refine cA 0 bF ?_
  refine b0 ?_
  refine bl (Oz (f:=249) (us:= [.pointer (some ⟨iY,0,none⟩),.pointer (some ⟨kJ,0,none⟩),.pointer (some ⟨bc,0,none⟩),.pointer (some ⟨cC,0,none⟩),.pointer (some ⟨fm,0,none⟩)]) ⟨ab rfl,ab rfl,ab rfl,ab rfl,ab rfl,trivial⟩) ?_
  refine c1 aaw fun sK=> ?_
  refine cA 0 Jq ?_
  refine b0 ?_
  refine cG 0 Jq ?_
  refine ah.bz 3 rfl ?_
  refine ah.bz 4 rfl ?_
  refine ah.bz 5 rfl ?_
  refine ah.bz 4 rfl ?_
  refine ah.bz 5 rfl ?_
  obtain⟨aJ,cr,h⟩:=aw h
  refine ah.rm (eV.I1 (τs:= []) 7 5 rfl OC (Hc (ab rfl)) (KO cr) rfl rfl trivial) rfl rfl rfl fun az=> ?_
  refine ah.dR (L2:=(⟨some iY,.var (cf.cB:Ref)⟩ :: ⟨some kJ,.var (0:Int)⟩ :: ⟨some bc,.var (aJ.1:Int)⟩ :: ⟨some cC,.var (aJ.2.1:Int)⟩ :: ⟨some fm,.var (aJ.2.2:Bool)⟩ :: ⟨some sK,.var ((⟨249,some [.pointer (some ⟨iY,0,none⟩),.pointer (some ⟨kJ,0,none⟩),.pointer (some ⟨bc,0,none⟩),.pointer (some ⟨cC,0,none⟩),.pointer (some ⟨fm,0,none⟩)]⟩:Raw):Raw)⟩ :: ⟨some aZ,.var (aj:ar)⟩ :: aV hp)) rfl ?_
  refine bO ?_
  refine ag.seq ?_
  obtain⟨bh,e7,h⟩:=aw h
  refine ag.draw mixed 7 [some 32,some 33,some 34,some 35,some 36,some 37,some 38] [[],[],[],[2],[3],[4],[0,1,5]] [.val _,.val _,.val _,.val _,.val _,.val _,.val _] [false,false,false,false,false,false,false] (by kernel_rfl) rfl rfl rfl (fun kg=>⟨cZ,fy 6 bQ,cZ,dO fun L' al=>dD (eg (ab rfl) eZ),H1 (aT va),dO fun L' al=>fA ((aN.id fv).comp sY) (r:=cf.fw) bF (ab rfl) (kc (fun i e q=>al i e q rfl) (eM (n:=7) rfl (mb fk) rfl)) rfl rfl,fl EK (Du e7),trivial⟩) fun kg=> ?_
  refine aK ?_
  refine ag.block ?_
  obtain⟨av,ao,h⟩:=aw h
  refine G2 (hp:=hp) (γ:=Unit) (g0:=()) (Ls:=fun s1 aq=>(⟨some iY,.var (s1.1:Ref)⟩ :: ⟨some kJ,.var (s1.2.1:Int)⟩ :: ⟨some bc,.var (s1.2.2.1:Int)⟩ :: ⟨some cC,.var (s1.2.2.2.1:Int)⟩ :: ⟨some fm,.var (s1.2.2.2.2:Bool)⟩ :: ⟨some sK,.var ((⟨249,some [.pointer (some ⟨iY,0,none⟩),.pointer (some ⟨kJ,0,none⟩),.pointer (some ⟨bc,0,none⟩),.pointer (some ⟨cC,0,none⟩),.pointer (some ⟨fm,0,none⟩)]⟩:Raw):Raw)⟩ :: ⟨some aZ,.var (aj:ar)⟩ :: aV hp)) (Lx:=fun c7 aq=>(⟨some iY,.var (c7.1:Ref)⟩ :: ⟨some kJ,.var (c7.2.1:Int)⟩ :: ⟨some bc,.var (c7.2.2.1:Int)⟩ :: ⟨some cC,.var (c7.2.2.2.1:Int)⟩ :: ⟨some fm,.var (c7.2.2.2.2:Bool)⟩ :: ⟨some sK,.var ((⟨249,some [.pointer (some ⟨iY,0,none⟩),.pointer (some ⟨kJ,0,none⟩),.pointer (some ⟨bc,0,none⟩),.pointer (some ⟨cC,0,none⟩),.pointer (some ⟨fm,0,none⟩)]⟩:Raw):Raw)⟩ :: ⟨some aZ,.var (aj:ar)⟩ :: aV hp)) (fun s1 aq=> [⟨some iY,.var (s1.1:Ref)⟩,⟨some kJ,.var (s1.2.1:Int)⟩,⟨some bc,.var (s1.2.2.1:Int)⟩,⟨some cC,.var (s1.2.2.2.1:Int)⟩,⟨some fm,.var (s1.2.2.2.2:Bool)⟩,⟨some sK,.var ((⟨249,some [.pointer (some ⟨iY,0,none⟩),.pointer (some ⟨kJ,0,none⟩),.pointer (some ⟨bc,0,none⟩),.pointer (some ⟨cC,0,none⟩),.pointer (some ⟨fm,0,none⟩)]⟩:Raw):Raw)⟩,⟨some aZ,.var (aj:ar)⟩]) (fun c7=> .exit 0) rfl EL rfl Gq ao (fun _ _=>rfl) rfl rfl (fun oK s1 r h aq k3 k8 k4 l D rec sq=> ?_) (fun s1 aR aq D=> ?_) (fun c7 aR aq D=> ?_)
  ·clear ao
   refine ag.cz ?_
   refine aL ?_
   refine ah.nil ?_
   refine ae.begin 0 rfl sq ?_
   refine ag.block ?_
   refine ag.seq ?_
   refine aF ?_
   refine cG 2 dX ?_
   refine bl (mE Tryz.underlying331 (ab rfl)) ?_
   refine aK ?_
   refine cm h (fun h=>?_) fun h=>?_
   ·refine ag.exit ?_
    refine ae.exit ?_
    refine ae.V9 rfl ?_
    obtain rfl:=aI h
    exact ae.HY () 0 rfl rfl rfl
   ·refine cW ?_
    refine ag.seq ?_
    obtain⟨lG,q8,h⟩:=aw h
    obtain⟨a8,cE,h⟩:=aw h
    obtain⟨eH,lv,h⟩:=aw h
    refine iz [0,1,3,4,5,6,7,8,9,10,11,12,13,14,15,16,17,18,19,20,21,22,23,24,25,26,27,28,29,30,31,32,33,34,35,36,37,38,39,40,41] ?_
    refine ag.pP 9 mixed (a6 42 [] (2 :: []) _ :: a6 43 [] [] _ :: a6 44 (0 :: []) [] _ :: a6 45 (2 :: []) [] _ :: a6 46 (1 :: 3 :: []) [] _ :: ⟨some 47,(4 :: []),[],[],fun _=>I.of (bD eH.cU a8),fun _ _=>⟨none,.dead⟩⟩ :: a6 48 [] (3 :: []) _ :: a6 49 (6 :: []) [] _ :: ⟨none,(0 :: 5 :: []),(2 :: []),(2 :: []),fun _=>I.any,fun hd _=>⟨some iY,.var (bD eH.cU a8:Ref)⟩⟩ :: ⟨none,(6 :: 7 :: []),(3 :: []),(3 :: []),fun _=>I.any,fun hd _=>⟨some kJ,.var (bq (s1.2.1 + 1):Int)⟩⟩ :: []) _ (0 :: 1 :: 3 :: 4 :: 5 :: 6 :: 7 :: 8 :: 9 :: 10 :: 11 :: 12 :: 13 :: 14 :: 15 :: 16 :: 17 :: 18 :: 19 :: 20 :: 21 :: 22 :: 23 :: 24 :: 25 :: 26 :: 27 :: 28 :: 29 :: 30 :: 31 :: 32 :: 33 :: 34 :: 35 :: 36 :: 37 :: 38 :: 39 :: 40 :: 41 :: []) rfl rfl (by kernel_rfl) (by kernel_rfl) ⟨ct.q (lW 2 dX),ct.q (e2),ct.q (b8 fun hd E' L' aB al=>dD (eg (ab (aB _ _ rfl)) q8)),ct.q (fe (aT qL)),ct.q (b8 fun hd E' L' aB al=>il (k:=a8) r3 (ab (aB _ _ rfl)) (ab (aB _ _ rfl)) (cL cE)),?_,ct.q (lW 3 bF),ct.q (ur dI),?_,?_,trivial⟩ fun eP=> ?_
    ·intro hd E' L' aB al de
     refine bl (fA (((aN.id dx).comp qA).comp (aN.idx (α:=Ref) 2 a8 (cL cE).1)) (r:=bD eH.cU a8) dX (ab (aB _ _ rfl)) (eM (n:=9) (de.trans rfl) (iP lv) rfl) rfl rfl) ?_
     refine ah.nil ?_
     exact ae.fin (dY []) rfl rfl
    ·intro hd E' L' aB al de
     refine ah.store (i:=2) (aN.id Ref) (v:=(bD eH.cU a8:Ref)) (b':=(bD eH.cU a8:Ref)) dX (ab (aB _ _ rfl)) (ab (aB _ _ rfl)) (al 2 _ rfl rfl) rfl rfl ?_
     refine ah.nil ?_
     exact ae.fin (dY []) rfl rfl
    ·intro hd E' L' aB al de
     refine ah.store (i:=3) (aN.id Int) (v:=(bq (s1.2.1 + 1):Int)) (b':=(bq (s1.2.1 + 1):Int)) bF (ab (aB _ _ rfl)) (ab (aB _ _ rfl)) (al 3 _ rfl rfl) rfl rfl ?_
     refine ah.nil ?_
     exact ae.fin (dY []) rfl rfl
    refine ae.dR (L2:=(⟨some l,.is (.loop { rec with state:= .busy })⟩ :: ⟨some D,.dj⟩ :: ⟨some iY,.var (bD eH.cU a8:Ref)⟩ :: ⟨some kJ,.var (bq (s1.2.1 + 1):Int)⟩ :: ⟨some bc,.var (s1.2.2.1:Int)⟩ :: ⟨some cC,.var (s1.2.2.2.1:Int)⟩ :: ⟨some fm,.var (s1.2.2.2.2:Bool)⟩ :: ⟨some sK,.var ((⟨249,some [.pointer (some ⟨iY,0,none⟩),.pointer (some ⟨kJ,0,none⟩),.pointer (some ⟨bc,0,none⟩),.pointer (some ⟨cC,0,none⟩),.pointer (some ⟨fm,0,none⟩)]⟩:Raw):Raw)⟩ :: ⟨some aZ,.var (aj:ar)⟩ :: aV hp)) rfl ?_
    refine jC [0,1,3,4,5,6,7,8,9,10,11,12,13,14,15,16,17,18,19,20,21,22,23,24,25,26,27,28,29,30,31,32,33,34,35,36,37,38,39,40,41,42,43,44,45,46,47,48,49] ?_
    refine ae.next ?_
    refine ag.cz ?_
    refine cG 7 Jq ?_
    refine ah.bz 6 rfl ?_
    refine ah.bz 6 rfl ?_
    refine ah.bz 6 rfl ?_
    refine ah.bz 6 rfl ?_
    refine ah.bz 6 rfl ?_
    obtain⟨bn,fT,h⟩:=aw h
    refine ah.rm (eV.I1 (τs:= []) 9 5 rfl OC (Hc (ab rfl)) (KO fT) rfl rfl trivial) rfl rfl rfl fun dZ=> ?_
    refine ah.dR (L2:=(⟨some iY,.var (bD eH.cU a8:Ref)⟩ :: ⟨some kJ,.var (bq (s1.2.1 + 1):Int)⟩ :: ⟨some bc,.var (bn.1:Int)⟩ :: ⟨some cC,.var (bn.2.1:Int)⟩ :: ⟨some fm,.var (bn.2.2:Bool)⟩ :: ⟨some l,.is (.loop { rec with state:= .busy })⟩ :: ⟨some D,.dj⟩ :: ⟨some sK,.var ((⟨249,some [.pointer (some ⟨iY,0,none⟩),.pointer (some ⟨kJ,0,none⟩),.pointer (some ⟨bc,0,none⟩),.pointer (some ⟨cC,0,none⟩),.pointer (some ⟨fm,0,none⟩)]⟩:Raw):Raw)⟩ :: ⟨some aZ,.var (aj:ar)⟩ :: aV hp)) rfl ?_
    refine ah.nil ?_
    refine ae.ea ?_
    refine ae.bz 6 rfl ?_
    refine ae.bz 6 rfl ?_
    obtain rfl:=aI h
    exact ae.Jp () 0 rfl
  ·clear ao; subst aR; simp only [Sum.elim_inl] at h
   refine ae.dR (L2:=(⟨some D,.dj⟩ :: ⟨some iY,.var (s1.1:Ref)⟩ :: ⟨some kJ,.var (s1.2.1:Int)⟩ :: ⟨some bc,.var (s1.2.2.1:Int)⟩ :: ⟨some cC,.var (s1.2.2.2.1:Int)⟩ :: ⟨some fm,.var (s1.2.2.2.2:Bool)⟩ :: ⟨some sK,.var ((⟨249,some [.pointer (some ⟨iY,0,none⟩),.pointer (some ⟨kJ,0,none⟩),.pointer (some ⟨bc,0,none⟩),.pointer (some ⟨cC,0,none⟩),.pointer (some ⟨fm,0,none⟩)]⟩:Raw):Raw)⟩ :: ⟨some aZ,.var (aj:ar)⟩ :: aV hp)) rfl ?_
   refine ae.ea ?_
   refine ae.next ?_
   refine ag.seq ?_
   refine iz [0,1,3,6,7,8,9,10,11,12,14,15,16,17,18,19,20,21,22,23,24,25,26,27,28,29,30,31,32,33,34,35,36,37,38] ?_
   refine ag.draw mixed 5 [some 52,some 53,some 54,some 4,some 5] [[],[],[],[0],[1]] [.val _,.val _,.val _,.val _,.val _] [false,false,false,false,false] (by kernel_rfl) rfl rfl rfl (fun Fm=>⟨fy 3 bF,fy 4 bF,fy 5 gi,wU,wU,trivial⟩) fun Fm=> ?_
   refine aL ?_
   refine aK ?_
   refine ag.ret ?_
   obtain rfl:=aI h
   refine ae.tL 0 rfl rfl ?_
   exact ae.Iz () (.cons _ (.cons _ (.cons _ (.cons _ (.cons _ (.cons _ (.cons _ (.cons _ (.refl _))))))))) rfl rfl (dv rfl) (dv rfl) (dv rfl)
  ·clear ao; subst aR; simp only [Sum.elim_inr] at h
   refine ag.exit ?_
   refine ae.dR (L2:=(⟨some D,.dj⟩ :: ⟨some iY,.var (c7.1:Ref)⟩ :: ⟨some kJ,.var (c7.2.1:Int)⟩ :: ⟨some bc,.var (c7.2.2.1:Int)⟩ :: ⟨some cC,.var (c7.2.2.2.1:Int)⟩ :: ⟨some fm,.var (c7.2.2.2.2:Bool)⟩ :: ⟨some sK,.var ((⟨249,some [.pointer (some ⟨iY,0,none⟩),.pointer (some ⟨kJ,0,none⟩),.pointer (some ⟨bc,0,none⟩),.pointer (some ⟨cC,0,none⟩),.pointer (some ⟨fm,0,none⟩)]⟩:Raw):Raw)⟩ :: ⟨some aZ,.var (aj:ar)⟩ :: aV hp)) rfl ?_
   refine ae.fM ?_
   refine ae.next ?_
   refine ag.seq ?_
   refine iz [0,1,3,6,7,8,9,10,11,12,14,15,16,17,18,19,20,21,22,23,24,25,26,27,28,29,30,31,32,33,34,35,36,37,38] ?_
   refine ag.draw mixed 5 [some 52,some 53,some 54,some 4,some 5] [[],[],[],[0],[1]] [.val _,.val _,.val _,.val _,.val _] [false,false,false,false,false] (by kernel_rfl) rfl rfl rfl (fun aax=>⟨fy 3 bF,fy 4 bF,fy 5 gi,wU,wU,trivial⟩) fun aax=> ?_
   refine aL ?_
   refine aK ?_
   refine ag.ret ?_
   obtain rfl:=aI h
   refine ae.tL 0 rfl rfl ?_
   exact ae.Iz () (.cons _ (.cons _ (.cons _ (.cons _ (.cons _ (.cons _ (.cons _ (.cons _ (.refl _))))))))) rfl rfl (dv rfl) (dv rfl) (dv rfl)
theorem Su {aa:bu} {aj:bu} {r:Int} (h:z0 aa aj=some r):bK Tryz.prog 100 [I.of (aa),I.of (aj)] (I.of (r)):=by
 unfold z0 at h
 refine bK.of Tryz.func100 rfl Tryz.ntmps100 rfl fun W A=> ?_
 refine aF ?_
 refine cj fun aZ=> ?_
 refine cj fun bc=> ?_
 refine aL ?_
 refine bO ?_
 refine ag.seq ?_
 obtain⟨aG,bo,h⟩:=aw h
 obtain⟨aJ,cr,h⟩:=aw h
 obtain⟨bh,e7,h⟩:=aw h
 obtain⟨bn,fT,h⟩:=aw h
 refine ag.draw mixed 23 ((some 7) :: (some 8) :: (some 9) :: (some 10) :: (some 11) :: (some 12) :: (some 13) :: (some 14) :: (some 15) :: (some 16) :: (some 17) :: (some 18) :: (some 19) :: (some 20) :: (some 21) :: (some 22) :: (some 23) :: (some 24) :: (some 25) :: (some 26) :: (some 27) :: (some 28) :: (some 29) :: []) ([] :: [0] :: [] :: [2] :: [1,3] :: [] :: [5] :: [] :: [7] :: [6,8] :: [] :: [10] :: [] :: [12] :: [11,13] :: [] :: [15] :: [] :: [17] :: [16,18] :: [4,9,14,19] :: [20] :: [] :: []) (.val _ :: .val _ :: .val _ :: .val _ :: .val _ :: .val _ :: .val _ :: .val _ :: .val _ :: .val _ :: .val _ :: .val _ :: .val _ :: .val _ :: .val _ :: .val _ :: .val _ :: .val _ :: .val _ :: .val _ :: .val _ :: .val _ :: .val _ :: []) (false :: false :: false :: false :: false :: false :: false :: false :: false :: false :: false :: false :: false :: false :: false :: false :: false :: false :: false :: false :: false :: false :: false :: []) (by kernel_rfl) rfl rfl rfl (fun da=>⟨H1 (aT vk),dz 1 sX bF,H1 (aT vk),dz 0 sX bF,fl yc (xD bo),H1 (aT rR),dz 0 ru bF,H1 (aT rR),dz 1 ru bF,fl yc (xD cr),H1 (aT lk),dz 1 lh kY,H1 (aT lk),dz 0 lh kY,fl XJ (Ss e7),H1 (aT xY),dz 1 xb bF,H1 (aT xY),dz 0 xb bF,fl yc (xD fT),dO fun L' al=>iI (r:= [aG,aJ,bh,bn]) Tryz.underlying63 bF jD rfl rfl (.cons (by simp) (ab rfl) (.cons (by simp) (ab rfl) (.cons (by simp) (ab rfl) (.cons (by simp) (ab rfl) (.nil))))),H1 (eK Tryz.underlying63),cZ,trivial⟩) fun da=> ?_
 refine aK ?_
 refine ag.block ?_
 obtain⟨av,ao,h⟩:=aw h
 refine hT (γ:=Unit) (δ:=Unit) ao [0,1,2,3,27,28] (fun s1 aq=> [(4,I.of (0:Int)),(29,I.of (s1))]) (fun s1 aq=> []) (fun az=>Sum.elim (fun az=>Exit.exit 0) (fun az=>Exit.ret) az) (fun az aq=>Sum.elim (fun az=> [(4,I.of (0:Int)),(29,I.of (az.1)),(30,I.of (az.2))]) (fun az=> [(4,I.of (az.1)),(6,I.of (az.2.1)),(29,I.of (az.2.2.1)),(30,I.of (az.2.2.2.1)),(34,I.of (az.2.2.2.2))]) az) (fun az aq=>Sum.elim (fun az=> []) (fun az=> []) az) () (fun s1 r h aq=> ?_) fun aq=> ?_
 ·clear ao
  refine aF ?_
  refine bm eT ?_
  refine bO ?_
  refine cm h (fun h=>?_) fun h=>?_
  ·refine cW ?_
   refine ag.seq ?_
   refine ag.block ?_
   refine aF ?_
   obtain⟨a8,cE,h⟩:=aw h
   refine hU cE Tryz.underlying63 bF ?_
   refine aY (dV bF) ?_
   refine aL ?_
   refine b0 ?_
   refine aD ?_
   refine bm qV ?_
   refine aK ?_
   refine cm h (fun h=>?_) fun h=>?_
   ·refine aF ?_
    refine aD ?_
    refine aL ?_
    refine aK ?_
    refine ag.ret ?_
    refine ae.dn ?_
    refine ae.ret ?_
    obtain rfl:=aI h
    exact eD () 0
   ·refine ag.skip ?_
    refine ae.ea ?_
    refine ae.next ?_
    refine ag.cz ?_
    refine bm dI ?_
    refine aD ?_
    refine ah.nil ?_
    obtain rfl:=aI h
    exact gP () 0
  ·refine ag.exit ?_
   refine ae.exit ?_
   obtain rfl:=aI h
   exact eD () 0
 ·clear ao
  rcases av with av | av
  ·simp only [Sum.elim_inl] at h
   refine ae.fM ?_
   refine ae.next ?_
   refine aF ?_
   refine aY (aT tq) ?_
   refine cq 1 s0 sb ?_
   refine aY (aT tq) ?_
   refine cq 0 s0 sb ?_
   obtain⟨cw,hV,h⟩:=aw h
   refine e6 XK (SE hV) ?_
   refine aL ?_
   refine aK ?_
   refine ag.ret ?_
   obtain rfl:=aI h
   exact cR
  ·simp only [Sum.elim_inr] at h
   refine ae.dn ?_
   refine ae.ret ?_
   obtain rfl:=aI h
   exact cR
theorem RM {aa:aA} {aj:aA} {r:Int} (h:Da aa aj=some r):bK Tryz.prog 97 [I.of (aa),I.of (aj)] (I.of (r)):=by
 unfold Da at h
 refine bK.of Tryz.func97 rfl Tryz.ntmps97 rfl fun W A=> ?_
 refine aF ?_
 refine cj fun aZ=> ?_
 refine cj fun bc=> ?_
 refine aL ?_
 refine b0 ?_
 refine aY (aT ll) ?_
 refine cq 1 kq hf ?_
 refine aY (aT ll) ?_
 refine cq 0 kq hf ?_
 obtain⟨aG,bo,h⟩:=aw h
 refine e6 Zo (St bo) ?_
 refine aL ?_
 refine aK ?_
 refine ag.ret ?_
 obtain rfl:=aI h
 exact cR
theorem Rt {hp:aS Cell} {aa:gz} {aj:Vector ar 4} {r:Int × Bool} (h:zl hp aa aj=some r):bM Tryz.prog 236 [I.of (aa),I.of (aj)] ([] ++ aV hp) (δ:=Unit) (fun _=>I.ed [I.of (r.1),I.of (r.2)]) (fun _=> [] ++ aV hp):=by
 unfold zl at h
 refine bM.of Tryz.func236 rfl Tryz.ntmps236 rfl fun W A=> ?_
 refine aF ?_
 refine cj fun aZ=> ?_
 refine cj fun bc=> ?_
 refine aL ?_
 refine aL ?_
 refine b0 ?_
 refine cG 1 Bd ?_
 refine cG 0 jx ?_
 obtain⟨aG,bo,h⟩:=aw h
 refine e6 Oj (KR bo) ?_
 refine aD ?_
 refine gr ?_
 refine gr ?_
 refine c1 vy fun cC=> ?_
 refine c1 ek fun fm=> ?_
 refine cA 1 j7 ?_
 refine cA 0 bQ ?_
 refine bO ?_
 obtain⟨ca,dh,h⟩:=aw h
 obtain⟨bC,dP,h⟩:=aw h
 obtain⟨bE,dE,h⟩:=aw h
 obtain⟨aJ,cr,h⟩:=aw h
 obtain⟨bh,e7,h⟩:=aw h
 obtain⟨bn,fT,h⟩:=aw h
 refine iz [0,1,2,3,4,5,6,7,11,12,13,14,15,16] ?_
 refine ag.pP 4 mixed (a6 18 [] [] _ :: a6 19 (0 :: []) (3 :: []) _ :: a6 20 [] (1 :: []) _ :: ⟨some 21,(1 :: 2 :: []),[],[],fun _=>I.of (bE),fun _ _=>⟨none,.dead⟩⟩ :: a6 22 [] (0 :: []) _ :: a6 23 [] [] _ :: a6 24 (5 :: []) (3 :: []) _ :: a6 25 (6 :: []) [] _ :: a6 26 (4 :: 7 :: []) [] _ :: ⟨some 27,(3 :: 8 :: []),[],[],fun _=>I.ed [I.of (bn.1),I.of (bn.2.1),I.of (bn.2.2)],fun _ _=>⟨none,.dead⟩⟩ :: a6 17 (9 :: []) [] _ :: a6 28 (10 :: []) [] _ :: a6 29 (10 :: []) [] _ :: a6 30 (10 :: []) [] _ :: a6 8 (11 :: []) [] _ :: a6 9 (12 :: []) [] _ :: a6 10 (13 :: []) [] _ :: []) _ (0 :: 1 :: 2 :: 3 :: 4 :: 5 :: 6 :: 7 :: 11 :: 12 :: 13 :: 14 :: 15 :: 16 :: []) rfl rfl (by kernel_rfl) (by kernel_rfl) ⟨ct.q (fe (aT rP)),ct.q (n6 3 qz qX),ct.q (lW 1 j7),?_,ct.q (lW 0 bQ),ct.q (fe (aT Hy)),ct.q (n6 3 C2 bF),ct.q (b8 fun hd E' L' aB al=>iG Is (GN cr) ⟨ab (aB _ _ rfl),trivial⟩),ct.q (b8 fun hd E' L' aB al=>iG Be (Ah e7) ⟨ab (aB _ _ rfl),ab (aB _ _ rfl),trivial⟩),?_,ct.q (e2),ct.q (b8 fun hd E' L' aB al=>lq (ab (aB _ _ rfl)) rfl),ct.q (b8 fun hd E' L' aB al=>lq (ab (aB _ _ rfl)) rfl),ct.q (b8 fun hd E' L' aB al=>lq (ab (aB _ _ rfl)) rfl),ct.q (b8 fun hd E' L' aB al=>eB (ab (aB _ _ rfl))),ct.q (b8 fun hd E' L' aB al=>eB (ab (aB _ _ rfl))),ct.q (b8 fun hd E' L' aB al=>eB (ab (aB _ _ rfl))),trivial⟩ fun eP=> ?_
 ·intro hd E' L' aB al de
  refine bl (vb (r:=bE) Tryz.underlying167 tD yf (l7 (ab (aB _ _ rfl)) dh) (ab (aB _ _ rfl)) (eM (n:=4) (de.trans rfl) (mc dP) rfl) (aI dE)) ?_
  refine ah.nil ?_
  exact ae.fin (dY []) rfl rfl
 ·intro hd E' L' aB al de
  refine ah.iM (fG.jd 4 (de.trans rfl) XL (R6 fT) ⟨ab (aB _ _ rfl),ab (aB _ _ rfl),trivial⟩) rfl rfl rfl ?_
  refine ah.nil ?_
  exact ae.fin (dY []) rfl rfl
 refine ae.dR (L2:=(⟨some fm,.var (aG.2:ar)⟩ :: ⟨some cC,.var (aG.1:Vector ar 4)⟩ :: ⟨some bc,.var (aj:Vector ar 4)⟩ :: ⟨some aZ,.var (aa:gz)⟩ :: aV hp)) rfl ?_
 refine jC [0,1,2,3,4,5,6,7,8,9,10,11,12,13,14,15,16,17,18,19,20,21,22,23,24,25,26,27,28,29,30] ?_
 refine ae.next ?_
 refine aF ?_
 refine aD ?_
 refine aD ?_
 refine aL ?_
 refine aL ?_
 refine aK ?_
 refine ag.ret ?_
 obtain rfl:=aI h
 exact ae.ky () (.cons _ (.cons _ (.cons _ (.cons _ (.refl _))))) rfl rfl (dv rfl) (dv rfl)
theorem RC {aa:cu} {aj:aA} {aP:aA} {r:Int} (h:xa aa aj aP=some r):bK Tryz.prog 273 [I.ptr aa,I.of (aj),I.of (aP)] (I.of (r)):=by
 unfold xa at h
 refine bK.of Tryz.func273 rfl Tryz.ntmps273 rfl fun W A=> ?_
 refine aF ?_
 refine cj fun aZ=> ?_
 refine cj fun bc=> ?_
 refine aL ?_
 refine bO ?_
 refine ag.block ?_
 refine ag.seq ?_
 obtain⟨aG,bo,h⟩:=aw h
 refine ag.draw mixed 7 [some 8,some 9,some 10,some 11,some 12,some 13,some 14] [[],[0],[1],[2],[],[],[3,4,5]] [.val _,.val _,.val _,.val _,.val _,.val _,.val _] [false,false,false,false,false,false,false] (by kernel_rfl) rfl rfl rfl (fun da=>⟨cZ,H1 AR,tY C1 Hz,H1 (dV ho),fy 1 cg,fy 0 cg,fl OD (Lt bo),trivial⟩) fun da=> ?_
 refine aL ?_
 refine aK ?_
 refine cm h (fun h=>?_) fun h=>?_
 ·refine aF ?_
  refine aL ?_
  refine aK ?_
  refine ag.ret ?_
  refine ae.dn ?_
  refine ae.ret ?_
  obtain rfl:=aI h
  exact cR
 ·refine ag.seq ?_
  obtain⟨aJ,cr,h⟩:=aw h
  refine ag.draw mixed 7 [some 16,some 17,some 18,some 19,some 20,some 21,some 22] [[],[0],[1],[2],[],[],[3,4,5]] [.val _,.val _,.val _,.val _,.val _,.val _,.val _] [false,false,false,false,false,false,false] (by kernel_rfl) rfl rfl rfl (fun kg=>⟨cZ,H1 AR,tY C1 Hz,H1 (dV ho),fy 0 cg,fy 1 cg,fl OD (Lt cr),trivial⟩) fun kg=> ?_
  refine aL ?_
  refine aK ?_
  refine cm h (fun h=>?_) fun h=>?_
  ·refine aF ?_
   refine aL ?_
   refine aK ?_
   refine ag.ret ?_
   refine ae.dn ?_
   refine ae.ret ?_
   obtain rfl:=aI h
   exact cR
  ·refine ag.skip ?_
   refine ae.ea ?_
   refine ae.next ?_
   refine aF ?_
   refine aL ?_
   refine aK ?_
   refine ag.ret ?_
   obtain rfl:=aI h
   exact cR
theorem SY {aa:bu} {aj:bu} {r:Bool} (h:Dz aa aj=some r):bK Tryz.prog 74 [I.of (aa),I.of (aj)] (I.of (r)):=by
 unfold Dz at h
 refine bK.of Tryz.func74 rfl Tryz.ntmps74 rfl fun W A=> ?_
 refine aF ?_
 refine cj fun aZ=> ?_
 refine cj fun bc=> ?_
 refine aL ?_
 refine b0 ?_
 refine cG 1 hf ?_
 refine cG 0 hf ?_
 obtain⟨aG,bo,h⟩:=aw h
 refine e6 XM (Su bo) ?_
 refine bm gN ?_
 refine aL ?_
 refine aK ?_
 refine ag.ret ?_
 obtain rfl:=aI h
 exact cR
theorem K6 {hp:aS Cell} {aa:Ref} {Q:(List aA) × (aS Cell)→Prop} (h:xo hp aa Q):bM Tryz.prog 53 [I.of (aa)] ([] ++ aV hp) (δ:= {r:(List aA) × (aS Cell) // Q r} × Unit) (fun d=>I.of (d.1.1.1)) (fun d=> [] ++ aV d.1.1.2):=by
 unfold xo at h
 refine bM.of Tryz.func53 rfl Tryz.ntmps53 rfl fun W A=> ?_
 refine aF ?_
 refine bl (eB (look_nil (α:=aA))) ?_
 refine bO ?_
 refine aF ?_
 refine aD ?_
 refine bl (mE Tryz.underlying37 (ab rfl)) ?_
 refine aK ?_
 refine ag.cond (ab rfl) (fun ak=> ?_) (fun ak=> ?_)
 ·replace h:=mF ak h
  refine aF ?_
  refine bl (eB (look_nil (α:=aA))) ?_
  refine aK ?_
  refine ag.ret ?_
  refine ae.ret ?_
  exact ae.fi (⟨⟨(([]:List aA),hp),h⟩,()⟩: {r // _} × _) (.refl _) rfl rfl (dv rfl)
 ·replace h:=mG ak h
  refine cW ?_
  refine aF ?_
  refine ah.own (α:=aA) 52 ?_
  refine bl (eB rG) ?_
  refine bO ?_
  refine aF ?_
  refine aD ?_
  obtain⟨ca,dh,h⟩:=ax.cv h
  refine bl (dD (eg (ab rfl) dh)) ?_
  refine aY (aT AK) ?_
  obtain⟨bC,dP,h⟩:=ax.cv h
  refine bl (fA ((aN.id gA).comp w6) (r:=bC.ks) ye (ab rfl) (eM (n:=1) rfl (lN dP) rfl) rfl rfl) ?_
  obtain⟨b2,eZ,h⟩:=ax.cv h
  obtain⟨cf,fk,h⟩:=ax.cv h
  refine ah.Wa (α:=Int) (β:=aA) (kv:=cf) 1 rfl Tryz.underlying133 (l7 (ab rfl) eZ) (qQ fk) rfl rfl fun aZ bp oc cS=> ?_
  refine aK ?_
  refine ag.block ?_
  refine ag.x0 (σ:=(List Nat) × (List aA)) (ε:=(Bool × (List Nat) × (List aA))) (γ:=(Option Nat × Nat)) (δ:=(Option Nat × Nat)) h (fun s1 aq=> [(0,I.of (aa)),(2,I.of ([]:List aA)),(3,I.eq (a2 aq.1 s1.2.length aq.2)),(7,I.of (aa.isNone)),(12,I.eq (.pointer (some ⟨aZ,0,none⟩)))]) (fun s1 aq=>(⟨some aZ,.is (lX b2 bp oc s1.1)⟩ :: ⟨aq.1,.row 52 (s1.2:List aA) aq.2⟩ :: lA b2 (.map bp oc) (aV hp))) (fun az=>Exit.exit 0) (fun az aq=> [(0,I.of (aa)),(2,I.of ([]:List aA)),(3,I.eq (a2 aq.1 az.2.2.length aq.2)),(7,I.of (aa.isNone)),(12,I.eq (.pointer (some ⟨aZ,0,none⟩))),(14,I.of (az.1))]) (fun az aq=>(⟨some aZ,.is (lX b2 bp oc az.2.1)⟩ :: ⟨aq.1,.row 52 (az.2.2:List aA) aq.2⟩ :: lA b2 (.map bp oc) (aV hp))) (none,0) rfl (.same rfl (.same rfl (.same rfl (.same rfl (.same rfl .nil))))) (fun s1 R h aq=> ?_) (fun av h aq=> ?_)
  ·refine aF ?_
   refine ah.XN (kv:=cf) 0 (ab rfl) rfl (NB 2 rfl (qQ fk) rfl) cS rfl fun qp yD=> ?_
   replace h:=ax.TR h qp yD
   refine bl (Wb (ab rfl)) ?_
   refine bO ?_
   refine ag.cond (ab rfl) (fun ak=> ?_) (fun ak=> ?_)
   ·replace h:=mF ak h
    refine cW ?_
    refine ag.block ?_
    refine aF ?_
    obtain⟨a8,cE,h⟩:=ax.cv h
    refine bl (UG (kv:=cf) (vis:=s1.1) 0 (ab rfl) rfl (NB 2 rfl (qQ fk) rfl) cS yD cE) ?_
    refine gr ?_
    refine c1 gh fun bc=> ?_
    refine cA 0 cg ?_
    refine aK ?_
    refine ag.cz ?_
    refine aD ?_
    refine cG 0 cg ?_
    obtain⟨aG,bo,h⟩:=ax.cv h
    refine e6 yp (xu bo) ?_
    refine hX [aG] Tryz.underlying38 cg gh ?_
    obtain⟨aJ,cr,h⟩:=ax.cv h
    refine nq 2 Tryz.underlying38 cg gh cr fun g3 fC=> ?_
    refine aL ?_
    refine ah.nil ?_
    refine ae.ea ?_
    exact ae.x1 h (g3,fC) 1 rfl (.same rfl (.same rfl (.same rfl (.same rfl (.same rfl .nil)))))
   ·replace h:=mG ak h
    refine ag.exit ?_
    refine ae.exit ?_
    exact ae.rT h (aq.1,aq.2) 0 rfl (by simp) rfl (.same rfl (.same rfl (.same rfl (.same rfl (.same rfl (.same rfl .nil))))))
  ·refine ae.fM ?_
   refine ae.next ?_
   refine aF ?_
   refine aD ?_
   refine ah.bz 1 rfl ?_
   obtain⟨bh,e7,h⟩:=ax.cv h
   refine ah.lP (Lin:= [⟨aq.1,.row 52 (av.2.2:List aA) aq.2⟩]) (Lr:=(⟨some aZ,.is (lX b2 bp oc av.2.1)⟩ :: lA b2 (.map bp oc) (aV hp))) Zp (Q6 (Hu e7)) ⟨ab rfl,Hd Zq (fun _ _ _=>RM),trivial⟩ rfl fun c7=> ?_
   refine ah.ik (m:=bh.length) 3 rfl ((u0 e7).symm) ?_
   refine ah.ik (m:=bh.length) 22 rfl ((u0 e7).symm) ?_
   refine b0 ?_
   refine aD ?_
   refine aL ?_
   refine aK ?_
   refine ag.ret ?_
   refine ae.vH 2 rfl ?_
   refine ae.m7 (α:=aA) 0 [2,3,22,24] ⟨rfl,rfl,rfl,rfl,trivial⟩ rfl ?_
   exact ae.fi (⟨⟨(bh,hp),h⟩,()⟩: {r // _} × _) (.cons _ (.cons _ (.refl _))) rfl rfl (dv rfl)
theorem SF {aa:bV} {aj:Int} {aP:Int} {bR:ar} {r:Bool} (h:z7 aa aj aP bR=some r):bK Tryz.prog 282 [I.of (aa),I.of (aj),I.of (aP),I.of (bR)] (I.of (r)):=by
 unfold z7 at h
 refine bK.of Tryz.func282 rfl Tryz.ntmps282 rfl fun W A=> ?_
 refine aF ?_
 refine cj fun aZ=> ?_
 refine cj fun bc=> ?_
 refine aL ?_
 refine bO ?_
 refine aF ?_
 refine aY (aT tm) ?_
 refine cq 1 nD gi ?_
 refine aY hP ?_
 refine aK ?_
 refine cm h (fun h=>?_) fun h=>?_
 ·refine aF ?_
  refine aD ?_
  refine bm kT ?_
  refine aD ?_
  refine ey cM ?_
  refine kE qS ?_
  refine jB ?_
  refine aL ?_
  refine aK ?_
  refine ag.ret ?_
  refine ae.ret ?_
  obtain rfl:=aI h
  exact cR
 ·refine cW ?_
  refine ag.seq ?_
  refine aF ?_
  refine aD ?_
  refine aK ?_
  refine ag.block ?_
  refine aF ?_
  refine bm gN ?_
  refine aL ?_
  refine aK ?_
  refine cm h (fun h=>?_) fun h=>?_
  ·refine aF ?_
   refine cG 0 bQ ?_
   refine aY (aT na) ?_
   refine cq 1 kr bQ ?_
   refine bm (yb oE rfl tx rfl) ?_
   refine aL ?_
   refine aK ?_
   refine ag.ret ?_
   refine ae.dn ?_
   refine ae.ret ?_
   obtain rfl:=aI h
   exact cR
  ·refine aF ?_
   refine bm gN ?_
   refine aL ?_
   refine aK ?_
   refine cm h (fun h=>?_) fun h=>?_
   ·refine aF ?_
    refine aD ?_
    refine aY (aT o8) ?_
    refine cq 1 m3 bF ?_
    obtain⟨aG,bo,h⟩:=aw h
    refine e6 Ox (Ld bo) ?_
    refine c1 ek fun cC=> ?_
    refine cA 0 bQ ?_
    refine bO ?_
    obtain⟨aJ,cr,h⟩:=aw h
    obtain⟨bh,e7,h⟩:=aw h
    refine ag.draw mixed 8 [some 32,some 33,some 34,some 35,some 36,some 37,some 38,some 39] [[],[],[0,1],[],[3],[],[4,5],[2,6]] [.val _,.val _,.val _,.val _,.val _,.val _,.val _,.val _] [false,false,false,false,false,false,false,false] (by kernel_rfl) rfl rfl rfl (fun da=>⟨fy 1 bQ,fy 0 bQ,fl Be (Ah cr),H1 (aT na),dz 2 kr bQ,fy 0 bQ,fl Be (Ah e7),iC (yb oE rfl tx rfl),trivial⟩) fun da=> ?_
    refine aL ?_
    refine aK ?_
    refine ag.ret ?_
    refine ae.dn ?_
    refine ae.ret ?_
    obtain rfl:=aI h
    exact cR
   ·refine aF ?_
    refine bm gN ?_
    refine aL ?_
    refine aK ?_
    refine cm h (fun h=>?_) fun h=>?_
    ·refine ag.seq ?_
     obtain⟨bn,fT,h⟩:=aw h
     refine ag.draw mixed 7 [some 42,some 43,some 44,some 45,some 46,some 47,some 48] [[],[],[1],[0,2],[],[4],[3,5]] [.val _,.val _,.val _,.val _,.val _,.val _,.val _] [false,false,false,false,false,false,false] (by kernel_rfl) rfl rfl rfl (fun kg=>⟨fy 0 bQ,H1 (aT qM),dz 1 oo bQ,fl Be (Ah fT),H1 (aT na),dz 1 kr bQ,iC (yb oE rfl tx rfl),trivial⟩) fun kg=> ?_
     refine aL ?_
     refine aK ?_
     refine ag.ret ?_
     refine ae.dn ?_
     refine ae.ret ?_
     obtain rfl:=aI h
     exact cR
    ·refine aF ?_
     refine bm gN ?_
     refine aL ?_
     refine aK ?_
     refine cm h (fun h=>?_) fun h=>?_
     ·refine aF ?_
      refine aY (aT na) ?_
      refine cq 1 kr bQ ?_
      refine cG 0 bQ ?_
      obtain⟨cw,hV,h⟩:=aw h
      refine e6 yd (xw hV) ?_
      refine bm qS ?_
      refine aD ?_
      refine ep (fun hb=>eA (i:=0) (aN.id ar) (r:=bR) bQ (ab rfl) rfl rfl rfl) ?_
      refine ey (aT AV) ?_
      refine ep (fun hb=>eA (i:=1) ((aN.id bV).comp sZ) (r:=aa.jP) bQ (cb rfl hb) rfl rfl rfl) ?_
      obtain⟨dg,hW,h⟩:=aw h
      refine ep (fun hb=>iG yd (xw (fE hW hb)) ⟨cb rfl hb,cb rfl hb,trivial⟩) ?_
      refine kE qS ?_
      refine jB ?_
      refine aL ?_
      refine aK ?_
      refine ag.ret ?_
      refine ae.dn ?_
      refine ae.ret ?_
      obtain rfl:=aI h
      exact cR
     ·refine ag.skip ?_
      refine ae.ea ?_
      refine ae.next ?_
      refine aF ?_
      refine aL ?_
      refine aK ?_
      refine ag.ret ?_
      obtain rfl:=aI h
      exact cR
theorem Sv {aa:a3} {aj:bu} {aP:Vector ar 4} {r:Bool} (h:xy aa aj aP=some r):bK Tryz.prog 278 [I.of (aa),I.of (aj),I.of (aP)] (I.of (r)):=by
 unfold xy at h
 refine bK.of Tryz.func278 rfl Tryz.ntmps278 rfl fun W A=> ?_
 refine aF ?_
 refine cj fun aZ=> ?_
 refine cj fun bc=> ?_
 refine cj fun cC=> ?_
 refine aL ?_
 refine b0 ?_
 refine cG 2 ho ?_
 refine cG 1 hf ?_
 obtain⟨aG,bo,h⟩:=aw h
 refine e6 Oy (Lq bo) ?_
 refine aD ?_
 refine gr ?_
 refine gr ?_
 refine c1 mO fun fm=> ?_
 refine cA 0 hn ?_
 refine aL ?_
 refine bO ?_
 refine aF ?_
 refine aD ?_
 refine aY hP ?_
 refine aK ?_
 refine cm h (fun h=>?_) fun h=>?_
 ·refine aF ?_
  refine aL ?_
  refine aK ?_
  refine ag.ret ?_
  refine ae.ret ?_
  obtain rfl:=aI h
  exact cR
 ·refine cW ?_
  refine ag.seq ?_
  refine aF ?_
  refine aY (aT mH) ?_
  refine cq 0 kQ mg ?_
  refine aY (eK Tryz.underlying62) ?_
  refine aD ?_
  refine aK ?_
  refine ag.block ?_
  obtain⟨av,ao,h⟩:=aw h
  refine hT (γ:=Unit) (δ:=Unit) ao [0,1,2,3,4,5,6,7,8,18,20,21] (fun s1 aq=> [(22,I.of (s1))]) (fun s1 aq=> []) (fun az=>Sum.elim (fun az=>Exit.exit 0) (fun az=>Exit.ret) az) (fun az aq=>Sum.elim (fun az=> [(22,I.of (az.1)),(23,I.of (az.2))]) (fun az=> [(9,I.of (az.1)),(22,I.of (az.2.1)),(23,I.of (az.2.2.1)),(52,I.of (az.2.2.2))]) az) (fun az aq=>Sum.elim (fun az=> []) (fun az=> []) az) () (fun s1 r h aq=> ?_) fun aq=> ?_
  ·clear ao
   refine aF ?_
   refine bm eT ?_
   refine bO ?_
   refine cm h (fun h=>?_) fun h=>?_
   ·refine cW ?_
    refine ag.seq ?_
    refine ag.block ?_
    refine aF ?_
    refine aD ?_
    obtain⟨a8,cE,h⟩:=aw h
    refine hU cE Tryz.underlying62 jw ?_
    refine aY (dV jw) ?_
    refine c1 ka fun iY=> ?_
    refine aL ?_
    refine cA 0 jw ?_
    refine bO ?_
    obtain⟨bY,cX,h⟩:=aw h
    obtain⟨aJ,cr,h⟩:=aw h
    obtain⟨cY,g4,h⟩:=aw h
    obtain⟨bh,e7,h⟩:=aw h
    obtain⟨bE,dE,h⟩:=aw h
    refine ag.draw mixed 26 ((some 27) :: (some 28) :: (some 29) :: (some 30) :: (some 31) :: (some 32) :: (some 33) :: (some 34) :: (some 35) :: (some 36) :: (some 37) :: (some 38) :: (some 39) :: (some 40) :: (some 41) :: (some 42) :: (some 43) :: (some 44) :: (some 45) :: (some 46) :: (some 47) :: (some 48) :: (some 49) :: (some 50) :: (some 51) :: (some 52) :: []) ([] :: [] :: [1] :: [2] :: [0,3] :: [4] :: [5] :: [5,6] :: [5,7] :: [8] :: [9] :: [9,10] :: [9] :: [9,11,12] :: [9,13] :: [9] :: [9,15] :: [9] :: [9] :: [9,17,18] :: [9] :: [9,20] :: [9,21] :: [9,14,16,19,22] :: [9,23] :: [9,24] :: []) (.val _ :: .val _ :: .val _ :: .val _ :: .val _ :: .val _ :: .val _ :: .val _ :: .val _ :: .val _ :: .val _ :: .val _ :: .val _ :: .val _ :: .val _ :: .val _ :: .val _ :: .val _ :: .val _ :: .val _ :: .val _ :: .val _ :: .val _ :: .val _ :: .val _ :: .val _ :: []) (false :: false :: false :: false :: false :: false :: false :: false :: false :: false :: false :: false :: false :: false :: false :: false :: false :: false :: false :: false :: false :: false :: false :: false :: false :: false :: []) (by kernel_rfl) rfl rfl rfl (fun da=>⟨cZ,H1 (aT lk),dz 3 lh kY,H1 (eK Tryz.underlying47),iC kT,cZ,ei fun L' al=>fun hb=>cM (ab rfl),ei fun L' al=>fun hb=>kT (cb rfl hb) (bP 4),dO fun L' al=>vT (ab rfl) (ab rfl) (fun h=>h),cZ,ei fun L' al=>fun hb=>aT lk (ab rfl),ei fun L' al=>fun hb=>eA (i:=3) ((aN.id bu).comp lh) (r:=aj.bZ) kY (cb rfl hb) (al _ _ rfl rfl) rfl rfl,ei fun L' al=>fun hb=>cM (ab rfl),ei fun L' al=>fun hb=>qU (k:=bY) Tryz.underlying47 fr (cb rfl hb) (cb rfl hb) (cL (fE cX hb)),ei fun L' al=>fun hb=>dV fr (cb rfl hb),ei fun L' al=>fun hb=>aT xW (ab rfl),ei fun L' al=>fun hb=>eA (i:=0) ((aN.id cH).comp m4) (r:=(aE aG.1.cl a8).cN) bF (cb rfl hb) (al _ _ rfl rfl) rfl rfl,ei fun L' al=>fun hb=>eA (i:=4) (aN.id a3) (r:=aa) ho (ab rfl) (al _ _ rfl rfl) rfl rfl,ei fun L' al=>fun hb=>eA (i:=0) (aN.id cH) (r:=(aE aG.1.cl a8)) jw (ab rfl) (al _ _ rfl rfl) rfl rfl,ei fun L' al=>fun hb=>iG XO (SD (fE cr hb)) ⟨cb rfl hb,cb rfl hb,trivial⟩,ei fun L' al=>fun hb=>cM (ab rfl),ei fun L' al=>fun hb=>il (k:=cY) nc (ab rfl) (cb rfl hb) (cL (fE g4 hb)),ei fun L' al=>fun hb=>eA (i:=2) ((aN.id (Vector ar 4)).comp (aN.idx (α:=ar) 4 cY (cL (fE g4 hb)).1)) (r:=bD aP cY) bQ (cb rfl hb) (al _ _ rfl rfl) rfl rfl,ei fun L' al=>fun hb=>iG XP (SF (fE e7 hb)) ⟨cb rfl hb,cb rfl hb,cb rfl hb,cb rfl hb,trivial⟩,ei fun L' al=>fun hb=>hP (cb rfl hb),uo dE fun L' al=>vT (ab rfl) (ab rfl) (fun h=>h),trivial⟩) fun da=> ?_
    refine aK ?_
    refine cm h (fun h=>?_) fun h=>?_
    ·refine aF ?_
     refine aL ?_
     refine aK ?_
     refine ag.ret ?_
     refine ae.dn ?_
     refine ae.ret ?_
     obtain rfl:=aI h
     exact eD () 1
    ·refine ag.skip ?_
     refine ae.ea ?_
     refine ae.next ?_
     refine ag.cz ?_
     refine bm dI ?_
     refine aD ?_
     refine ah.nil ?_
     obtain rfl:=aI h
     exact gP () 1
   ·refine ag.exit ?_
    refine ae.exit ?_
    obtain rfl:=aI h
    exact eD () 0
  ·clear ao
   rcases av with av | av
   ·simp only [Sum.elim_inl] at h
    refine ae.fM ?_
    refine ae.next ?_
    refine aF ?_
    refine aL ?_
    refine aK ?_
    refine ag.ret ?_
    obtain rfl:=aI h
    exact cR
   ·simp only [Sum.elim_inr] at h
    refine ae.dn ?_
    refine ae.ret ?_
    obtain rfl:=aI h
    exact cR
theorem Lf {hp:aS Cell} {aa:Ref} {aj:ar} {aP:Int} {r:Int × Bool} (h:uJ hp aa aj aP=some r):bM Tryz.prog 240 [I.of (aa),I.of (aj),I.of (aP)] ([] ++ aV hp) (δ:=Unit) (fun _=>I.ed [I.of (r.1),I.of (r.2)]) (fun _=> [] ++ aV hp):=by
 unfold uJ at h
 refine bM.of Tryz.func240 rfl Tryz.ntmps240 rfl fun W A=> ?_
 refine aF ?_
 refine cj fun aZ=> ?_
 refine aL ?_
 refine aL ?_
 refine b0 ?_
 refine aD ?_
 refine cG 0 bQ ?_
 refine aD ?_
 obtain⟨aG,bo,h⟩:=aw h
 refine ah.iM (fG.jd 1 rfl OE (K8 bo) ⟨ab rfl,ab rfl,ab rfl,trivial⟩) rfl rfl rfl ?_
 refine aL ?_
 refine bO ?_
 refine aF ?_
 refine aD ?_
 refine bl (mE Tryz.underlying331 (ab rfl)) ?_
 refine aD ?_
 refine ey cM ?_
 obtain⟨ca,dh,h⟩:=aw h
 refine ep (fun hb=>dD (eg (cb rfl hb) (fE dh hb))) ?_
 refine ey (aT qJ) ?_
 obtain⟨bC,dP,h⟩:=aw h
 refine ep (fun hb=>fA ((aN.id dx).comp qB) (r:=bC.dC) gi (cb rfl hb) (eM (n:=1) rfl (iP (fE dP hb)) rfl) rfl rfl) ?_
 refine ey hP ?_
 refine sl ?_
 refine aK ?_
 refine cm h (fun h=>?_) fun h=>?_
 ·refine aF ?_
  refine aL ?_
  refine aL ?_
  refine aK ?_
  refine ag.ret ?_
  refine ae.ret ?_
  obtain rfl:=aI h
  exact ae.ky () (.cons _ (.refl _)) rfl rfl (dv rfl) (dv rfl)
 ·refine cW ?_
  refine aF ?_
  refine aD ?_
  obtain⟨b2,eZ,h⟩:=aw h
  refine bl (dD (eg (ab rfl) eZ)) ?_
  refine aY (aT AI) ?_
  obtain⟨cf,fk,h⟩:=aw h
  refine bl (fA ((aN.id dx).comp zT) (r:=cf.hc) bF (ab rfl) (eM (n:=1) rfl (iP fk) rfl) rfl rfl) ?_
  refine aL ?_
  refine aL ?_
  refine aK ?_
  refine ag.ret ?_
  obtain rfl:=aI h
  exact ae.ky () (.cons _ (.refl _)) rfl rfl (dv rfl) (dv rfl)
theorem Q8 {aj:cu} {aP:Vector ar 4} {h6:Nat} {l8:Option Nat} {l9:Nat} :AW Tryz.prog 277 [I.uq (I.eq (.pointer (some ⟨h6,0,none⟩))),I.ptr aP] [⟨some h6,.b4 (({ aj with b1:= [] } :cu):cu) [(10,a2 l8 aj.b1.length l9)]⟩,⟨l8,.row 52 (aj.b1:List aA) l9⟩] (fun v:aA=>I.of v) (fun {σ ε} =>zc (σ:=σ) (ε:=ε) aj aP):=by
 refine AW.of Tryz.func277 rfl Tryz.ntmps277 rfl ?_
 intro σ ε γ Ls Lx step cc g0 r h W A u uu
 replace h:zc aj aP step cc=some r:=h
 unfold zc at h
 refine aF ?_
 refine bl (M4 Tryz.underlying170 rfl (ab rfl)) ?_
 refine aY dD ?_
 refine aY (aT rJ) ?_
 refine bl (ih (i:=0) (q:=0) (β:=cu) (γ:=aA) q1 (ab rfl) rfl rfl) ?_
 refine bl (pL (i:=1) Tryz.underlying38 (ab rfl) rfl rfl) ?_
 refine aD ?_
 refine aK ?_
 refine ag.block ?_
 obtain⟨av,ao,h⟩:=aw h
 refine ag.vF (σ:=Int × (σ)) (ε:=(Int × Bool × (σ)) ⊕ (Int × Bool × Bool × (ε))) (γ:=γ) (δ:=γ) ao (fun s1 aq=> [(0,I.eq u),(1,I.uq (I.eq (.pointer (some ⟨h6,0,none⟩)))),(2,I.ptr aP),(9,I.eq (a2 l8 aj.b1.length l9)),(10,I.of (aj.b1.length:Int)),(11,I.of (s1.1))]) (fun s1 aq=>(⟨some h6,.b4 (({ aj with b1:= [] } :cu):cu) [(10,a2 l8 aj.b1.length l9)]⟩ :: ⟨l8,.row 52 (aj.b1:List aA) l9⟩ :: Ls s1.2 aq)) (fun az=>Sum.elim (fun az=>Exit.exit 0) (fun az=>Exit.ret) az) (fun az aq=>Sum.elim (fun az=> [(0,I.eq u),(1,I.uq (I.eq (.pointer (some ⟨h6,0,none⟩)))),(2,I.ptr aP),(9,I.eq (a2 l8 aj.b1.length l9)),(10,I.of (aj.b1.length:Int)),(11,I.of (az.1)),(12,I.of (az.2.1))]) (fun az=> [(0,I.eq u),(1,I.uq (I.eq (.pointer (some ⟨h6,0,none⟩)))),(2,I.ptr aP),(9,I.eq (a2 l8 aj.b1.length l9)),(10,I.of (aj.b1.length:Int)),(11,I.of (az.1)),(12,I.of (az.2.1)),(28,I.of (az.2.2.1))]) az) (fun az aq=>Sum.elim (fun az=>(⟨some h6,.b4 (({ aj with b1:= [] } :cu):cu) [(10,a2 l8 aj.b1.length l9)]⟩ :: ⟨l8,.row 52 (aj.b1:List aA) l9⟩ :: Ls az.2.2 aq)) (fun az=>(⟨some h6,.b4 (({ aj with b1:= [] } :cu):cu) [(10,a2 l8 aj.b1.length l9)]⟩ :: ⟨l8,.row 52 (aj.b1:List aA) l9⟩ :: Lx az.2.2.2 aq)) az) g0 rfl (.same rfl (.same rfl (.same rfl (.same rfl (.same rfl (.same rfl .nil)))))) (fun s1 r h aq=> ?_) (fun aq=> ?_)
 ·clear ao
  refine aF ?_
  refine bm eT ?_
  refine bO ?_
  refine cm h (fun h=>?_) fun h=>?_
  ·refine cW ?_
   refine ag.seq ?_
   refine ag.block ?_
   refine aF ?_
   obtain⟨a8,cE,h⟩:=aw h
   refine bl (lp (i:=1) (k:=a8) (xs:=(aj.b1:List aA)) Tryz.underlying38 cg (ab rfl) (ab rfl) rfl (cL cE)) ?_
   refine bl (o5 (i:=1) (k:=a8) (aN.id aA) (r:=(aE aj.b1 a8)) cg (ab rfl) rfl (cL cE).1 rfl rfl) ?_
   refine c1 gh fun aZ=> ?_
   refine cA 0 cg ?_
   refine bO ?_
   obtain⟨aG,bo,h⟩:=aw h
   refine ag.draw mixed 11 [some 15,some 16,some 17,some 18,some 19,some 20,some 21,some 22,some 23,some 24,some 25] [[],[0],[1],[2],[],[4],[],[3,5,6],[7],[8],[8]] [.val _,.val _,.val _,.val _,.val _,.val _,.val _,.val _,.val _,.val _,.val _] [false,false,false,false,false,false,false,false,false,false,false] (by kernel_rfl) rfl rfl rfl (fun da=>⟨dO fun L' al=>M4 Tryz.underlying170 rfl (ab rfl),H1 dD,H1 (aT Hz),dO fun L' al=>D6 (i:=1) ((aN.id cu).comp C1) (r:=aj.ou) ho (ab rfl) (al _ _ rfl rfl) rfl rfl (by rfl),H1 (aT ll),dz 0 kq hf,H1 (dV jx),fl XQ (Sv bo),cZ,ei fun L' al=>fun hb=>cM (ab rfl),ei fun L' al=>fun hb=>eA (i:=0) (aN.id aA) (r:=(aE aj.b1 a8)) cg (ab rfl) (al _ _ rfl rfl) rfl rfl,trivial⟩) fun da=> ?_
   refine ah.cases aG (fun hb=> ?_) (fun hb=> ?_)
   ·replace h:=gZ hb h
    obtain⟨aJ,cr,h⟩:=aw h
    refine ah.Wc (Lin:= [⟨some aZ,.var ((aE aj.b1 a8):aA)⟩,⟨some h6,.b4 (({ aj with b1:= [] } :cu):cu) [(10,a2 l8 aj.b1.length l9)]⟩,⟨l8,.row 52 (aj.b1:List aA) l9⟩]) (Ls:=Ls) (Lx:=Lx) (step:=step) (s:=s1.2) (gg:=aq) rfl uu hb rfl rfl rfl (cb rfl hb) cr rfl (fun s2 aR bd=> ?_) (fun c7 aR bd=> ?_)
    ·subst aR; simp only [Sum.elim_inl] at h
     refine ah.dR (L2:=(⟨some aZ,.var ((aE aj.b1 a8):aA)⟩ :: ⟨some h6,.b4 (({ aj with b1:= [] } :cu):cu) [(10,a2 l8 aj.b1.length l9)]⟩ :: ⟨l8,.row 52 (aj.b1:List aA) l9⟩ :: Ls s2 bd)) rfl ?_
     refine ey hP ?_
     refine jB ?_
     refine aK ?_
     refine ag.rY (ab rfl) (by first | rfl | (rw [hb]; rfl)) ?_
     refine ag.skip ?_
     refine ae.ea ?_
     refine ae.next ?_
     refine ag.cz ?_
     refine bm dI ?_
     refine aD ?_
     refine ah.nil ?_
     obtain rfl:=aI h
     exact gP bd 1
    ·subst aR; simp only [Sum.elim_inr] at h
     refine ah.dR (L2:=(⟨some aZ,.var ((aE aj.b1 a8):aA)⟩ :: ⟨some h6,.b4 (({ aj with b1:= [] } :cu):cu) [(10,a2 l8 aj.b1.length l9)]⟩ :: ⟨l8,.row 52 (aj.b1:List aA) l9⟩ :: Lx c7 bd)) rfl ?_
     refine ey hP ?_
     refine jB ?_
     refine aK ?_
     refine ag.It (ab rfl) (by first | rfl | (rw [hb]; rfl)) ?_
     refine ag.ret ?_
     refine ae.dn ?_
     refine ae.ret ?_
     obtain rfl:=aI h
     exact eD bd 1
   ·replace h:=g1 hb h
    refine ah.XR (.of false) hb rfl rfl rfl rfl rfl ?_
    refine ey hP ?_
    refine jB ?_
    refine aK ?_
    refine ag.rY (ab rfl) (by first | rfl | (rw [hb]; rfl)) ?_
    refine ag.skip ?_
    refine ae.ea ?_
    refine ae.next ?_
    refine ag.cz ?_
    refine bm dI ?_
    refine aD ?_
    refine ah.nil ?_
    obtain rfl:=aI h
    exact gP aq 1
  ·refine ag.exit ?_
   refine ae.exit ?_
   obtain rfl:=aI h
   exact eD aq 0
 ·clear ao
  rcases av with av | av
  ·simp only [Sum.elim_inl] at h
   refine ae.fM ?_
   refine ae.nd ?_
   refine ae.bz 1 rfl ?_
   refine ae.bz 1 rfl ?_
   obtain rfl:=aI h
   exact ae.kU aq (.cons_cons _ (.cons_cons _ (.refl _))) rfl rfl
  ·simp only [Sum.elim_inr] at h
   refine ae.dn ?_
   refine ae.bz 1 rfl ?_
   refine ae.bz 1 rfl ?_
   obtain rfl:=aI h
   exact ae.kU aq (.cons_cons _ (.cons_cons _ (.refl _))) rfl rfl
theorem SJ {hp:aS Cell} {Q:Bool × (aS Cell)→Prop} (h:Ab hp Q):bM Tryz.prog 23 [] ([] ++ aV hp) (δ:= {r:Bool × (aS Cell) // Q r} × Unit) (fun d=>I.of (d.1.1.1)) (fun d=> [] ++ aV d.1.1.2):=by
 unfold Ab at h
 refine bM.of Tryz.func23 rfl Tryz.ntmps23 rfl fun W A=> ?_
 refine aF ?_
 refine aL ?_
 refine b0 ?_
 obtain⟨aG,bo,h⟩:=ax.cv h
 refine eQ 0 EY (DB bo) fun az=> ?_
 refine ah.bz 0 rfl ?_
 obtain⟨aJ,cr,h⟩:=ax.cv h
 refine eQ 1 PB (KW cr) fun c7=> ?_
 refine c1 Bx fun aZ=> ?_
 refine cA 0 ho ?_
 refine b0 ?_
 refine cG 0 ho ?_
 refine ah.iR 2 0 rfl v3 (uQ h) rfl rfl ⟨ab rfl,bP 1,trivial⟩ rfl fun⟨⟨bh,h⟩,dZ⟩=> ?_
 refine ah.dR (L2:=(⟨some aZ,.var (aJ.1:a3)⟩ :: ⟨some az,.var (aJ.2:bf)⟩ :: aV bh.2)) rfl ?_
 obtain⟨bn,fT,h⟩:=ax.cv h
 refine ah.iM (fG.jd 2 rfl EZ (Dp fT) ⟨ab rfl,trivial⟩) rfl rfl rfl ?_
 refine bm gN ?_
 refine aD ?_
 refine ep (fun hb=>eA (i:=0) (aN.id a3) (r:=aJ.1) ho (ab rfl) rfl rfl rfl) ?_
 refine ah.FW (γ:=Unit) h (fun y=>I.of (y.1)) (fun y g=>(⟨some aZ,.var (aJ.1:a3)⟩ :: ⟨some az,.var (aJ.2:bf)⟩ :: aV y.2)) () rfl rfl rfl rfl rfl rfl (fun hb hm=>by refine eV.to ?_ (eV.iR 2 0 rfl v3 (uQ hm) rfl rfl ?_); exact fun _=>rfl; exact⟨cb rfl hb,bP 2,trivial⟩) fun cw l3 h=> ?_
 obtain⟨c8,nk,h⟩:=ax.cv h
 refine ah.FX (fun hb=>fG.jd 2 rfl EZ (Dp (fE nk hb)) ⟨cb rfl hb,trivial⟩) rfl rfl rfl rfl rfl ?_
 refine kE gN ?_
 refine jB ?_
 refine aD ?_
 refine ep (fun hb=>eA (i:=0) (aN.id a3) (r:=aJ.1) ho (ab rfl) rfl rfl rfl) ?_
 refine ah.FW (γ:=Unit) h (fun y=>I.of (y.1)) (fun y g=>(⟨some aZ,.var (aJ.1:a3)⟩ :: ⟨some az,.var (aJ.2:bf)⟩ :: aV y.2)) () rfl rfl rfl rfl rfl rfl (fun hb hm=>by refine eV.to ?_ (eV.iR 2 0 rfl v3 (uQ hm) rfl rfl ?_); exact fun _=>rfl; exact⟨cb rfl hb,bP 3,trivial⟩) fun eX er h=> ?_
 obtain⟨gH,r8,h⟩:=ax.cv h
 refine ah.FX (fun hb=>fG.jd 2 rfl EZ (Dp (fE r8 hb)) ⟨cb rfl hb,trivial⟩) rfl rfl rfl rfl rfl ?_
 refine kE gN ?_
 refine jB ?_
 refine aD ?_
 refine ep (fun hb=>eA (i:=0) (aN.id a3) (r:=aJ.1) ho (ab rfl) rfl rfl rfl) ?_
 refine ah.FW (γ:=Unit) h (fun y=>I.of (y.1)) (fun y g=>(⟨some aZ,.var (aJ.1:a3)⟩ :: ⟨some az,.var (aJ.2:bf)⟩ :: aV y.2)) () rfl rfl rfl rfl rfl rfl (fun hb hm=>by refine eV.to ?_ (eV.iR 2 0 rfl v3 (uQ hm) rfl rfl ?_); exact fun _=>rfl; exact⟨cb rfl hb,bP 4,trivial⟩) fun hY l4 h=> ?_
 obtain⟨h7,sa,h⟩:=ax.cv h
 refine ah.FX (fun hb=>fG.jd 2 rfl EZ (Dp (fE sa hb)) ⟨cb rfl hb,trivial⟩) rfl rfl rfl rfl rfl ?_
 refine kE gN ?_
 refine jB ?_
 refine aD ?_
 refine ep (fun hb=>eA (i:=0) (aN.id a3) (r:=aJ.1) ho (ab rfl) rfl rfl rfl) ?_
 refine ah.FW (γ:=Unit) h (fun y=>I.of (y.1)) (fun y g=>(⟨some aZ,.var (aJ.1:a3)⟩ :: ⟨some az,.var (aJ.2:bf)⟩ :: aV y.2)) () rfl rfl rfl rfl rfl rfl (fun hb hm=>by refine eV.to ?_ (eV.iR 2 0 rfl v3 (uQ hm) rfl rfl ?_); exact fun _=>rfl; exact⟨cb rfl hb,bP 9,trivial⟩) fun hL ob h=> ?_
 refine ep (fun hb=>mE Tryz.underlying37 (cb rfl hb)) ?_
 obtain⟨bE,dE,h⟩:=ax.cv h
 refine dF dE (pc (ab rfl) (ab rfl) (fun h=>h)) ?_
 refine aL ?_
 refine aK ?_
 refine ag.ret ?_
 exact ae.fi (⟨⟨(bE,hL.2),h⟩,()⟩: {r // _} × _) (.cons _ (.cons _ (.refl _))) rfl rfl (dv rfl)
theorem R7 {hp:aS Cell} {aa:ja} {aj:bu} {r:Int × Bool} (h:zO hp aa aj=some r):bM Tryz.prog 260 [I.of (aa),I.of (aj)] ([] ++ aV hp) (δ:=Unit) (fun _=>I.ed [I.of (r.1),I.of (r.2)]) (fun _=> [] ++ aV hp):=by
 unfold zO at h
 refine bM.of Tryz.func260 rfl Tryz.ntmps260 rfl fun W A=> ?_
 refine aF ?_
 refine cj fun aZ=> ?_
 refine cj fun bc=> ?_
 refine aL ?_
 refine aL ?_
 refine bO ?_
 refine aF ?_
 refine aY (aT D7) ?_
 refine cq 1 zH Bf ?_
 obtain⟨ca,dh,h⟩:=aw h
 obtain⟨bC,dP,h⟩:=aw h
 obtain⟨aG,bo,h⟩:=aw h
 refine ah.iM (fG.obj 2 rfl (tr dP) XS (RB bo) rfl ⟨eg (ab rfl) dh,trivial⟩) rfl rfl rfl ?_
 refine aY (eK Tryz.underlying38) ?_
 refine aD ?_
 refine aK ?_
 refine ag.block ?_
 obtain⟨av,ao,h⟩:=aw h
 refine ag.vF (σ:=Int) (ε:=(Int × Bool) ⊕ (Int × Bool × Int × Bool × Bool)) (γ:=Unit) (δ:=Unit) ao (fun s1 aq=> [(0,I.of (aa)),(1,I.of (aj)),(2,I.eq (.pointer (some ⟨aZ,0,none⟩))),(3,I.eq (.pointer (some ⟨bc,0,none⟩))),(4,I.of (0:Int)),(5,I.of (false)),(10,I.of (aG)),(11,I.of (aG.length:Int)),(12,I.of (s1))]) (fun s1 aq=>(⟨some bc,.var (aj:bu)⟩ :: ⟨some aZ,.var (aa:ja)⟩ :: aV hp)) (fun az=>Sum.elim (fun az=>Exit.exit 0) (fun az=>Exit.ret) az) (fun az aq=>Sum.elim (fun az=> [(0,I.of (aa)),(1,I.of (aj)),(2,I.eq (.pointer (some ⟨aZ,0,none⟩))),(3,I.eq (.pointer (some ⟨bc,0,none⟩))),(4,I.of (0:Int)),(5,I.of (false)),(10,I.of (aG)),(11,I.of (aG.length:Int)),(12,I.of (az.1)),(13,I.of (az.2))]) (fun az=> [(0,I.of (aa)),(1,I.of (aj)),(2,I.eq (.pointer (some ⟨aZ,0,none⟩))),(3,I.eq (.pointer (some ⟨bc,0,none⟩))),(4,I.of (az.1)),(5,I.of (az.2.1)),(10,I.of (aG)),(11,I.of (aG.length:Int)),(12,I.of (az.2.2.1)),(13,I.of (az.2.2.2.1)),(19,I.of (az.2.2.2.2))]) az) (fun az aq=>Sum.elim (fun az=>(⟨some bc,.var (aj:bu)⟩ :: ⟨some aZ,.var (aa:ja)⟩ :: aV hp)) (fun az=>(⟨some bc,.var (aj:bu)⟩ :: ⟨some aZ,.var (aa:ja)⟩ :: aV hp)) az) () rfl (.same rfl (.same rfl (.same rfl (.same rfl (.same rfl (.same rfl (.same rfl (.same rfl (.same rfl .nil))))))))) (fun s1 r h aq=> ?_) (fun aq=> ?_)
 ·clear ao
  refine aF ?_
  refine bm eT ?_
  refine bO ?_
  refine cm h (fun h=>?_) fun h=>?_
  ·refine cW ?_
   refine ag.seq ?_
   refine ag.block ?_
   refine aF ?_
   obtain⟨a8,cE,h⟩:=aw h
   refine hU cE Tryz.underlying38 cg ?_
   refine aY (dV cg) ?_
   refine c1 gh fun cC=> ?_
   refine cA 0 cg ?_
   refine b0 ?_
   refine aY (aT ll) ?_
   refine cq 0 kq hf ?_
   refine cG 1 hf ?_
   obtain⟨aJ,cr,h⟩:=aw h
   refine e6 XT (Sp cr) ?_
   refine aK ?_
   refine cm h (fun h=>?_) fun h=>?_
   ·refine aF ?_
    refine aY (aT nR) ?_
    refine cq 0 mD bF ?_
    refine aL ?_
    refine aL ?_
    refine aK ?_
    refine ag.ret ?_
    refine ae.dn ?_
    refine ae.ret ?_
    obtain rfl:=aI h
    exact eD () 1
   ·refine ag.skip ?_
    refine ae.ea ?_
    refine ae.next ?_
    refine ag.cz ?_
    refine bm dI ?_
    refine aD ?_
    refine ah.nil ?_
    obtain rfl:=aI h
    exact gP () 1
  ·refine ag.exit ?_
   refine ae.exit ?_
   obtain rfl:=aI h
   exact eD () 0
 ·clear ao
  rcases av with av | av
  ·simp only [Sum.elim_inl] at h
   refine ae.fM ?_
   refine ae.next ?_
   refine aF ?_
   refine aL ?_
   refine aL ?_
   refine aK ?_
   refine ag.ret ?_
   obtain rfl:=aI h
   exact ae.ky () (.cons _ (.cons _ (.refl _))) rfl rfl (dv rfl) (dv rfl)
  ·simp only [Sum.elim_inr] at h
   refine ae.dn ?_
   refine ae.ret ?_
   obtain rfl:=aI h
   exact ae.ky () (.cons _ (.cons _ (.refl _))) rfl rfl (dv rfl) (dv rfl)
theorem Sw {hp:aS Cell} {aa:Ref} {aj:ar} {aP:Int} {bR:Int} {Q:Bool × (aS Cell)→Prop} (h:xz hp aa aj aP bR Q):bM Tryz.prog 244 [I.of (aa),I.of (aj),I.of (aP),I.of (bR)] ([] ++ aV hp) (δ:= {r:Bool × (aS Cell) // Q r} × Unit) (fun d=>I.of (d.1.1.1)) (fun d=> [] ++ aV d.1.1.2):=by
 unfold xz at h
 refine bM.ofM Tryz.func244 rfl Tryz.ntmps244 rfl fun W A=> ?_
 refine aF ?_
 refine cj fun aZ=> ?_
 refine aL ?_
 refine bO ?_
 refine aF ?_
 refine aD ?_
 refine cG 0 bQ ?_
 refine aD ?_
 obtain⟨aG,bo,h⟩:=ax.cv h
 refine ah.iM (fG.jd 1 rfl OA (K4 bo) ⟨ab rfl,ab rfl,ab rfl,trivial⟩) rfl rfl rfl ?_
 refine aY hP ?_
 refine aK ?_
 refine ag.cond (ab rfl) (fun ak=> ?_) (fun ak=> ?_)
 ·replace h:=mF ak h
  refine aF ?_
  refine aL ?_
  refine aK ?_
  refine ag.ret ?_
  refine ae.ret ?_
  refine ae.By ?_
  exact ae.fi (⟨⟨(false,hp),h⟩,()⟩: {r // _} × _) (.cons _ (.refl _)) rfl rfl (dv rfl)
 ·replace h:=mG ak h
  refine cW ?_
  refine ag.seq ?_
  refine aF ?_
  refine aD ?_
  refine cG 0 bQ ?_
  refine aD ?_
  obtain⟨aJ,cr,h⟩:=ax.cv h
  refine ah.iM (fG.jd 1 rfl OE (K8 cr) ⟨ab rfl,ab rfl,ab rfl,trivial⟩) rfl rfl rfl ?_
  refine aL ?_
  refine b0 ?_
  refine aD ?_
  refine bl (DL Tryz.underlying331 (ab rfl)) ?_
  refine aD ?_
  refine ey cM ?_
  obtain⟨ca,dh,h⟩:=ax.cv h
  refine ep (fun hb=>dD (eg (cb rfl hb) (fE dh hb))) ?_
  refine ey (aT qJ) ?_
  obtain⟨bC,dP,h⟩:=ax.cv h
  refine ep (fun hb=>fA ((aN.id dx).comp qB) (r:=bC.dC) gi (cb rfl hb) (eM (n:=1) rfl (iP (fE dP hb)) rfl) rfl rfl) ?_
  refine jB ?_
  refine aK ?_
  refine ag.cond (ab rfl) (fun ak=> ?_) (fun ak=> ?_)
  ·replace h:=mF ak h
   refine aF ?_
   refine aL ?_
   refine aK ?_
   refine ag.ret ?_
   refine ae.ret ?_
   refine ae.By ?_
   exact ae.fi (⟨⟨(false,hp),h⟩,()⟩: {r // _} × _) (.cons _ (.refl _)) rfl rfl (dv rfl)
  ·replace h:=mG ak h
   refine cW ?_
   refine ag.seq ?_
   refine aF ?_
   refine aD ?_
   obtain⟨b2,eZ,h⟩:=ax.cv h
   refine bl (dD (eg (ab rfl) eZ)) ?_
   refine aY (aT rO) ?_
   obtain⟨cf,fk,h⟩:=ax.cv h
   refine bl (fA ((aN.id fv).comp ry) (r:=cf.cB) dX (ab rfl) (eM (n:=1) rfl (mb fk) rfl) rfl rfl) ?_
   refine bl (mE Tryz.underlying331 (ab rfl)) ?_
   refine aK ?_
   refine ag.xX (γ:=Unit) h (fun bp aq=> [(0,I.of (aa)),(1,I.of (aj)),(2,I.of (aP)),(3,I.of (bR)),(5,I.eq (.pointer (some ⟨aZ,0,none⟩))),(8,I.of (false)),(9,I.of (aJ)),(16,I.of (!aG)),(28,I.of (aJ.isSome && bC.dC)),(33,I.of (cf.cB.isNone))]) (fun bp aq=>(⟨some aZ,.var (aj:ar)⟩ :: aV bp)) (ab rfl) (fun bp aq h=> ?_) (fun hm ak h=> ?_) (fun hm ak h=> ?_)
   ·refine ae.next ?_
    refine aF ?_
    refine aD ?_
    refine bl (dD (eg (ab rfl) eZ)) ?_
    refine aY (aT rO) ?_
    obtain⟨eH,lv,h⟩:=ax.cv h
    refine bl (fA ((aN.id fv).comp ry) (r:=eH.cB) dX (ab rfl) (eM (n:=1) rfl (mb lv) rfl) rfl rfl) ?_
    refine c1 vG fun bc=> ?_
    refine cA 0 dX ?_
    refine bO ?_
    refine aF ?_
    refine aD ?_
    refine cG 1 bQ ?_
    refine aD ?_
    obtain⟨bh,e7,h⟩:=ax.cv h
    refine e6 EK (Du e7) ?_
    refine aK ?_
    refine ag.block ?_
    refine TS (σ:=Ref × (aS Cell)) (ε:=Empty) (γ:=Unit) (g0:=()) (Ls:=fun s2 bN=>(⟨some bc,.var (s2.1:Ref)⟩ :: ⟨some aZ,.var (aj:ar)⟩ :: aV s2.2)) (Lx:=fun c7 bN=>Empty.elim c7) (hq:=fun s2=>s2.2) (fun s2 bN=> [⟨some bc,.var (s2.1:Ref)⟩,⟨some aZ,.var (aj:ar)⟩]) (fun c7=>Empty.elim c7) rfl EL rfl RT h (fun _ _=>rfl) rfl rfl (fun yE s2 R h bN k3 k8 k4 l D rec sq=> ?_) (fun s2 h bN D=> ?_) (fun c7 h bN D=> ?_)
    ·refine ag.cz ?_
     refine aL ?_
     refine ah.nil ?_
     refine ae.begin 0 rfl sq ?_
     refine ag.block ?_
     refine ag.seq ?_
     refine aF ?_
     refine cG 2 dX ?_
     refine aD ?_
     obtain⟨lG,q8,h⟩:=ax.cv h
     refine bl (dD (eg (ab rfl) q8)) ?_
     refine aY (aT qL) ?_
     obtain⟨a8,cE,h⟩:=ax.cv h
     refine bl (il (k:=a8) r3 (ab rfl) (ab rfl) (cL cE)) ?_
     obtain⟨od,BU,h⟩:=ax.cv h
     refine bl (fA (((aN.id dx).comp qA).comp (aN.idx (α:=Ref) 2 a8 (cL cE).1)) (r:=bD od.cU a8) dX (ab rfl) (eM (n:=4) rfl (iP BU) rfl) rfl rfl) ?_
     refine bl (mE Tryz.underlying331 (ab rfl)) ?_
     refine aK ?_
     refine ag.xX (γ:=Unit) h (fun cP dq=> [(0,I.of (aa)),(1,I.of (aj)),(2,I.of (aP)),(3,I.of (bR)),(5,I.eq (.pointer (some ⟨aZ,0,none⟩))),(8,I.of (false)),(9,I.of (aJ)),(10,I.eq (.pointer (some ⟨bc,0,none⟩))),(11,I.of (yE)),(16,I.of (!aG)),(28,I.of (aJ.isSome && bC.dC)),(33,I.of (cf.cB.isNone)),(46,I.gF 255 [I.ptr bh.1,I.ptr bh.2.1,I.ptr bh.2.2]),(47,I.of (yE)),(54,I.of ((bD od.cU a8).isNone))]) (fun cP dq=>(⟨some l,.is (.loop { rec with state:= .busy })⟩ :: ⟨some D,.dj⟩ :: ⟨some bc,.var (s2.1:Ref)⟩ :: ⟨some aZ,.var (aj:ar)⟩ :: aV cP)) (ab rfl) (fun cP dq h=> ?_) (fun hm ak h=> ?_) (fun hm ak h=> ?_)
     ·refine ae.next ?_
      refine ag.cz ?_
      refine cG 2 dX ?_
      refine aD ?_
      refine bl (dD (eg (ab rfl) q8)) ?_
      refine aY (aT qL) ?_
      obtain⟨bY,cX,h⟩:=ax.cv h
      refine bl (il (k:=bY) r3 (ab rfl) (ab rfl) (cL cX)) ?_
      obtain⟨oT,BV,h⟩:=ax.cv h
      refine bl (fA (((aN.id dx).comp qA).comp (aN.idx (α:=Ref) 2 bY (cL cX).1)) (r:=bD oT.cU bY) dX (ab rfl) (eM (n:=4) rfl (iP BV) rfl) rfl rfl) ?_
      refine cA 2 dX ?_
      refine ah.nil ?_
      refine ae.ea ?_
      exact ae.Zr h () 0 rfl
     ·refine ag.cz ?_
      refine cG 2 dX ?_
      refine aD ?_
      refine hC OF OG (default:dx) .nil ?_
      refine ah.Bo 4 rfl (Cell.fQ (default:dx)) (fun _=>rfl) (ab rfl) rfl fun c2 wg=> ?_
      replace h:=ax.tg h c2 wg
      refine bl (dD (eg (ab rfl) q8)) ?_
      refine aY (aT qL) ?_
      obtain⟨cY,g4,h⟩:=ax.cv h
      refine bl (il (k:=cY) r3 (ab rfl) (ab rfl) (cL g4)) ?_
      obtain⟨lH,yF,h⟩:=ax.cv h
      obtain⟨cS,kz,h⟩:=ax.cv h
      refine ah.nQ (k':=Cell.fQ ({ lH with cU:=fP lH.cU cY (some c2.1:Ref) } :dx)) 4 rfl (((aN.id dx).comp qA).comp (aN.idx (α:=Ref) 2 cY (cL g4).1)) (v:=((some c2.1:Ref):Ref)) dX (ab rfl) (ab rfl) (iP yF) rfl rfl rfl rfl (aI kz) ?_
      refine ah.nil ?_
      exact dp 0 (hm cS () h)
     ·refine ag.skip ?_
      exact dp 0 (hm s2.2 () h)
    ·simp only [Sum.elim_inl] at h
     refine ae.dR (L2:=(⟨some D,.dj⟩ :: ⟨some bc,.var (s2.1:Ref)⟩ :: ⟨some aZ,.var (aj:ar)⟩ :: aV s2.2)) rfl ?_
     refine ae.ea ?_
     refine ae.next ?_
     refine ag.seq ?_
     obtain⟨jZ,Fp,h⟩:=ax.cv h
     obtain⟨y0,Fq,h⟩:=ax.cv h
     obtain⟨cO,tI,h⟩:=ax.cv h
     refine ag.XU mixed 9 (Array.mk (false :: false :: false :: false :: false :: false :: false :: false :: false :: [])) rfl rfl ?_
     refine c9.cut (γ:=Unit) 3 (Array.mk (true :: true :: true :: true :: true :: true :: false :: false :: false :: [])) (fun NC=> [(0,I.of (aa)),(1,I.of (aj)),(2,I.of (aP)),(3,I.of (bR)),(5,I.eq (.pointer (some ⟨aZ,0,none⟩))),(8,I.of (false)),(9,I.of (aJ)),(10,I.eq (.pointer (some ⟨bc,0,none⟩))),(16,I.of (!aG)),(28,I.of (aJ.isSome && bC.dC)),(33,I.of (cf.cB.isNone)),(39,I.of (aa)),(40,I.eq (.pointer (some ⟨b2,0,none⟩))),(41,I.eq (.pointer (some ⟨b2,0 + 1,none⟩))),(42,I.of (eH.cB)),(43,I.of (aa)),(44,I.of (aj)),(45,I.of (aP)),(46,I.gF 255 [I.ptr bh.1,I.ptr bh.2.1,I.ptr bh.2.2]),(68,I.of (s2.1)),(69,I.of (s2.1)),(70,I.of (bR)),(71,I.eq (.pointer (some ⟨jZ,0,none⟩))),(72,I.eq (.pointer (some ⟨jZ,0 + 2,none⟩)))]) (fun NC=>(⟨some D,.dj⟩ :: ⟨some bc,.var (s2.1:Ref)⟩ :: ⟨some aZ,.var (aj:ar)⟩ :: aV cO)) (fun NC=> ?_) (fun IA=> ?_)
     ·refine c9.tail 6 rfl (by kernel_rfl) ?_
      obtain⟨Kp,aay,h⟩:=ax.cv h
      refine bl (dD (eg (ab rfl) aay)) ?_
      refine aY (aT AI) ?_
      obtain⟨Kq,aaz,h⟩:=ax.cv h
      obtain⟨gj,Bp,h⟩:=ax.cv h
      refine ah.nQ (k':=Cell.fQ ({ Kq with hc:=bR } :dx)) 3 rfl ((aN.id dx).comp zT) (v:=(bR:Int)) bF (ab rfl) (ab rfl) (iP aaz) rfl rfl rfl rfl (aI Bp) ?_
      refine b0 ?_
      refine aL ?_
      refine aK ?_
      refine ag.ret ?_
      refine ae.tL 0 rfl rfl ?_
      exact ae.fi (⟨⟨(true,gj),h⟩,()⟩: {r // _} × _) (.cons _ (.cons _ (.cons _ (.refl _)))) rfl rfl (dv rfl)
     refine c9.cut (γ:=Unit) 4 (Array.mk (true :: false :: true :: true :: true :: true :: false :: false :: false :: [])) (fun ND=> [(0,I.of (aa)),(1,I.of (aj)),(2,I.of (aP)),(3,I.of (bR)),(5,I.eq (.pointer (some ⟨aZ,0,none⟩))),(8,I.of (false)),(9,I.of (aJ)),(10,I.eq (.pointer (some ⟨bc,0,none⟩))),(16,I.of (!aG)),(28,I.of (aJ.isSome && bC.dC)),(33,I.of (cf.cB.isNone)),(39,I.of (aa)),(40,I.eq (.pointer (some ⟨b2,0,none⟩))),(41,I.eq (.pointer (some ⟨b2,0 + 1,none⟩))),(42,I.of (eH.cB)),(43,I.of (aa)),(44,I.of (aj)),(45,I.of (aP)),(46,I.gF 255 [I.ptr bh.1,I.ptr bh.2.1,I.ptr bh.2.2]),(68,I.of (s2.1)),(70,I.of (bR)),(71,I.eq (.pointer (some ⟨jZ,0,none⟩))),(72,I.eq (.pointer (some ⟨jZ,0 + 2,none⟩)))]) (fun ND=>(⟨some D,.dj⟩ :: ⟨some bc,.var (s2.1:Ref)⟩ :: ⟨some aZ,.var (aj:ar)⟩ :: aV cO)) (fun ND=> ?_) (fun OH=> ?_)
     ·clear h
      refine c9.step [1] (by kernel_rfl) rfl ⟨⟨_,rfl,?_⟩,trivial⟩
      ·refine cG 1 dX ?_
       refine ah.nil ?_
       exact ae.any rfl (c9.le (.same rfl (.same rfl (.same rfl (.same rfl (.same rfl (.same rfl (.same rfl (.same rfl (.same rfl (.same rfl (.same rfl (.same rfl (.same rfl (.same rfl (.same rfl (.same rfl (.same rfl (.same rfl (.same rfl (.same rfl (.same rfl (.same rfl (.same rfl (.same rfl .nil)))))))))))))))))))))))) (IA ()))
     refine c9.cut (γ:=Unit) 4 (Array.mk (true :: true :: false :: true :: true :: true :: false :: false :: false :: [])) (fun NF=> [(0,I.of (aa)),(1,I.of (aj)),(2,I.of (aP)),(3,I.of (bR)),(5,I.eq (.pointer (some ⟨aZ,0,none⟩))),(8,I.of (false)),(9,I.of (aJ)),(10,I.eq (.pointer (some ⟨bc,0,none⟩))),(16,I.of (!aG)),(28,I.of (aJ.isSome && bC.dC)),(33,I.of (cf.cB.isNone)),(39,I.of (aa)),(40,I.eq (.pointer (some ⟨b2,0,none⟩))),(41,I.eq (.pointer (some ⟨b2,0 + 1,none⟩))),(42,I.of (eH.cB)),(43,I.of (aa)),(44,I.of (aj)),(45,I.of (aP)),(46,I.gF 255 [I.ptr bh.1,I.ptr bh.2.1,I.ptr bh.2.2]),(68,I.of (s2.1)),(69,I.of (s2.1)),(71,I.eq (.pointer (some ⟨jZ,0,none⟩))),(72,I.eq (.pointer (some ⟨jZ,0 + 2,none⟩)))]) (fun NF=>(⟨some D,.dj⟩ :: ⟨some bc,.var (s2.1:Ref)⟩ :: ⟨some aZ,.var (aj:ar)⟩ :: aV cO)) (fun NF=> ?_) (fun OI=> ?_)
     ·clear h
      refine c9.step [2] (by kernel_rfl) rfl ⟨⟨_,rfl,?_⟩,trivial⟩
      ·refine aD ?_
       refine ah.nil ?_
       exact ae.any rfl (c9.le (.same rfl (.same rfl (.same rfl (.same rfl (.same rfl (.same rfl (.same rfl (.same rfl (.same rfl (.same rfl (.same rfl (.same rfl (.same rfl (.same rfl (.same rfl (.same rfl (.same rfl (.same rfl (.same rfl (.same rfl (.same rfl (.same rfl (.same rfl (.same rfl .nil)))))))))))))))))))))))) (IA ()))
     refine c9.cut (γ:=Unit) 4 (Array.mk (true :: true :: true :: true :: true :: false :: false :: false :: false :: [])) (fun NG=> [(0,I.of (aa)),(1,I.of (aj)),(2,I.of (aP)),(3,I.of (bR)),(5,I.eq (.pointer (some ⟨aZ,0,none⟩))),(8,I.of (false)),(9,I.of (aJ)),(10,I.eq (.pointer (some ⟨bc,0,none⟩))),(16,I.of (!aG)),(28,I.of (aJ.isSome && bC.dC)),(33,I.of (cf.cB.isNone)),(39,I.of (aa)),(40,I.eq (.pointer (some ⟨b2,0,none⟩))),(41,I.eq (.pointer (some ⟨b2,0 + 1,none⟩))),(42,I.of (eH.cB)),(43,I.of (aa)),(44,I.of (aj)),(45,I.of (aP)),(46,I.gF 255 [I.ptr bh.1,I.ptr bh.2.1,I.ptr bh.2.2]),(68,I.of (s2.1)),(69,I.of (s2.1)),(70,I.of (bR)),(71,I.eq (.pointer (some ⟨jZ,0,none⟩))),(72,I.eq (.pointer (some ⟨jZ,0 + 2,none⟩)))]) (fun NG=>(⟨some D,.dj⟩ :: ⟨some bc,.var (s2.1:Ref)⟩ :: ⟨some aZ,.var (aj:ar)⟩ :: aV s2.2)) (fun NG=> ?_) (fun IB=> ?_)
     ·clear h
      refine c9.step [5] (by kernel_rfl) rfl ⟨⟨_,rfl,?_⟩,trivial⟩
      ·refine ah.nQ (k':=Cell.fQ ({ y0 with dC:=true } :dx)) 3 rfl ((aN.id dx).comp qB) (v:=(true:Bool)) gi (ab rfl) (fO true) (iP Fq) rfl rfl rfl rfl (aI tI) ?_
       refine ah.nil ?_
       exact ae.any rfl (c9.le (.same rfl (.same rfl (.same rfl (.same rfl (.same rfl (.same rfl (.same rfl (.same rfl (.same rfl (.same rfl (.same rfl (.same rfl (.same rfl (.same rfl (.same rfl (.same rfl (.same rfl (.same rfl (.same rfl (.same rfl (.same rfl (.same rfl (.same rfl (.same rfl .nil)))))))))))))))))))))))) (IA ()))
     refine c9.cut (γ:=Unit) 5 (Array.mk (true :: false :: false :: true :: true :: true :: false :: false :: false :: [])) (fun NH=> [(0,I.of (aa)),(1,I.of (aj)),(2,I.of (aP)),(3,I.of (bR)),(5,I.eq (.pointer (some ⟨aZ,0,none⟩))),(8,I.of (false)),(9,I.of (aJ)),(10,I.eq (.pointer (some ⟨bc,0,none⟩))),(16,I.of (!aG)),(28,I.of (aJ.isSome && bC.dC)),(33,I.of (cf.cB.isNone)),(39,I.of (aa)),(40,I.eq (.pointer (some ⟨b2,0,none⟩))),(41,I.eq (.pointer (some ⟨b2,0 + 1,none⟩))),(42,I.of (eH.cB)),(43,I.of (aa)),(44,I.of (aj)),(45,I.of (aP)),(46,I.gF 255 [I.ptr bh.1,I.ptr bh.2.1,I.ptr bh.2.2]),(68,I.of (s2.1)),(71,I.eq (.pointer (some ⟨jZ,0,none⟩))),(72,I.eq (.pointer (some ⟨jZ,0 + 2,none⟩)))]) (fun NH=>(⟨some D,.dj⟩ :: ⟨some bc,.var (s2.1:Ref)⟩ :: ⟨some aZ,.var (aj:ar)⟩ :: aV cO)) (fun NH=> ?_) (fun XV=> ?_)
     ·clear h
      refine c9.step [1,2] (by kernel_rfl) rfl ⟨⟨_,rfl,?_⟩,⟨_,rfl,?_⟩,trivial⟩
      ·refine cG 1 dX ?_
       refine ah.nil ?_
       exact ae.any rfl (c9.le (.same rfl (.same rfl (.same rfl (.same rfl (.same rfl (.same rfl (.same rfl (.same rfl (.same rfl (.same rfl (.same rfl (.same rfl (.same rfl (.same rfl (.same rfl (.same rfl (.same rfl (.same rfl (.same rfl (.same rfl (.same rfl (.same rfl (.same rfl .nil))))))))))))))))))))))) (OI ()))
      ·refine aD ?_
       refine ah.nil ?_
       exact ae.any rfl (c9.le (.same rfl (.same rfl (.same rfl (.same rfl (.same rfl (.same rfl (.same rfl (.same rfl (.same rfl (.same rfl (.same rfl (.same rfl (.same rfl (.same rfl (.same rfl (.same rfl (.same rfl (.same rfl (.same rfl (.same rfl (.same rfl (.same rfl (.same rfl .nil))))))))))))))))))))))) (OH ()))
     refine c9.cut (γ:=Unit) 5 (Array.mk (true :: false :: true :: true :: true :: false :: false :: false :: false :: [])) (fun NI=> [(0,I.of (aa)),(1,I.of (aj)),(2,I.of (aP)),(3,I.of (bR)),(5,I.eq (.pointer (some ⟨aZ,0,none⟩))),(8,I.of (false)),(9,I.of (aJ)),(10,I.eq (.pointer (some ⟨bc,0,none⟩))),(16,I.of (!aG)),(28,I.of (aJ.isSome && bC.dC)),(33,I.of (cf.cB.isNone)),(39,I.of (aa)),(40,I.eq (.pointer (some ⟨b2,0,none⟩))),(41,I.eq (.pointer (some ⟨b2,0 + 1,none⟩))),(42,I.of (eH.cB)),(43,I.of (aa)),(44,I.of (aj)),(45,I.of (aP)),(46,I.gF 255 [I.ptr bh.1,I.ptr bh.2.1,I.ptr bh.2.2]),(68,I.of (s2.1)),(70,I.of (bR)),(71,I.eq (.pointer (some ⟨jZ,0,none⟩))),(72,I.eq (.pointer (some ⟨jZ,0 + 2,none⟩)))]) (fun NI=>(⟨some D,.dj⟩ :: ⟨some bc,.var (s2.1:Ref)⟩ :: ⟨some aZ,.var (aj:ar)⟩ :: aV s2.2)) (fun NI=> ?_) (fun OJ=> ?_)
     ·clear h
      refine c9.step [1,5] (by kernel_rfl) rfl ⟨⟨_,rfl,?_⟩,⟨_,rfl,?_⟩,trivial⟩
      ·refine cG 1 dX ?_
       refine ah.nil ?_
       exact ae.any rfl (c9.le (.same rfl (.same rfl (.same rfl (.same rfl (.same rfl (.same rfl (.same rfl (.same rfl (.same rfl (.same rfl (.same rfl (.same rfl (.same rfl (.same rfl (.same rfl (.same rfl (.same rfl (.same rfl (.same rfl (.same rfl (.same rfl (.same rfl (.same rfl (.same rfl .nil)))))))))))))))))))))))) (IB ()))
      ·refine ah.nQ (k':=Cell.fQ ({ y0 with dC:=true } :dx)) 3 rfl ((aN.id dx).comp qB) (v:=(true:Bool)) gi (ab rfl) (fO true) (iP Fq) rfl rfl rfl rfl (aI tI) ?_
       refine ah.nil ?_
       exact ae.any rfl (c9.le (.same rfl (.same rfl (.same rfl (.same rfl (.same rfl (.same rfl (.same rfl (.same rfl (.same rfl (.same rfl (.same rfl (.same rfl (.same rfl (.same rfl (.same rfl (.same rfl (.same rfl (.same rfl (.same rfl (.same rfl (.same rfl (.same rfl (.same rfl .nil))))))))))))))))))))))) (OH ()))
     refine c9.cut (γ:=Unit) 5 (Array.mk (true :: true :: false :: true :: true :: false :: false :: false :: false :: [])) (fun NJ=> [(0,I.of (aa)),(1,I.of (aj)),(2,I.of (aP)),(3,I.of (bR)),(5,I.eq (.pointer (some ⟨aZ,0,none⟩))),(8,I.of (false)),(9,I.of (aJ)),(10,I.eq (.pointer (some ⟨bc,0,none⟩))),(16,I.of (!aG)),(28,I.of (aJ.isSome && bC.dC)),(33,I.of (cf.cB.isNone)),(39,I.of (aa)),(40,I.eq (.pointer (some ⟨b2,0,none⟩))),(41,I.eq (.pointer (some ⟨b2,0 + 1,none⟩))),(42,I.of (eH.cB)),(43,I.of (aa)),(44,I.of (aj)),(45,I.of (aP)),(46,I.gF 255 [I.ptr bh.1,I.ptr bh.2.1,I.ptr bh.2.2]),(68,I.of (s2.1)),(69,I.of (s2.1)),(71,I.eq (.pointer (some ⟨jZ,0,none⟩))),(72,I.eq (.pointer (some ⟨jZ,0 + 2,none⟩)))]) (fun NJ=>(⟨some D,.dj⟩ :: ⟨some bc,.var (s2.1:Ref)⟩ :: ⟨some aZ,.var (aj:ar)⟩ :: aV s2.2)) (fun NJ=> ?_) (fun OK=> ?_)
     ·clear h
      refine c9.step [2,5] (by kernel_rfl) rfl ⟨⟨_,rfl,?_⟩,⟨_,rfl,?_⟩,trivial⟩
      ·refine aD ?_
       refine ah.nil ?_
       exact ae.any rfl (c9.le (.same rfl (.same rfl (.same rfl (.same rfl (.same rfl (.same rfl (.same rfl (.same rfl (.same rfl (.same rfl (.same rfl (.same rfl (.same rfl (.same rfl (.same rfl (.same rfl (.same rfl (.same rfl (.same rfl (.same rfl (.same rfl (.same rfl (.same rfl (.same rfl .nil)))))))))))))))))))))))) (IB ()))
      ·refine ah.nQ (k':=Cell.fQ ({ y0 with dC:=true } :dx)) 3 rfl ((aN.id dx).comp qB) (v:=(true:Bool)) gi (ab rfl) (fO true) (iP Fq) rfl rfl rfl rfl (aI tI) ?_
       refine ah.nil ?_
       exact ae.any rfl (c9.le (.same rfl (.same rfl (.same rfl (.same rfl (.same rfl (.same rfl (.same rfl (.same rfl (.same rfl (.same rfl (.same rfl (.same rfl (.same rfl (.same rfl (.same rfl (.same rfl (.same rfl (.same rfl (.same rfl (.same rfl (.same rfl (.same rfl (.same rfl .nil))))))))))))))))))))))) (OI ()))
     refine c9.cut (γ:=Unit) 5 (Array.mk (true :: true :: true :: true :: false :: false :: false :: false :: false :: [])) (fun NK=> [(0,I.of (aa)),(1,I.of (aj)),(2,I.of (aP)),(3,I.of (bR)),(5,I.eq (.pointer (some ⟨aZ,0,none⟩))),(8,I.of (false)),(9,I.of (aJ)),(10,I.eq (.pointer (some ⟨bc,0,none⟩))),(16,I.of (!aG)),(28,I.of (aJ.isSome && bC.dC)),(33,I.of (cf.cB.isNone)),(39,I.of (aa)),(40,I.eq (.pointer (some ⟨b2,0,none⟩))),(41,I.eq (.pointer (some ⟨b2,0 + 1,none⟩))),(42,I.of (eH.cB)),(43,I.of (aa)),(44,I.of (aj)),(45,I.of (aP)),(46,I.gF 255 [I.ptr bh.1,I.ptr bh.2.1,I.ptr bh.2.2]),(68,I.of (s2.1)),(69,I.of (s2.1)),(70,I.of (bR)),(71,I.eq (.pointer (some ⟨jZ,0,none⟩)))]) (fun NK=>(⟨some D,.dj⟩ :: ⟨some bc,.var (s2.1:Ref)⟩ :: ⟨some aZ,.var (aj:ar)⟩ :: aV s2.2)) (fun NK=> ?_) (fun IC=> ?_)
     ·clear h
      refine c9.step [4] (by kernel_rfl) rfl ⟨⟨_,rfl,?_⟩,trivial⟩
      ·refine aY (aT qJ) ?_
       refine ah.nil ?_
       exact ae.any rfl (c9.le (.same rfl (.same rfl (.same rfl (.same rfl (.same rfl (.same rfl (.same rfl (.same rfl (.same rfl (.same rfl (.same rfl (.same rfl (.same rfl (.same rfl (.same rfl (.same rfl (.same rfl (.same rfl (.same rfl (.same rfl (.same rfl (.same rfl (.same rfl (.same rfl .nil)))))))))))))))))))))))) (IB ()))
     refine c9.cut (γ:=Unit) 6 (Array.mk (true :: false :: false :: true :: true :: false :: false :: false :: false :: [])) (fun NL=> [(0,I.of (aa)),(1,I.of (aj)),(2,I.of (aP)),(3,I.of (bR)),(5,I.eq (.pointer (some ⟨aZ,0,none⟩))),(8,I.of (false)),(9,I.of (aJ)),(10,I.eq (.pointer (some ⟨bc,0,none⟩))),(16,I.of (!aG)),(28,I.of (aJ.isSome && bC.dC)),(33,I.of (cf.cB.isNone)),(39,I.of (aa)),(40,I.eq (.pointer (some ⟨b2,0,none⟩))),(41,I.eq (.pointer (some ⟨b2,0 + 1,none⟩))),(42,I.of (eH.cB)),(43,I.of (aa)),(44,I.of (aj)),(45,I.of (aP)),(46,I.gF 255 [I.ptr bh.1,I.ptr bh.2.1,I.ptr bh.2.2]),(68,I.of (s2.1)),(71,I.eq (.pointer (some ⟨jZ,0,none⟩))),(72,I.eq (.pointer (some ⟨jZ,0 + 2,none⟩)))]) (fun NL=>(⟨some D,.dj⟩ :: ⟨some bc,.var (s2.1:Ref)⟩ :: ⟨some aZ,.var (aj:ar)⟩ :: aV s2.2)) (fun NL=> ?_) (fun XW=> ?_)
     ·clear h
      refine c9.step [1,2,5] (by kernel_rfl) rfl ⟨⟨_,rfl,?_⟩,⟨_,rfl,?_⟩,⟨_,rfl,?_⟩,trivial⟩
      ·refine cG 1 dX ?_
       refine ah.nil ?_
       exact ae.any rfl (c9.le (.same rfl (.same rfl (.same rfl (.same rfl (.same rfl (.same rfl (.same rfl (.same rfl (.same rfl (.same rfl (.same rfl (.same rfl (.same rfl (.same rfl (.same rfl (.same rfl (.same rfl (.same rfl (.same rfl (.same rfl (.same rfl (.same rfl (.same rfl .nil))))))))))))))))))))))) (OK ()))
      ·refine aD ?_
       refine ah.nil ?_
       exact ae.any rfl (c9.le (.same rfl (.same rfl (.same rfl (.same rfl (.same rfl (.same rfl (.same rfl (.same rfl (.same rfl (.same rfl (.same rfl (.same rfl (.same rfl (.same rfl (.same rfl (.same rfl (.same rfl (.same rfl (.same rfl (.same rfl (.same rfl (.same rfl (.same rfl .nil))))))))))))))))))))))) (OJ ()))
      ·refine ah.nQ (k':=Cell.fQ ({ y0 with dC:=true } :dx)) 3 rfl ((aN.id dx).comp qB) (v:=(true:Bool)) gi (ab rfl) (fO true) (iP Fq) rfl rfl rfl rfl (aI tI) ?_
       refine ah.nil ?_
       exact ae.any rfl (c9.le (.same rfl (.same rfl (.same rfl (.same rfl (.same rfl (.same rfl (.same rfl (.same rfl (.same rfl (.same rfl (.same rfl (.same rfl (.same rfl (.same rfl (.same rfl (.same rfl (.same rfl (.same rfl (.same rfl (.same rfl (.same rfl (.same rfl .nil)))))))))))))))))))))) (XV ()))
     refine c9.cut (γ:=Unit) 6 (Array.mk (true :: false :: true :: true :: false :: false :: false :: false :: false :: [])) (fun NM=> [(0,I.of (aa)),(1,I.of (aj)),(2,I.of (aP)),(3,I.of (bR)),(5,I.eq (.pointer (some ⟨aZ,0,none⟩))),(8,I.of (false)),(9,I.of (aJ)),(10,I.eq (.pointer (some ⟨bc,0,none⟩))),(16,I.of (!aG)),(28,I.of (aJ.isSome && bC.dC)),(33,I.of (cf.cB.isNone)),(39,I.of (aa)),(40,I.eq (.pointer (some ⟨b2,0,none⟩))),(41,I.eq (.pointer (some ⟨b2,0 + 1,none⟩))),(42,I.of (eH.cB)),(43,I.of (aa)),(44,I.of (aj)),(45,I.of (aP)),(46,I.gF 255 [I.ptr bh.1,I.ptr bh.2.1,I.ptr bh.2.2]),(68,I.of (s2.1)),(70,I.of (bR)),(71,I.eq (.pointer (some ⟨jZ,0,none⟩)))]) (fun NM=>(⟨some D,.dj⟩ :: ⟨some bc,.var (s2.1:Ref)⟩ :: ⟨some aZ,.var (aj:ar)⟩ :: aV s2.2)) (fun NM=> ?_) (fun OL=> ?_)
     ·clear h
      refine c9.step [1,4] (by kernel_rfl) rfl ⟨⟨_,rfl,?_⟩,⟨_,rfl,?_⟩,trivial⟩
      ·refine cG 1 dX ?_
       refine ah.nil ?_
       exact ae.any rfl (c9.le (.same rfl (.same rfl (.same rfl (.same rfl (.same rfl (.same rfl (.same rfl (.same rfl (.same rfl (.same rfl (.same rfl (.same rfl (.same rfl (.same rfl (.same rfl (.same rfl (.same rfl (.same rfl (.same rfl (.same rfl (.same rfl (.same rfl (.same rfl .nil))))))))))))))))))))))) (IC ()))
      ·refine aY (aT qJ) ?_
       refine ah.nil ?_
       exact ae.any rfl (c9.le (.same rfl (.same rfl (.same rfl (.same rfl (.same rfl (.same rfl (.same rfl (.same rfl (.same rfl (.same rfl (.same rfl (.same rfl (.same rfl (.same rfl (.same rfl (.same rfl (.same rfl (.same rfl (.same rfl (.same rfl (.same rfl (.same rfl (.same rfl .nil))))))))))))))))))))))) (OJ ()))
     refine c9.cut (γ:=Unit) 6 (Array.mk (true :: true :: false :: true :: false :: false :: false :: false :: false :: [])) (fun OM=> [(0,I.of (aa)),(1,I.of (aj)),(2,I.of (aP)),(3,I.of (bR)),(5,I.eq (.pointer (some ⟨aZ,0,none⟩))),(8,I.of (false)),(9,I.of (aJ)),(10,I.eq (.pointer (some ⟨bc,0,none⟩))),(16,I.of (!aG)),(28,I.of (aJ.isSome && bC.dC)),(33,I.of (cf.cB.isNone)),(39,I.of (aa)),(40,I.eq (.pointer (some ⟨b2,0,none⟩))),(41,I.eq (.pointer (some ⟨b2,0 + 1,none⟩))),(42,I.of (eH.cB)),(43,I.of (aa)),(44,I.of (aj)),(45,I.of (aP)),(46,I.gF 255 [I.ptr bh.1,I.ptr bh.2.1,I.ptr bh.2.2]),(68,I.of (s2.1)),(69,I.of (s2.1)),(71,I.eq (.pointer (some ⟨jZ,0,none⟩)))]) (fun OM=>(⟨some D,.dj⟩ :: ⟨some bc,.var (s2.1:Ref)⟩ :: ⟨some aZ,.var (aj:ar)⟩ :: aV s2.2)) (fun OM=> ?_) (fun PC=> ?_)
     ·clear h
      refine c9.step [2,4] (by kernel_rfl) rfl ⟨⟨_,rfl,?_⟩,⟨_,rfl,?_⟩,trivial⟩
      ·refine aD ?_
       refine ah.nil ?_
       exact ae.any rfl (c9.le (.same rfl (.same rfl (.same rfl (.same rfl (.same rfl (.same rfl (.same rfl (.same rfl (.same rfl (.same rfl (.same rfl (.same rfl (.same rfl (.same rfl (.same rfl (.same rfl (.same rfl (.same rfl (.same rfl (.same rfl (.same rfl (.same rfl (.same rfl .nil))))))))))))))))))))))) (IC ()))
      ·refine aY (aT qJ) ?_
       refine ah.nil ?_
       exact ae.any rfl (c9.le (.same rfl (.same rfl (.same rfl (.same rfl (.same rfl (.same rfl (.same rfl (.same rfl (.same rfl (.same rfl (.same rfl (.same rfl (.same rfl (.same rfl (.same rfl (.same rfl (.same rfl (.same rfl (.same rfl (.same rfl (.same rfl (.same rfl (.same rfl .nil))))))))))))))))))))))) (OK ()))
     refine c9.cut (γ:=Unit) 6 (Array.mk (true :: true :: true :: false :: false :: false :: false :: false :: false :: [])) (fun ON=> [(0,I.of (aa)),(1,I.of (aj)),(2,I.of (aP)),(3,I.of (bR)),(5,I.eq (.pointer (some ⟨aZ,0,none⟩))),(8,I.of (false)),(9,I.of (aJ)),(10,I.eq (.pointer (some ⟨bc,0,none⟩))),(16,I.of (!aG)),(28,I.of (aJ.isSome && bC.dC)),(33,I.of (cf.cB.isNone)),(39,I.of (aa)),(40,I.eq (.pointer (some ⟨b2,0,none⟩))),(41,I.eq (.pointer (some ⟨b2,0 + 1,none⟩))),(42,I.of (eH.cB)),(43,I.of (aa)),(44,I.of (aj)),(45,I.of (aP)),(46,I.gF 255 [I.ptr bh.1,I.ptr bh.2.1,I.ptr bh.2.2]),(68,I.of (s2.1)),(69,I.of (s2.1)),(70,I.of (bR))]) (fun ON=>(⟨some D,.dj⟩ :: ⟨some bc,.var (s2.1:Ref)⟩ :: ⟨some aZ,.var (aj:ar)⟩ :: aV s2.2)) (fun ON=> ?_) (fun I2=> ?_)
     ·clear h
      refine c9.step [3] (by kernel_rfl) rfl ⟨⟨_,rfl,?_⟩,trivial⟩
      ·refine bl (dD (eg (ab rfl) Fp)) ?_
       refine ah.nil ?_
       exact ae.any rfl (c9.le (.same rfl (.same rfl (.same rfl (.same rfl (.same rfl (.same rfl (.same rfl (.same rfl (.same rfl (.same rfl (.same rfl (.same rfl (.same rfl (.same rfl (.same rfl (.same rfl (.same rfl (.same rfl (.same rfl (.same rfl (.same rfl (.same rfl (.same rfl .nil))))))))))))))))))))))) (IC ()))
     refine c9.cut (γ:=Unit) 7 (Array.mk (false :: true :: true :: false :: false :: false :: false :: false :: false :: [])) (fun OO=> [(0,I.of (aa)),(1,I.of (aj)),(2,I.of (aP)),(3,I.of (bR)),(5,I.eq (.pointer (some ⟨aZ,0,none⟩))),(8,I.of (false)),(9,I.of (aJ)),(10,I.eq (.pointer (some ⟨bc,0,none⟩))),(16,I.of (!aG)),(28,I.of (aJ.isSome && bC.dC)),(33,I.of (cf.cB.isNone)),(39,I.of (aa)),(40,I.eq (.pointer (some ⟨b2,0,none⟩))),(41,I.eq (.pointer (some ⟨b2,0 + 1,none⟩))),(42,I.of (eH.cB)),(43,I.of (aa)),(44,I.of (aj)),(45,I.of (aP)),(46,I.gF 255 [I.ptr bh.1,I.ptr bh.2.1,I.ptr bh.2.2]),(69,I.of (s2.1)),(70,I.of (bR))]) (fun OO=>(⟨some D,.dj⟩ :: ⟨some bc,.var (s2.1:Ref)⟩ :: ⟨some aZ,.var (aj:ar)⟩ :: aV s2.2)) (fun OO=> ?_) (fun PD=> ?_)
     ·clear h
      refine c9.step [0] (by kernel_rfl) rfl ⟨⟨_,rfl,?_⟩,trivial⟩
      ·refine cG 1 dX ?_
       refine ah.nil ?_
       exact ae.any rfl (c9.le (.same rfl (.same rfl (.same rfl (.same rfl (.same rfl (.same rfl (.same rfl (.same rfl (.same rfl (.same rfl (.same rfl (.same rfl (.same rfl (.same rfl (.same rfl (.same rfl (.same rfl (.same rfl (.same rfl (.same rfl (.same rfl (.same rfl .nil)))))))))))))))))))))) (I2 ()))
     refine c9.cut (γ:=Unit) 7 (Array.mk (true :: false :: false :: true :: false :: false :: false :: false :: false :: [])) (fun OP=> [(0,I.of (aa)),(1,I.of (aj)),(2,I.of (aP)),(3,I.of (bR)),(5,I.eq (.pointer (some ⟨aZ,0,none⟩))),(8,I.of (false)),(9,I.of (aJ)),(10,I.eq (.pointer (some ⟨bc,0,none⟩))),(16,I.of (!aG)),(28,I.of (aJ.isSome && bC.dC)),(33,I.of (cf.cB.isNone)),(39,I.of (aa)),(40,I.eq (.pointer (some ⟨b2,0,none⟩))),(41,I.eq (.pointer (some ⟨b2,0 + 1,none⟩))),(42,I.of (eH.cB)),(43,I.of (aa)),(44,I.of (aj)),(45,I.of (aP)),(46,I.gF 255 [I.ptr bh.1,I.ptr bh.2.1,I.ptr bh.2.2]),(68,I.of (s2.1)),(71,I.eq (.pointer (some ⟨jZ,0,none⟩)))]) (fun OP=>(⟨some D,.dj⟩ :: ⟨some bc,.var (s2.1:Ref)⟩ :: ⟨some aZ,.var (aj:ar)⟩ :: aV s2.2)) (fun OP=> ?_) (fun Zs=> ?_)
     ·clear h
      refine c9.step [1,2,4] (by kernel_rfl) rfl ⟨⟨_,rfl,?_⟩,⟨_,rfl,?_⟩,⟨_,rfl,?_⟩,trivial⟩
      ·refine cG 1 dX ?_
       refine ah.nil ?_
       exact ae.any rfl (c9.le (.same rfl (.same rfl (.same rfl (.same rfl (.same rfl (.same rfl (.same rfl (.same rfl (.same rfl (.same rfl (.same rfl (.same rfl (.same rfl (.same rfl (.same rfl (.same rfl (.same rfl (.same rfl (.same rfl (.same rfl (.same rfl (.same rfl .nil)))))))))))))))))))))) (PC ()))
      ·refine aD ?_
       refine ah.nil ?_
       exact ae.any rfl (c9.le (.same rfl (.same rfl (.same rfl (.same rfl (.same rfl (.same rfl (.same rfl (.same rfl (.same rfl (.same rfl (.same rfl (.same rfl (.same rfl (.same rfl (.same rfl (.same rfl (.same rfl (.same rfl (.same rfl (.same rfl (.same rfl (.same rfl .nil)))))))))))))))))))))) (OL ()))
      ·refine aY (aT qJ) ?_
       refine ah.nil ?_
       exact ae.any rfl (c9.le (.same rfl (.same rfl (.same rfl (.same rfl (.same rfl (.same rfl (.same rfl (.same rfl (.same rfl (.same rfl (.same rfl (.same rfl (.same rfl (.same rfl (.same rfl (.same rfl (.same rfl (.same rfl (.same rfl (.same rfl (.same rfl (.same rfl .nil)))))))))))))))))))))) (XW ()))
     refine c9.cut (γ:=Unit) 7 (Array.mk (true :: false :: true :: false :: false :: false :: false :: false :: false :: [])) (fun OQ=> [(0,I.of (aa)),(1,I.of (aj)),(2,I.of (aP)),(3,I.of (bR)),(5,I.eq (.pointer (some ⟨aZ,0,none⟩))),(8,I.of (false)),(9,I.of (aJ)),(10,I.eq (.pointer (some ⟨bc,0,none⟩))),(16,I.of (!aG)),(28,I.of (aJ.isSome && bC.dC)),(33,I.of (cf.cB.isNone)),(39,I.of (aa)),(40,I.eq (.pointer (some ⟨b2,0,none⟩))),(41,I.eq (.pointer (some ⟨b2,0 + 1,none⟩))),(42,I.of (eH.cB)),(43,I.of (aa)),(44,I.of (aj)),(45,I.of (aP)),(46,I.gF 255 [I.ptr bh.1,I.ptr bh.2.1,I.ptr bh.2.2]),(68,I.of (s2.1)),(70,I.of (bR))]) (fun OQ=>(⟨some D,.dj⟩ :: ⟨some bc,.var (s2.1:Ref)⟩ :: ⟨some aZ,.var (aj:ar)⟩ :: aV s2.2)) (fun OQ=> ?_) (fun PE=> ?_)
     ·clear h
      refine c9.step [1,3] (by kernel_rfl) rfl ⟨⟨_,rfl,?_⟩,⟨_,rfl,?_⟩,trivial⟩
      ·refine cG 1 dX ?_
       refine ah.nil ?_
       exact ae.any rfl (c9.le (.same rfl (.same rfl (.same rfl (.same rfl (.same rfl (.same rfl (.same rfl (.same rfl (.same rfl (.same rfl (.same rfl (.same rfl (.same rfl (.same rfl (.same rfl (.same rfl (.same rfl (.same rfl (.same rfl (.same rfl (.same rfl (.same rfl .nil)))))))))))))))))))))) (I2 ()))
      ·refine bl (dD (eg (ab rfl) Fp)) ?_
       refine ah.nil ?_
       exact ae.any rfl (c9.le (.same rfl (.same rfl (.same rfl (.same rfl (.same rfl (.same rfl (.same rfl (.same rfl (.same rfl (.same rfl (.same rfl (.same rfl (.same rfl (.same rfl (.same rfl (.same rfl (.same rfl (.same rfl (.same rfl (.same rfl (.same rfl (.same rfl .nil)))))))))))))))))))))) (OL ()))
     refine c9.cut (γ:=Unit) 7 (Array.mk (true :: true :: false :: false :: false :: false :: false :: false :: false :: [])) (fun OR=> [(0,I.of (aa)),(1,I.of (aj)),(2,I.of (aP)),(3,I.of (bR)),(5,I.eq (.pointer (some ⟨aZ,0,none⟩))),(8,I.of (false)),(9,I.of (aJ)),(10,I.eq (.pointer (some ⟨bc,0,none⟩))),(16,I.of (!aG)),(28,I.of (aJ.isSome && bC.dC)),(33,I.of (cf.cB.isNone)),(39,I.of (aa)),(40,I.eq (.pointer (some ⟨b2,0,none⟩))),(41,I.eq (.pointer (some ⟨b2,0 + 1,none⟩))),(42,I.of (eH.cB)),(43,I.of (aa)),(44,I.of (aj)),(45,I.of (aP)),(46,I.gF 255 [I.ptr bh.1,I.ptr bh.2.1,I.ptr bh.2.2]),(68,I.of (s2.1)),(69,I.of (s2.1))]) (fun OR=>(⟨some D,.dj⟩ :: ⟨some bc,.var (s2.1:Ref)⟩ :: ⟨some aZ,.var (aj:ar)⟩ :: aV s2.2)) (fun OR=> ?_) (fun PF=> ?_)
     ·clear h
      refine c9.step [2,3] (by kernel_rfl) rfl ⟨⟨_,rfl,?_⟩,⟨_,rfl,?_⟩,trivial⟩
      ·refine aD ?_
       refine ah.nil ?_
       exact ae.any rfl (c9.le (.same rfl (.same rfl (.same rfl (.same rfl (.same rfl (.same rfl (.same rfl (.same rfl (.same rfl (.same rfl (.same rfl (.same rfl (.same rfl (.same rfl (.same rfl (.same rfl (.same rfl (.same rfl (.same rfl (.same rfl (.same rfl (.same rfl .nil)))))))))))))))))))))) (I2 ()))
      ·refine bl (dD (eg (ab rfl) Fp)) ?_
       refine ah.nil ?_
       exact ae.any rfl (c9.le (.same rfl (.same rfl (.same rfl (.same rfl (.same rfl (.same rfl (.same rfl (.same rfl (.same rfl (.same rfl (.same rfl (.same rfl (.same rfl (.same rfl (.same rfl (.same rfl (.same rfl (.same rfl (.same rfl (.same rfl (.same rfl (.same rfl .nil)))))))))))))))))))))) (PC ()))
     refine c9.cut (γ:=Unit) 8 (Array.mk (false :: false :: true :: false :: false :: false :: false :: false :: false :: [])) (fun OS=> [(0,I.of (aa)),(1,I.of (aj)),(2,I.of (aP)),(3,I.of (bR)),(5,I.eq (.pointer (some ⟨aZ,0,none⟩))),(8,I.of (false)),(9,I.of (aJ)),(10,I.eq (.pointer (some ⟨bc,0,none⟩))),(16,I.of (!aG)),(28,I.of (aJ.isSome && bC.dC)),(33,I.of (cf.cB.isNone)),(39,I.of (aa)),(40,I.eq (.pointer (some ⟨b2,0,none⟩))),(41,I.eq (.pointer (some ⟨b2,0 + 1,none⟩))),(42,I.of (eH.cB)),(43,I.of (aa)),(44,I.of (aj)),(45,I.of (aP)),(46,I.gF 255 [I.ptr bh.1,I.ptr bh.2.1,I.ptr bh.2.2]),(70,I.of (bR))]) (fun OS=>(⟨some D,.dj⟩ :: ⟨some bc,.var (s2.1:Ref)⟩ :: ⟨some aZ,.var (aj:ar)⟩ :: aV s2.2)) (fun OS=> ?_) (fun Zt=> ?_)
     ·clear h
      refine c9.step [0,1] (by kernel_rfl) rfl ⟨⟨_,rfl,?_⟩,⟨_,rfl,?_⟩,trivial⟩
      ·refine cG 1 dX ?_
       refine ah.nil ?_
       exact ae.any rfl (c9.le (.same rfl (.same rfl (.same rfl (.same rfl (.same rfl (.same rfl (.same rfl (.same rfl (.same rfl (.same rfl (.same rfl (.same rfl (.same rfl (.same rfl (.same rfl (.same rfl (.same rfl (.same rfl (.same rfl (.same rfl (.same rfl .nil))))))))))))))))))))) (PE ()))
      ·refine cG 1 dX ?_
       refine ah.nil ?_
       exact ae.any rfl (c9.le (.same rfl (.same rfl (.same rfl (.same rfl (.same rfl (.same rfl (.same rfl (.same rfl (.same rfl (.same rfl (.same rfl (.same rfl (.same rfl (.same rfl (.same rfl (.same rfl (.same rfl (.same rfl (.same rfl (.same rfl (.same rfl .nil))))))))))))))))))))) (PD ()))
     refine c9.cut (γ:=Unit) 8 (Array.mk (false :: true :: false :: false :: false :: false :: false :: false :: false :: [])) (fun OT=> [(0,I.of (aa)),(1,I.of (aj)),(2,I.of (aP)),(3,I.of (bR)),(5,I.eq (.pointer (some ⟨aZ,0,none⟩))),(8,I.of (false)),(9,I.of (aJ)),(10,I.eq (.pointer (some ⟨bc,0,none⟩))),(16,I.of (!aG)),(28,I.of (aJ.isSome && bC.dC)),(33,I.of (cf.cB.isNone)),(39,I.of (aa)),(40,I.eq (.pointer (some ⟨b2,0,none⟩))),(41,I.eq (.pointer (some ⟨b2,0 + 1,none⟩))),(42,I.of (eH.cB)),(43,I.of (aa)),(44,I.of (aj)),(45,I.of (aP)),(46,I.gF 255 [I.ptr bh.1,I.ptr bh.2.1,I.ptr bh.2.2]),(69,I.of (s2.1))]) (fun OT=>(⟨some D,.dj⟩ :: ⟨some bc,.var (s2.1:Ref)⟩ :: ⟨some aZ,.var (aj:ar)⟩ :: aV s2.2)) (fun OT=> ?_) (fun Zu=> ?_)
     ·clear h
      refine c9.step [0,2] (by kernel_rfl) rfl ⟨⟨_,rfl,?_⟩,⟨_,rfl,?_⟩,trivial⟩
      ·refine cG 1 dX ?_
       refine ah.nil ?_
       exact ae.any rfl (c9.le (.same rfl (.same rfl (.same rfl (.same rfl (.same rfl (.same rfl (.same rfl (.same rfl (.same rfl (.same rfl (.same rfl (.same rfl (.same rfl (.same rfl (.same rfl (.same rfl (.same rfl (.same rfl (.same rfl (.same rfl (.same rfl .nil))))))))))))))))))))) (PF ()))
      ·refine aD ?_
       refine ah.nil ?_
       exact ae.any rfl (c9.le (.same rfl (.same rfl (.same rfl (.same rfl (.same rfl (.same rfl (.same rfl (.same rfl (.same rfl (.same rfl (.same rfl (.same rfl (.same rfl (.same rfl (.same rfl (.same rfl (.same rfl (.same rfl (.same rfl (.same rfl (.same rfl .nil))))))))))))))))))))) (PD ()))
     refine c9.cut (γ:=Unit) 8 (Array.mk (true :: false :: false :: false :: false :: false :: false :: false :: false :: [])) (fun OU=> [(0,I.of (aa)),(1,I.of (aj)),(2,I.of (aP)),(3,I.of (bR)),(5,I.eq (.pointer (some ⟨aZ,0,none⟩))),(8,I.of (false)),(9,I.of (aJ)),(10,I.eq (.pointer (some ⟨bc,0,none⟩))),(16,I.of (!aG)),(28,I.of (aJ.isSome && bC.dC)),(33,I.of (cf.cB.isNone)),(39,I.of (aa)),(40,I.eq (.pointer (some ⟨b2,0,none⟩))),(41,I.eq (.pointer (some ⟨b2,0 + 1,none⟩))),(42,I.of (eH.cB)),(43,I.of (aa)),(44,I.of (aj)),(45,I.of (aP)),(46,I.gF 255 [I.ptr bh.1,I.ptr bh.2.1,I.ptr bh.2.2]),(68,I.of (s2.1))]) (fun OU=>(⟨some D,.dj⟩ :: ⟨some bc,.var (s2.1:Ref)⟩ :: ⟨some aZ,.var (aj:ar)⟩ :: aV s2.2)) (fun OU=> ?_) (fun Zv=> ?_)
     ·clear h
      refine c9.step [1,2,3] (by kernel_rfl) rfl ⟨⟨_,rfl,?_⟩,⟨_,rfl,?_⟩,⟨_,rfl,?_⟩,trivial⟩
      ·refine cG 1 dX ?_
       refine ah.nil ?_
       exact ae.any rfl (c9.le (.same rfl (.same rfl (.same rfl (.same rfl (.same rfl (.same rfl (.same rfl (.same rfl (.same rfl (.same rfl (.same rfl (.same rfl (.same rfl (.same rfl (.same rfl (.same rfl (.same rfl (.same rfl (.same rfl (.same rfl (.same rfl .nil))))))))))))))))))))) (PF ()))
      ·refine aD ?_
       refine ah.nil ?_
       exact ae.any rfl (c9.le (.same rfl (.same rfl (.same rfl (.same rfl (.same rfl (.same rfl (.same rfl (.same rfl (.same rfl (.same rfl (.same rfl (.same rfl (.same rfl (.same rfl (.same rfl (.same rfl (.same rfl (.same rfl (.same rfl (.same rfl (.same rfl .nil))))))))))))))))))))) (PE ()))
      ·refine bl (dD (eg (ab rfl) Fp)) ?_
       refine ah.nil ?_
       exact ae.any rfl (c9.le (.same rfl (.same rfl (.same rfl (.same rfl (.same rfl (.same rfl (.same rfl (.same rfl (.same rfl (.same rfl (.same rfl (.same rfl (.same rfl (.same rfl (.same rfl (.same rfl (.same rfl (.same rfl (.same rfl (.same rfl (.same rfl .nil))))))))))))))))))))) (Zs ()))
     refine c9.step [0,1,2] (by kernel_rfl) rfl ⟨⟨_,rfl,?_⟩,⟨_,rfl,?_⟩,⟨_,rfl,?_⟩,trivial⟩
     ·refine cG 1 dX ?_
      refine ah.nil ?_
      exact ae.any rfl (c9.le (.same rfl (.same rfl (.same rfl (.same rfl (.same rfl (.same rfl (.same rfl (.same rfl (.same rfl (.same rfl (.same rfl (.same rfl (.same rfl (.same rfl (.same rfl (.same rfl (.same rfl (.same rfl (.same rfl (.same rfl .nil)))))))))))))))))))) (Zv ()))
     ·refine cG 1 dX ?_
      refine ah.nil ?_
      exact ae.any rfl (c9.le (.same rfl (.same rfl (.same rfl (.same rfl (.same rfl (.same rfl (.same rfl (.same rfl (.same rfl (.same rfl (.same rfl (.same rfl (.same rfl (.same rfl (.same rfl (.same rfl (.same rfl (.same rfl (.same rfl (.same rfl .nil)))))))))))))))))))) (Zu ()))
     ·refine aD ?_
      refine ah.nil ?_
      exact ae.any rfl (c9.le (.same rfl (.same rfl (.same rfl (.same rfl (.same rfl (.same rfl (.same rfl (.same rfl (.same rfl (.same rfl (.same rfl (.same rfl (.same rfl (.same rfl (.same rfl (.same rfl (.same rfl (.same rfl (.same rfl (.same rfl .nil)))))))))))))))))))) (Zt ()))
    ·exact Empty.elim c7
   ·refine ag.cz ?_
    refine aD ?_
    refine hC OF OG (default:dx) .nil ?_
    refine ah.Bo 1 rfl (Cell.fQ (default:dx)) (fun _=>rfl) (ab rfl) rfl fun dc BP=> ?_
    replace h:=ax.tg h dc BP
    refine bl (dD (eg (ab rfl) eZ)) ?_
    refine aY (aT rO) ?_
    obtain⟨CF,Fs,h⟩:=ax.cv h
    obtain⟨po,I3,h⟩:=ax.cv h
    refine ah.nQ (k':=Cell.jy ({ CF with cB:=(some dc.1:Ref) } :fv)) 1 rfl ((aN.id fv).comp ry) (v:=((some dc.1:Ref):Ref)) dX (ab rfl) (ab rfl) (mb Fs) rfl rfl rfl rfl (aI I3) ?_
    refine ah.nil ?_
    exact dp 0 (hm po () h)
   ·refine ag.skip ?_
    exact dp 0 (hm hp () h)
theorem RN {hp:aS Cell} {aa:gz} {aj:bu} {r:Int × Bool} (h:zv hp aa aj=some r):bM Tryz.prog 235 [I.of (aa),I.of (aj)] ([] ++ aV hp) (δ:=Unit) (fun _=>I.ed [I.of (r.1),I.of (r.2)]) (fun _=> [] ++ aV hp):=by
 unfold zv at h
 refine bM.of Tryz.func235 rfl Tryz.ntmps235 rfl fun W A=> ?_
 refine aF ?_
 refine cj fun aZ=> ?_
 refine cj fun bc=> ?_
 refine aL ?_
 refine aL ?_
 refine b0 ?_
 refine cG 1 Bd ?_
 refine cG 0 hf ?_
 obtain⟨aG,bo,h⟩:=aw h
 refine e6 ID (Gg bo) ?_
 refine aD ?_
 refine gr ?_
 refine gr ?_
 refine gr ?_
 refine c1 vy fun cC=> ?_
 refine c1 ek fun fm=> ?_
 refine cA 1 j7 ?_
 refine cA 0 bQ ?_
 refine aL ?_
 refine bO ?_
 obtain⟨ca,dh,h⟩:=aw h
 obtain⟨bC,dP,h⟩:=aw h
 obtain⟨bE,dE,h⟩:=aw h
 obtain⟨aJ,cr,h⟩:=aw h
 refine iz [0,1,2,3,6,7,8,9,10,11,12,13,14,15] ?_
 refine ag.pP 4 mixed (a6 16 [] [] _ :: a6 17 (0 :: []) (3 :: []) _ :: a6 18 [] (1 :: []) _ :: ⟨some 19,(1 :: 2 :: []),[],[],fun _=>I.of (bE),fun _ _=>⟨none,.dead⟩⟩ :: a6 20 [] (0 :: []) _ :: a6 21 [] [] _ :: ⟨some 22,(3 :: 4 :: 5 :: []),[],[],fun _=>I.ed [I.of (aJ.1),I.of (aJ.2)],fun _ _=>⟨none,.dead⟩⟩ :: a6 23 (6 :: []) [] _ :: a6 24 (6 :: []) [] _ :: a6 4 (7 :: []) [] _ :: a6 5 (8 :: []) [] _ :: []) _ (0 :: 1 :: 2 :: 3 :: 6 :: 7 :: 8 :: 9 :: 10 :: 11 :: 12 :: 13 :: 14 :: 15 :: []) rfl rfl (by kernel_rfl) (by kernel_rfl) ⟨ct.q (fe (aT rP)),ct.q (n6 3 qz qX),ct.q (lW 1 j7),?_,ct.q (lW 0 bQ),ct.q (e2),?_,ct.q (b8 fun hd E' L' aB al=>lq (ab (aB _ _ rfl)) rfl),ct.q (b8 fun hd E' L' aB al=>lq (ab (aB _ _ rfl)) rfl),ct.q (b8 fun hd E' L' aB al=>eB (ab (aB _ _ rfl))),ct.q (b8 fun hd E' L' aB al=>eB (ab (aB _ _ rfl))),trivial⟩ fun eP=> ?_
 ·intro hd E' L' aB al de
  refine bl (vb (r:=bE) Tryz.underlying167 tD yf (l7 (ab (aB _ _ rfl)) dh) (ab (aB _ _ rfl)) (eM (n:=4) (de.trans rfl) (mc dP) rfl) (aI dE)) ?_
  refine ah.nil ?_
  exact ae.fin (dY []) rfl rfl
 ·intro hd E' L' aB al de
  refine ah.iM (fG.jd 4 (de.trans rfl) OV (Lf cr) ⟨ab (aB _ _ rfl),ab (aB _ _ rfl),ab (aB _ _ rfl),trivial⟩) rfl rfl rfl ?_
  refine ah.nil ?_
  exact ae.fin (dY []) rfl rfl
 refine ae.dR (L2:=(⟨some fm,.var (aG.2.1:ar)⟩ :: ⟨some cC,.var (aG.1:Vector ar 4)⟩ :: ⟨some bc,.var (aj:bu)⟩ :: ⟨some aZ,.var (aa:gz)⟩ :: aV hp)) rfl ?_
 refine jC [0,1,2,3,4,5,6,7,8,9,10,11,12,13,14,15,16,17,18,19,20,21,22,23,24] ?_
 refine ae.next ?_
 refine ag.ret ?_
 obtain rfl:=aI h
 exact ae.ky () (.cons _ (.cons _ (.cons _ (.cons _ (.refl _))))) rfl rfl (dv rfl) (dv rfl)
theorem RW {hp:aS Cell} {aa:gz} {aj:aA} {Q:(aS Cell)→Prop} (h:zD hp aa aj Q):bM Tryz.prog 237 [I.of (aa),I.of (aj)] ([] ++ aV hp) (δ:= {r:(aS Cell) // Q r} × Unit) (fun d=>I.ed []) (fun d=> [] ++ aV d.1.1):=by
 unfold zD at h
 refine bM.of Tryz.func237 rfl Tryz.ntmps237 rfl fun W A=> ?_
 refine aF ?_
 refine cj fun aZ=> ?_
 refine cj fun bc=> ?_
 refine b0 ?_
 refine cG 1 Bd ?_
 refine aY (aT ll) ?_
 refine cq 0 kq hf ?_
 obtain⟨aG,bo,h⟩:=ax.cv h
 refine e6 ID (Gg bo) ?_
 refine aD ?_
 refine gr ?_
 refine gr ?_
 refine gr ?_
 refine c1 vy fun cC=> ?_
 refine c1 ek fun fm=> ?_
 refine cA 1 j7 ?_
 refine cA 0 bQ ?_
 refine aL ?_
 refine bO ?_
 refine aF ?_
 refine aY (aT rP) ?_
 refine cq 3 qz qX ?_
 refine cG 1 j7 ?_
 obtain⟨ca,dh,h⟩:=ax.cv h
 obtain⟨bC,dP,h⟩:=ax.cv h
 obtain⟨bE,dE,h⟩:=ax.cv h
 refine bl (vb (r:=bE) Tryz.underlying167 tD yf (l7 (ab rfl) dh) (ab rfl) (eM (n:=4) rfl (mc dP) rfl) (aI dE)) ?_
 refine bl (mE Tryz.underlying321 (ab rfl)) ?_
 refine aK ?_
 refine ag.xX (γ:=Unit) h (fun bp aq=> [(0,I.of (aa)),(1,I.of (aj)),(2,I.eq (.pointer (some ⟨aZ,0,none⟩))),(3,I.eq (.pointer (some ⟨bc,0,none⟩))),(4,I.eq (.pointer (some ⟨cC,0,none⟩))),(5,I.eq (.pointer (some ⟨fm,0,none⟩))),(6,I.of (aG.2.2)),(19,I.of (bE.isNone))]) (fun bp aq=>(⟨some fm,.var (aG.2.1:ar)⟩ :: ⟨some cC,.var (aG.1:Vector ar 4)⟩ :: ⟨some bc,.var (aj:aA)⟩ :: ⟨some aZ,.var (aa:gz)⟩ :: aV bp)) (ab rfl) (fun bp aq h=> ?_) (fun hm ak h=> ?_) (fun hm ak h=> ?_)
 ·refine ae.next ?_
  obtain⟨cf,fk,h⟩:=ax.cv h
  obtain⟨dt,hD,h⟩:=ax.cv h
  refine ag.draw mixed 8 [some 26,some 27,some 28,some 29,some 30,some 31,some 32,some 33] [[],[0],[],[1,2],[],[],[],[6]] [.val _,.val _,.val _,.val _,.val _,.val _,.val _,.val _] [false,false,false,false,false,false,false,false] (by kernel_rfl) rfl rfl rfl (fun da=>⟨H1 (aT rP),dz 3 qz qX,fy 1 j7,dO fun L' al=>vb (r:=dt) Tryz.underlying167 tD yf (l7 (ab rfl) dh) (ab rfl) (kc (fun i e q=>al i e q rfl) (eM (n:=4) rfl (mc fk) rfl)) (aI hD),fy 0 bQ,cZ,H1 (aT nR),dz 2 mD bF,trivial⟩) fun da=> ?_
  refine ah.iR 4 0 rfl XX (Sw h) rfl rfl ⟨ab rfl,ab rfl,ab rfl,ab rfl,trivial⟩ rfl fun⟨⟨aJ,h⟩,az⟩=> ?_
  refine ah.dR (L2:=(⟨some fm,.var (aG.2.1:ar)⟩ :: ⟨some cC,.var (aG.1:Vector ar 4)⟩ :: ⟨some bc,.var (aj:aA)⟩ :: ⟨some aZ,.var (aa:gz)⟩ :: aV aJ.2)) rfl ?_
  refine ah.nil ?_
  refine ae.nd ?_
  exact ae.kU (⟨⟨aJ.2,h⟩,()⟩: {r // _} × _) (.cons _ (.cons _ (.cons _ (.cons _ (.refl _))))) rfl rfl
 ·obtain⟨aaA,Zw,Zx⟩:=ax.ex h
  refine Wd mixed 6 5 25 _ (K:=aaA) [some (20,I.eq (.pointer (some ⟨aZ,0 + 2,none⟩))),some (21,I.of (aa.nN)),some (22,I.of (aG.1)),some (23,I.eq (.pointer (some ⟨aZ,0 + 1,none⟩))),some (24,I.of (aa.fw)),none] _ [[],[0],[],[],[3],[4]] _ (fun bh=>I.of (bh.1)) (fun bh=>(⟨some fm,.var (aG.2.1:ar)⟩ :: ⟨some cC,.var (aG.1:Vector ar 4)⟩ :: ⟨some bc,.var (aj:aA)⟩ :: ⟨some aZ,.var (aa:gz)⟩ :: aV bh.2)) rfl rfl rfl rfl rfl rfl (by kernel_rfl) ⟨⟨aT rP (ab rfl),fun bh tM=>aT rP (ab rfl)⟩,⟨eA (i:=3) ((aN.id gz).comp qz) (r:=aa.nN) qX (ab rfl) rfl rfl rfl,fun bh tM=>eA (i:=3) ((aN.id gz).comp qz) (r:=aa.nN) qX (ab rfl) rfl rfl rfl⟩,⟨eA (i:=1) (aN.id (Vector ar 4)) (r:=aG.1) j7 (ab rfl) rfl rfl rfl,fun bh tM=>eA (i:=1) (aN.id (Vector ar 4)) (r:=aG.1) j7 (ab rfl) rfl rfl rfl⟩,⟨aT Hy (ab rfl),fun bh tM=>aT Hy (ab rfl)⟩,⟨eA (i:=3) ((aN.id gz).comp C2) (r:=aa.fw) bF (ab rfl) rfl rfl rfl,fun bh tM=>eA (i:=3) ((aN.id gz).comp C2) (r:=aa.fw) bF (ab rfl) rfl rfl rfl⟩,trivial⟩ (fun bm y1 aB bY=> ?_) (fun bh tM=> ?_)
  ·refine ah.iR 4 0 rfl XY (Ts Zw) rfl rfl ⟨ab (aB rfl),trivial⟩ rfl fun⟨⟨bh,tM⟩,_⟩=> ?_
   refine ah.dR (L2:=(⟨some fm,.var (aG.2.1:ar)⟩ :: ⟨some cC,.var (aG.1:Vector ar 4)⟩ :: ⟨some bc,.var (aj:aA)⟩ :: ⟨some aZ,.var (aa:gz)⟩ :: aV bh.2)) rfl ?_
   refine ah.nil ?_
   exact bY bh tM
  have h:=Zx bh tM
  refine ah.le (E':= [(0,I.of (aa)),(1,I.of (aj)),(2,I.eq (.pointer (some ⟨aZ,0,none⟩))),(3,I.eq (.pointer (some ⟨bc,0,none⟩))),(4,I.eq (.pointer (some ⟨cC,0,none⟩))),(5,I.eq (.pointer (some ⟨fm,0,none⟩))),(6,I.of (aG.2.2)),(7,I.ed [I.of (aG.1),I.of (aG.2.1),I.of (aG.2.2)]),(8,I.of (aa)),(9,I.eq (.pointer (some ⟨bc,0 + 0,none⟩))),(10,I.of (aj.bA)),(11,I.ed [I.of (aG.1),I.of (aG.2.1),I.of (aG.2.2)]),(12,I.of (aG.1)),(13,I.of (aG.2.1)),(14,I.of (aG.2.2)),(15,I.eq (.pointer (some ⟨aZ,0 + 2,none⟩))),(16,I.of (aa.nN)),(17,I.of (aG.1)),(18,I.of (bE)),(19,I.of (bE.isNone)),(20,I.eq (.pointer (some ⟨aZ,0 + 2,none⟩))),(21,I.of (aa.nN)),(22,I.of (aG.1)),(23,I.eq (.pointer (some ⟨aZ,0 + 1,none⟩))),(24,I.of (aa.fw)),(25,I.of (bh.1))]) (.same rfl (.same rfl (.same rfl (.same rfl (.same rfl (.same rfl (.same rfl (.same rfl (.same rfl (.same rfl (.same rfl (.same rfl (.same rfl (.same rfl (.same rfl (.same rfl (.same rfl (.same rfl (.same rfl (.same rfl (.same rfl (.same rfl (.same rfl (.same rfl (.same rfl (.same rfl .nil)))))))))))))))))))))))))) ?_
  obtain⟨eH,lv,h⟩:=ax.cv h
  obtain⟨cS,kz,h⟩:=ax.cv h
  refine ah.Ir (k':=Cell.lS (gO eH aG.1 bh.1)) 4 rfl (by first | exact .inl rfl | exact .inr rfl) Tryz.underlying167 tD (l7 (ab rfl) dh) (ab rfl) (ab rfl) (mc lv) rfl rfl rfl (aI kz) ?_
  refine ah.nil ?_
  exact dp 0 (hm cS () h)
 ·refine ag.skip ?_
  exact dp 0 (hm hp () h)
theorem Q5 {aa aP:List aA} {aj:Int} {g2 OW:Option Nat} {dQ vI:Nat} {r:List aA} (h:CZ aa aj aP=some r):bM Tryz.prog 275 [I.eq (a2 g2 aa.length dQ),I.of aj,I.eq (a2 OW aP.length vI)] [⟨g2,.row 52 aa dQ⟩,⟨OW,.row 52 aP vI⟩] (δ:=(Option Nat × Nat)) (fun d=>I.eq (a2 d.1 r.length d.2)) (fun d=> [⟨d.1,.row 52 r d.2⟩]):=by
 unfold CZ at h
 obtain⟨k,rfl,ay,a0,mq,lB,rfl⟩:=TT h
 refine bM.of Tryz.func275 rfl Tryz.ntmps275 rfl fun W A=> ?_
 refine ag.seq ?_
 refine ag.cz ?_
 refine ah.v (eB rG) rfl rfl rfl ?_
 refine ah.nil ?_
 refine ae.next ?_
 refine ag.seq ?_
 refine ag.cz ?_
 refine ah.v (cM (ab rfl)) rfl rfl rfl ?_
 refine ah.v (cM (ab rfl)) rfl rfl rfl ?_
 refine ah.v (DW (i:=0) (xs:=aa) Tryz.underlying38 cg (ab rfl) rfl (.some (ab rfl)) .none rfl rfl ⟨ay,Nat.le_refl _⟩) rfl rfl rfl ?_
 refine ah.nil ?_
 refine ae.next ?_
 refine ag.seq ?_
 refine ag.cz ?_
 refine ah.v (cM (ab rfl)) rfl rfl rfl ?_
 refine ah.v (pL (i:=1) (xs:=aP) Tryz.underlying38 (ab rfl) rfl rfl) rfl rfl rfl ?_
 refine ah.v (eB (ab rfl)) rfl rfl rfl ?_
 refine ah.nil ?_
 refine ae.next ?_
 refine ag.seq ?_
 refine ag.seq ?_
 refine ag.cz ?_
 refine ah.v (cM (ab rfl)) rfl rfl rfl ?_
 refine ah.v (gN (ab rfl) (bP 0)) rfl rfl rfl ?_
 refine ah.nil ?_
 refine ae.next ?_
 refine ag.cond (ab rfl) (fun ak=> ?_) (fun _=> ?_)
 ·exfalso; simp only [beq_iff_eq] at ak; omega
 refine ag.skip ?_
 refine ae.next ?_
 refine ag.seq ?_
 refine ag.cz ?_
 refine ah.v (cM (ab rfl)) rfl rfl rfl ?_
 refine ah.v (pL (i:=0) (xs:=aa) Tryz.underlying38 (ab rfl) rfl rfl) rfl rfl rfl ?_
 refine ah.v (eB (ab rfl)) rfl rfl rfl ?_
 refine ah.nil ?_
 refine ae.next ?_
 refine ag.seq ?_
 refine ag.seq ?_
 refine ag.cz ?_
 refine ah.v (cM (ab rfl)) rfl rfl rfl ?_
 refine ah.v (cM (ab rfl)) rfl rfl rfl ?_
 refine ah.v (gN (ab rfl) (ab rfl)) rfl rfl rfl ?_
 refine ah.nil ?_
 refine ae.next ?_
 refine ag.cond (ab rfl) (fun ak=> ?_) (fun ak=> ?_)
 ·have jU:k=aa.length:=by simp only [beq_iff_eq] at ak; omega
  subst jU
  refine ag.seq ?_
  refine ag.cz ?_
  refine ah.v (cM (ab rfl)) rfl rfl rfl ?_
  refine ah.m7 (α:=aA) 1 [2,13] ⟨rfl,rfl,trivial⟩ rfl ?_
  refine ah.v (cM (ab rfl)) rfl rfl rfl ?_
  refine ah.app (i:=0) (xs:=aa) (ys:=aP) (r:=aa ++ aP) Tryz.underlying38 cg gh (by kernel_rfl) (ab rfl) rfl (ab rfl) (by unfold hA; rw [if_pos ⟨mq,lB⟩]) rfl fun g3 fC=> ?_
  refine ah.v (eB (ab rfl)) rfl rfl rfl ?_
  refine ah.nil ?_
  refine ae.next ?_
  refine ag.ret ?_
  have aR:aa.take aa.length ++ aP ++ aa.drop aa.length=aa ++ aP:=by simp
  rw [aR]
  exact ae.fi (g3,fC) (.cons_cons _ (List.nil_sublist _)) rfl rfl (dv rfl)
 have jU:k < aa.length:=by simp only [beq_eq_false_iff_ne] at ak; omega
 refine ag.skip ?_
 refine ae.next ?_
 refine ag.some (i:=0) (xs:=aa) rfl (by omega) fun p hp tJ wi=> ?_
 subst hp
 refine ag.some (i:=1) (xs:=aP) rfl (by omega) fun q hq aco acr=> ?_
 subst hq
 refine ag.apart rfl fun tZ=> ?_
 refine ag.seq ?_
 refine ag.seq ?_
 refine ag.cz ?_
 refine ah.v (cM (ab rfl)) rfl rfl rfl ?_
 refine ah.v (cM (ab rfl)) rfl rfl rfl ?_
 refine ah.v (dI (ab rfl) (ab rfl)) rfl rfl rfl ?_
 refine ah.v (cM (ab rfl)) rfl rfl rfl ?_
 refine ah.v (We Tryz.underlying38 (ab rfl)) rfl rfl rfl ?_
 refine ah.v (pO (ab rfl) (ab rfl)) rfl rfl rfl ?_
 refine ah.nil ?_
 refine ae.next ?_
 have hw:bq ((aa.length:Int) + (aP.length:Int))=((aa.length + aP.length:Nat):Int):=by
  have mT:maxLen=9223372036854775807:=rfl
  rw [g9 (by omega) (by omega)]; simp
 refine ag.cond (ab rfl) (fun fk=> ?_) (fun fk=> ?_)
 ·have yg:dQ < aa.length + aP.length:=by rw [hw] at fk; simp only [decide_eq_true_eq] at fk; omega
  have mT:maxLen=9223372036854775807:=rfl
  have aH:bq (bq ((aa.length:Int) + (aP.length:Int)) - (k:Int))=((aa.length + aP.length - k:Nat):Int):=by
   rw [hw,g9 (by omega) (by omega)]; omega
  refine ag.seq ?_
  refine ag.cz ?_
  refine ah.v (cM (ab rfl)) rfl rfl rfl ?_
  refine ah.v (cM (ab rfl)) rfl rfl rfl ?_
  refine ah.v (DW (i:=0) (xs:=aa) Tryz.underlying38 cg (ab rfl) rfl .none (.some (ab rfl)) rfl rfl ⟨Nat.zero_le _,ay⟩) rfl rfl rfl ?_
  refine ah.v (cM (ab rfl)) rfl rfl rfl ?_
  refine ah.v (cM (ab rfl)) rfl rfl rfl ?_
  refine ah.v (dI (ab rfl) (ab rfl)) rfl rfl rfl ?_
  refine ah.v (cM (ab rfl)) rfl rfl rfl ?_
  refine ah.v (ix (ab rfl) (ab rfl)) rfl rfl rfl ?_
  refine ah.Zy (i:=0) (m:=k) (k:=aa.length + aP.length - k) (xs:=aa) (z:=(default:aA)) Tryz.underlying38 Tryz.underlying3 cg gh (by rfl) (by kernel_rfl) (ab rfl) (by rw [← aH]; exact ab rfl) rfl ay (by omega) (by omega) (by rw [show k + (aa.length + aP.length - k)=aa.length + aP.length by omega]; exact mq) (by omega) rfl fun az fC=> ?_
  refine ah.v (eB (ab rfl)) rfl rfl rfl ?_
  refine ah.nil ?_
  refine ae.next ?_
  have hlen:(aa.take k ++ List.replicate (aa.length + aP.length - k) (default:aA)).length=aa.length + aP.length:=by simp; omega
  refine ag.some (i:=0) (xs:=aa.take k ++ List.replicate (aa.length + aP.length - k) (default:aA)) rfl (by omega) fun c7 n7 XZ acs=> ?_
  rw [hlen] at XZ
  refine ag.seq ?_
  refine ag.cz ?_
  refine ah.v (cM (ab rfl)) rfl rfl rfl ?_
  refine ah.v (cM (ab rfl)) rfl rfl rfl ?_
  refine ah.v (rH (α:=aA) (m:=k) (h:=k + (aa.length + aP.length - k)) Tryz.underlying38 cg (ab rfl) (.some (ab rfl)) .none rfl rfl ⟨by omega,by omega⟩) rfl rfl rfl ?_
  refine ah.v (cM (ab rfl)) rfl rfl rfl ?_
  refine ah.EM (i:=0) (p:=az) (off:=k * ai.size aA) (dLen:=k + (aa.length + aP.length - k) - k) (dCap:=fC - k) (N:=aP.length) (vs:=aP) (T:=52) Tryz.underlying38 cg (by rw [← HA (by omega)]; exact ab rfl) (M5 (i:=2) (ab rfl) rfl a0) (Nat.min_eq_left (by omega)) rfl rfl (fun A W o cells h c0=>He (by omega) h c0) ?_
  refine ah.nil ?_
  refine ae.next ?_
  have av:(aa.take k ++ List.replicate (aa.length + aP.length - k) (default:aA)).take k ++ aP ++ (aa.take k ++ List.replicate (aa.length + aP.length - k) (default:aA)).drop (k + aP.length)=aa.take k ++ aP ++ List.replicate (aa.length - k) (default:aA):=by
   have iT:(aa.take k).length=k:=by rw [List.length_take]; omega
   rw [List.take_left' iT,List.drop_append,iT,List.drop_eq_nil_of_le (by omega),List.nil_append,List.drop_replicate]
   congr 2
   omega
  have ua:bq ((k:Int) + (aP.length:Int))=((k + aP.length:Nat):Int):=by rw [g9 (by omega) (by omega)]; simp
  refine ag.seq ?_
  refine ag.le (E':= [(0,I.eq (a2 (some p) aa.length dQ)),(1,I.of (k:Int)),(7,I.of (aP.length:Int)),(9,I.eq (a2 (some az) (k + (aa.length + aP.length - k)) fC))]) (.same rfl (.same rfl (.same rfl (.same rfl .nil)))) ?_
  refine ag.j8 mixed (⟨some 46,[],[],[],fun _=>I.eq (a2 (some az) (k + (aa.length + aP.length - k)) fC),fun _ _=>⟨none,.dead⟩⟩ :: ⟨some 47,[],[],[],fun _=>I.of (k:Int),fun _ _=>⟨none,.dead⟩⟩ :: ⟨some 48,[],[],[],fun _=>I.of (aP.length:Int),fun _ _=>⟨none,.dead⟩⟩ :: ⟨some 49,(1 :: 2 :: []),[],[],fun _=>I.of (bq ((k:Int) + (aP.length:Int))),fun _ _=>⟨none,.dead⟩⟩ :: ⟨some 50,(0 :: 3 :: []),[],[],fun _=>I.eq (hQ (some az) (k + aP.length) ((k + (aa.length + aP.length - k)) - (k + aP.length)) fC (ai.size aA)),fun _ _=>⟨none,.dead⟩⟩ :: ⟨some 51,[],[],[],fun _=>I.eq (a2 (some p) aa.length dQ),fun _ _=>⟨none,.dead⟩⟩ :: ⟨some 52,[],[],[],fun _=>I.of (k:Int),fun _ _=>⟨none,.dead⟩⟩ :: ⟨some 53,(5 :: 6 :: []),[],[],fun _=>I.eq (hQ (some p) k (aa.length - k) dQ (ai.size aA)),fun _ _=>⟨none,.dead⟩⟩ :: ⟨some 54,(4 :: 7 :: []),(0 :: 1 :: []),(0 :: []),fun _=>I.of ((((aa.drop k).take (aa.length - k)).length:Nat):Int),fun _ _=>⟨some az,.row 52 ((aa.take k ++ aP ++ List.replicate (aa.length - k) (default:aA)).take (k + aP.length) ++ (aa.drop k).take (aa.length - k) ++ (aa.take k ++ aP ++ List.replicate (aa.length - k) (default:aA)).drop (k + aP.length + ((aa.drop k).take (aa.length - k)).length)) fC⟩⟩ :: []) ((some 46,[],[],[]) :: (some 47,[],[],[]) :: (some 48,[],[],[]) :: (some 49,(1 :: 2 :: []),[],[]) :: (some 50,(0 :: 3 :: []),[],[]) :: (some 51,[],[],[]) :: (some 52,[],[],[]) :: (some 53,(5 :: 6 :: []),[],[]) :: (some 54,(4 :: 7 :: []),(0 :: 1 :: []),(0 :: [])) :: []) (0 :: 1 :: 7 :: 9 :: []) rfl rfl (by kernel_rfl) ⟨?_,?_,?_,?_,?_,?_,?_,?_,?_,trivial⟩ fun hd=> ?_
  ·exact im rfl rfl rfl fun hd E' L' aB al=>cM (ab (aB _ _ rfl))
  ·exact im rfl rfl rfl fun hd E' L' aB al=>cM (ab (aB _ _ rfl))
  ·exact im rfl rfl rfl fun hd E' L' aB al=>cM (ab (aB _ _ rfl))
  ·exact im rfl rfl rfl fun hd E' L' aB al=>dI (ab (aB _ _ rfl)) (ab (aB _ _ rfl))
  ·exact im rfl rfl rfl fun hd E' L' aB al=>rH (α:=aA) (m:=k + aP.length) (h:=(k + (aa.length + aP.length - k))) Tryz.underlying38 cg (ab (aB _ _ rfl)) (.some (ab (aB _ _ rfl))) .none ua rfl ⟨by omega,by omega⟩
  ·exact im rfl rfl rfl fun hd E' L' aB al=>cM (ab (aB _ _ rfl))
  ·exact im rfl rfl rfl fun hd E' L' aB al=>cM (ab (aB _ _ rfl))
  ·exact im rfl rfl rfl fun hd E' L' aB al=>rH (α:=aA) (m:=k) (h:=aa.length) Tryz.underlying38 cg (ab (aB _ _ rfl)) (.some (ab (aB _ _ rfl))) .none rfl rfl ⟨by omega,by omega⟩
  ·intro hd E' L' aB al
   have bI:=al 0 _ rfl rfl
   rw [av] at bI
   refine ah.EM (i:=0) (p:=az) (off:=(k + aP.length) * ai.size aA) (T:=52) (vs:=(aa.drop k).take (aa.length - k)) (N:=aa.length - k) (dLen:=(k + (aa.length + aP.length - k)) - (k + aP.length)) (dCap:=fC - (k + aP.length)) Tryz.underlying38 cg (by rw [← HA (p:=az) (lo:=k + aP.length) (cap:=fC) (size:=ai.size aA) (by omega)]; exact ab (aB _ _ rfl)) (D8 (i:=1) (ab (aB _ _ rfl)) (al 1 _ rfl rfl) (by omega) (by omega)) (by rw [show((aa.drop k).take (aa.length - k)).length=aa.length - k by simp]; exact Nat.min_eq_left (by omega)) bI rfl (fun A W o cells h c0=>He (by simp; omega) h c0) ?_
   refine ah.nil ?_
   exact ae.fin (dY []) rfl rfl
  have aX:((aa.take k ++ aP ++ List.replicate (aa.length - k) (default:aA)).take (k + aP.length) ++ (aa.drop k).take (aa.length - k) ++ (aa.take k ++ aP ++ List.replicate (aa.length - k) (default:aA)).drop (k + aP.length + ((aa.drop k).take (aa.length - k)).length))=aa.take k ++ aP ++ aa.drop k:=by
   have iT:(aa.take k ++ aP).length=k + aP.length:=by simp; omega
   have cX:(aa.drop k).take (aa.length - k)=aa.drop k:=List.take_of_length_le (by simp)
   have g4:(aa.take k ++ aP ++ List.replicate (aa.length - k) (default:aA)).drop (k + aP.length + (aa.drop k).length)= []:=List.drop_eq_nil_of_le (by rw [List.length_append,iT,List.length_replicate,List.length_drop]; omega)
   rw [cX,List.take_left' iT,g4,List.append_nil]
  refine ae.dR (L2:= [⟨some az,.row 52 ((aa.take k ++ aP ++ List.replicate (aa.length - k) (default:aA)).take (k + aP.length) ++ (aa.drop k).take (aa.length - k) ++ (aa.take k ++ aP ++ List.replicate (aa.length - k) (default:aA)).drop (k + aP.length + ((aa.drop k).take (aa.length - k)).length)) fC⟩,⟨some p,.row 52 aa dQ⟩,⟨some q,.row 52 aP vI⟩]) rfl ?_
  rw [aX]
  refine ae.le (E':= [(9,I.eq (a2 (some az) (k + (aa.length + aP.length - k)) fC))]) (.same rfl .nil) ?_
  refine ae.next ?_
  refine ag.seq ?_
  refine ag.cz ?_
  refine ah.v (cM (ab rfl)) rfl rfl rfl ?_
  refine ah.v (eB (ab rfl)) rfl rfl rfl ?_
  refine ah.nil ?_
  refine ae.next ?_
  refine ag.ret ?_
  have c4:k + (aa.length + aP.length - k)=(aa.take k ++ aP ++ aa.drop k).length:=by simp; omega
  rw [c4]
  exact ae.fi (some az,fC) (.cons_cons _ (List.nil_sublist _)) rfl rfl (dv rfl)
 have yg:aa.length + aP.length≤dQ:=by rw [hw] at fk; simp only [decide_eq_false_iff_not] at fk; omega
 have mT:maxLen=9223372036854775807:=rfl
 have ua:bq ((k:Int) + (aP.length:Int))=((k + aP.length:Nat):Int):=by rw [g9 (by omega) (by omega)]; simp
 refine ag.skip ?_
 refine ae.next ?_
 refine ag.seq ?_
 refine ag.cz ?_
 refine ah.v (cM (ab rfl)) rfl rfl rfl ?_
 refine ah.v (cM (ab rfl)) rfl rfl rfl ?_
 refine ah.v (cM (ab rfl)) rfl rfl rfl ?_
 refine ah.v (dI (ab rfl) (ab rfl)) rfl rfl rfl ?_
 refine ah.v (rH (α:=aA) (m:=0) (h:=aa.length + aP.length) Tryz.underlying38 cg (ab rfl) .none (.some (ab rfl)) rfl hw ⟨by omega,by omega⟩) rfl rfl rfl ?_
 refine ah.v (eB (ab rfl)) rfl rfl rfl ?_
 refine ah.nil ?_
 refine ae.next ?_
 refine ag.seq ?_
 refine ag.seq ?_
 refine ag.cz ?_
 refine ah.v (cM (ab rfl)) rfl rfl rfl ?_
 refine ah.v (cM (ab rfl)) rfl rfl rfl ?_
 refine ah.v (cM (ab rfl)) rfl rfl rfl ?_
 refine ah.v (cM (ab rfl)) rfl rfl rfl ?_
 refine ah.v (dI (ab rfl) (ab rfl)) rfl rfl rfl ?_
 refine ah.v (rH (α:=aA) (p:=p) (n:=aa.length + aP.length) (cap:=dQ) (m:=k + aP.length) (h:=aa.length + aP.length) Tryz.underlying38 cg (Eo (size:=ai.size aA) (ab rfl)) (.some (ab rfl)) .none ua rfl ⟨by omega,by omega⟩) rfl rfl rfl ?_
 refine ah.v (X0 (α:=aA) (p:=p) (q:=q) (T:=52) (U:=52) (xs:=aa) (vs:=aP) (cap:=dQ) (cap':=vI) (i:=0) (j:=1) (tR:=4) (by kernel_rfl) Tryz.func280 (by kernel_rfl) (by kernel_rfl) (by kernel_rfl) (by kernel_rfl) Tryz.underlying38 cg (ab rfl) (HZ (p:=p) (lo:=k + aP.length) (cap:=dQ) (size:=ai.size aA) (by omega) (ab rfl)) rfl rfl tZ (by omega)) rfl rfl rfl ?_
 refine ah.v (hP (ab rfl)) rfl rfl rfl ?_
 refine ah.nil ?_
 refine ae.next ?_
 refine ag.cond (ab rfl) (fun _=> ?_) (fun lv=>by cases lv)
 ·have kF:(aa.length + aP.length - 0)=aa.length + aP.length:=by omega
  have P7:(aa.drop k).take (aa.length - k)=aa.drop k:=List.take_of_length_le (by simp)
  refine ag.seq ?_
  refine ag.le (E':= [(0,I.eq (hQ (some p) 0 (aa.length + aP.length - 0) dQ (ai.size aA))),(1,I.of (k:Int)),(2,I.eq (a2 (some q) aP.length vI)),(7,I.of (aP.length:Int))]) (.same rfl (.same rfl (.same rfl (.same rfl .nil)))) ?_
  refine ag.j8 mixed (⟨some 69,[],[],[],fun _=>I.eq (hQ (some p) 0 (aa.length + aP.length - 0) dQ (ai.size aA)),fun _ _=>⟨none,.dead⟩⟩ :: ⟨some 70,[],[],[],fun _=>I.of (k:Int),fun _ _=>⟨none,.dead⟩⟩ :: ⟨some 71,[],[],[],fun _=>I.of (aP.length:Int),fun _ _=>⟨none,.dead⟩⟩ :: ⟨some 72,(1 :: 2 :: []),[],[],fun _=>I.of (bq ((k:Int) + (aP.length:Int))),fun _ _=>⟨none,.dead⟩⟩ :: ⟨some 73,(0 :: 3 :: []),[],[],fun _=>I.eq (hQ (some p) (k + aP.length) (aa.length + aP.length - (k + aP.length)) dQ (ai.size aA)),fun _ _=>⟨none,.dead⟩⟩ :: ⟨some 74,[],[],[],fun _=>I.eq (hQ (some p) 0 (aa.length + aP.length - 0) dQ (ai.size aA)),fun _ _=>⟨none,.dead⟩⟩ :: ⟨some 75,[],[],[],fun _=>I.of (k:Int),fun _ _=>⟨none,.dead⟩⟩ :: ⟨some 76,(5 :: 6 :: []),[],[],fun _=>I.eq (hQ (some p) k (aa.length + aP.length - k) dQ (ai.size aA)),fun _ _=>⟨none,.dead⟩⟩ :: ⟨some 77,(4 :: 7 :: []),(0 :: []),(0 :: []),fun _=>I.of ((((aa.drop k).take (aa.length - k)).length:Nat):Int),fun _ _=>⟨some p,.BW 52 aa k aP.length dQ⟩⟩ :: []) ((some 69,[],[],[]) :: (some 70,[],[],[]) :: (some 71,[],[],[]) :: (some 72,(1 :: 2 :: []),[],[]) :: (some 73,(0 :: 3 :: []),[],[]) :: (some 74,[],[],[]) :: (some 75,[],[],[]) :: (some 76,(5 :: 6 :: []),[],[]) :: (some 77,(4 :: 7 :: []),(0 :: []),(0 :: [])) :: []) (0 :: 1 :: 2 :: 7 :: []) rfl rfl (by kernel_rfl) ⟨?_,?_,?_,?_,?_,?_,?_,?_,?_,trivial⟩ fun hd=> ?_
  ·exact im rfl rfl rfl fun hd E' L' aB al=>cM (ab (aB _ _ rfl))
  ·exact im rfl rfl rfl fun hd E' L' aB al=>cM (ab (aB _ _ rfl))
  ·exact im rfl rfl rfl fun hd E' L' aB al=>cM (ab (aB _ _ rfl))
  ·exact im rfl rfl rfl fun hd E' L' aB al=>dI (ab (aB _ _ rfl)) (ab (aB _ _ rfl))
  ·exact im rfl rfl rfl fun hd E' L' aB al=>rH (α:=aA) (n:=aa.length + aP.length) (m:=k + aP.length) (h:=aa.length + aP.length) Tryz.underlying38 cg (Eo (size:=ai.size aA) (ab (aB _ _ rfl))) (.some (ab (aB _ _ rfl))) .none ua rfl ⟨by omega,by omega⟩
  ·exact im rfl rfl rfl fun hd E' L' aB al=>cM (ab (aB _ _ rfl))
  ·exact im rfl rfl rfl fun hd E' L' aB al=>cM (ab (aB _ _ rfl))
  ·exact im rfl rfl rfl fun hd E' L' aB al=>rH (α:=aA) (n:=aa.length + aP.length) (m:=k) (h:=aa.length + aP.length) Tryz.underlying38 cg (Eo (size:=ai.size aA) (ab (aB _ _ rfl))) (.some (ab (aB _ _ rfl))) .none rfl rfl ⟨by omega,by omega⟩
  ·intro hd E' L' aB al
   have bI:=al 0 _ rfl rfl
   refine ah.EM (i:=0) (p:=p) (off:=(k + aP.length) * ai.size aA) (T:=52) (vs:=(aa.drop k).take (aa.length - k)) (N:=aa.length + aP.length - k) (dLen:=aa.length + aP.length - (k + aP.length)) (dCap:=dQ - (k + aP.length)) (cp':= .BW 52 aa k aP.length dQ) Tryz.underlying38 cg (HZ (p:=p) (lo:=k + aP.length) (cap:=dQ) (size:=ai.size aA) (by omega) (ab (aB _ _ rfl))) (D8 (i:=0) (ab (aB _ _ rfl)) bI (by omega) (by omega)) (by rw [P7]; rw [show(aa.drop k).length=aa.length + aP.length - (k + aP.length) by simp; omega]; exact Nat.min_eq_right (by omega)) bI rfl (fun A W o cells h c0=>Vn ay yg h (by rw [← P7]; exact c0)) ?_
   refine ah.nil ?_
   exact ae.fin (dY []) rfl rfl
  refine ae.dR (L2:= [⟨some p,.BW 52 aa k aP.length dQ⟩,⟨some q,.row 52 aP vI⟩]) rfl ?_
  refine ae.le (E':= [(0,I.eq (hQ (some p) 0 (aa.length + aP.length - 0) dQ (ai.size aA))),(1,I.of (k:Int)),(2,I.eq (a2 (some q) aP.length vI))]) (.same rfl (.same rfl (.same rfl .nil))) ?_
  refine ae.next ?_
  refine ag.seq ?_
  refine ag.cz ?_
  refine ah.v (cM (ab rfl)) rfl rfl rfl ?_
  refine ah.v (cM (ab rfl)) rfl rfl rfl ?_
  refine ah.v (rH (α:=aA) (n:=aa.length + aP.length) (m:=k) (h:=aa.length + aP.length) Tryz.underlying38 cg (Eo (size:=ai.size aA) (ab rfl)) (.some (ab rfl)) .none rfl rfl ⟨by omega,by omega⟩) rfl rfl rfl ?_
  refine ah.v (cM (ab rfl)) rfl rfl rfl ?_
  refine ah.EM (i:=0) (p:=p) (off:=k * ai.size aA) (dLen:=aa.length + aP.length - k) (dCap:=dQ - k) (N:=aP.length) (vs:=aP) (T:=52) (cp':= .row 52 (aa.take k ++ aP ++ aa.drop k) dQ) Tryz.underlying38 cg (HZ (p:=p) (lo:=k) (cap:=dQ) (size:=ai.size aA) (by omega) (ab rfl)) (M5 (i:=1) (ab rfl) rfl a0) (Nat.min_eq_left (by omega)) rfl rfl (fun A W o cells h c0=>UH ay h c0) ?_
  refine ah.nil ?_
  refine ae.next ?_
  refine ag.seq ?_
  refine ag.cz ?_
  refine ah.v (cM (ab rfl)) rfl rfl rfl ?_
  refine ah.v (eB (ab rfl)) rfl rfl rfl ?_
  refine ah.nil ?_
  refine ae.next ?_
  refine ag.ret ?_
  have c4:aa.length + aP.length - 0=(aa.take k ++ aP ++ aa.drop k).length:=by simp; omega
  rw [Ao,c4]
  exact ae.fi (some p,dQ) (.cons_cons _ (List.nil_sublist _)) rfl rfl (dv rfl)
theorem RD {aa:cu} {aj:aA} {b9:Nat} {h2:Option Nat} {h3:Nat} {r:Bool × cu} (h:zp aa aj=some r):bM Tryz.prog 267 [I.eq (.pointer (some ⟨b9,0,none⟩)),I.of (aj)] [⟨some b9,.b4 (({ aa with b1:= [] } :cu):cu) [(10,a2 h2 aa.b1.length h3)]⟩,⟨h2,.row 52 (aa.b1:List aA) h3⟩] (δ:=(Option Nat × Nat)) (fun d=>I.of (r.1)) (fun d=> [⟨some b9,.b4 (({ r.2 with b1:= [] } :cu):cu) [(10,a2 d.1 (r.2.b1).length d.2)]⟩,⟨d.1,.row 52 (r.2.b1:List aA) d.2⟩]):=by
 unfold zp at h
 refine bM.of Tryz.func267 rfl Tryz.ntmps267 rfl fun W A=> ?_
 refine aF ?_
 refine cj fun aZ=> ?_
 refine aL ?_
 refine bO ?_
 refine aF ?_
 refine aD ?_
 refine bl (En Tryz.underlying170 (ab rfl)) ?_
 refine aD ?_
 refine ey cM ?_
 refine ey (aT nR) ?_
 refine ep (fun hb=>eA (i:=0) ((aN.id aA).comp mD) (r:=aj.cd) bF (cb rfl hb) rfl rfl rfl) ?_
 obtain⟨aG,bo,h⟩:=aw h
 refine ep (fun hb=>bS.X1 (β:=cu) (γ:=aA) (b':=(aa:cu)) ((aN.id cu).comp xh) 1 2 0 rfl rfl rfl rfl rfl rfl uZ (bS.OX 1 rfl uZ (bS.IE (z:=(aa:cu)) 1 11 rfl (fun _ _ _ h=>h.1 hb) rfl uZ (iG Ow (RJ (fE bo hb)) ⟨ab rfl,cb rfl hb,trivial⟩)))) ?_
 refine kE kT ?_
 refine sl ?_
 refine aK ?_
 refine cm h (fun h=>?_) fun h=>?_
 ·refine aF ?_
  refine aL ?_
  refine aK ?_
  refine ag.ret ?_
  refine ae.ret ?_
  refine ae.bz 2 rfl ?_
  refine ae.bz 2 rfl ?_
  obtain rfl:=aI h
  exact mn (h2,h3)
 ·refine cW ?_
  refine aF ?_
  refine aD ?_
  refine bl (X2 (ab rfl)) ?_
  refine aL ?_
  refine bO ?_
  obtain⟨aJ,cr,h⟩:=aw h
  refine iz [0,1,3,4,5,8,9,10,11,12,13,14,15,16,17,18] ?_
  refine ag.j8 mixed (a6 20 [] [] _ :: a6 21 (0 :: []) [] _ :: a6 22 (1 :: []) [] _ :: a6 23 (2 :: []) (1 :: []) _ :: a6 24 [] (0 :: []) _ :: a6 25 [] [] _ :: a6 26 (3 :: 4 :: 5 :: []) (1 :: 2 :: []) _ :: a6 19 (6 :: []) [] _ :: a6 27 (7 :: []) [] _ :: a6 28 (7 :: []) [] _ :: a6 6 (8 :: []) [] _ :: a6 7 (9 :: []) [] _ :: []) _ (0 :: 1 :: 3 :: 4 :: 5 :: 8 :: 9 :: 10 :: 11 :: 12 :: 13 :: 14 :: 15 :: 16 :: 17 :: 18 :: []) rfl rfl (by kernel_rfl) ⟨e2,fe dD,fe (aT rJ),b8 fun hd E' L' aB al=>ih (i:=1) (q:=0) (β:=cu) (γ:=aA) q1 (ab (aB _ _ rfl)) (al 1 _ rfl rfl) rfl,lW 0 cg,e2,b8 fun hd E' L' aB al=>bS.Wf (β:=cu) (γ:=aA) (b':=(aa:cu)) ((aN.id cu).comp xh) 1 2 0 23 rfl (al 1 _ rfl rfl) (al 2 _ rfl rfl) rfl rfl rfl (aB _ _ rfl) (G3 uZ Ap) (bS.OX 1 (Jr (P8 rfl (al 1 _ rfl rfl))) (G3 uZ Ap) (bS.Wg (F:=(fun ib c2=>xa aa ib c2)) 1 25 (aB _ _ rfl) (Jr (Jr (P8 rfl (al 1 _ rfl rfl)))) X3 (fun _ _ _ h=>RC h) (G3 uZ Ap) (iG X4 (Q3 cr) ⟨ab rfl,ab (aB _ _ rfl),ab rfl,trivial⟩))),e2,b8 fun hd E' L' aB al=>lq (ab (aB _ _ rfl)) rfl,b8 fun hd E' L' aB al=>lq (ab (aB _ _ rfl)) rfl,b8 fun hd E' L' aB al=>eB (ab (aB _ _ rfl)),b8 fun hd E' L' aB al=>eB (ab (aB _ _ rfl)),trivial⟩ fun eP=> ?_
  refine ae.dR (L2:= [⟨some aZ,.var (aj:aA)⟩,⟨some b9,.b4 (({ aa with b1:= [] } :cu):cu) [(10,a2 h2 aa.b1.length h3)]⟩,⟨h2,.row 52 (aa.b1:List aA) h3⟩]) rfl ?_
  refine jC [0,1,3,4,5,6,7,8,9,10,11,12,13,14,15,16,17,18,19,20,21,22,23,24,25,26,27,28] ?_
  refine ae.next ?_
  refine ag.seq ?_
  obtain⟨bh,e7,h⟩:=aw h
  obtain⟨bn,fT,h⟩:=aw h
  refine ag.pg 1 ?_
  refine iz [0,1,3,4,5,6,7,8,9,10,11,12,13,14,15,16,17,18,19,20,21,22,23,24,25,26,27,28] ?_
  refine ag.j8 mixed (a6 29 [] [] _ :: a6 30 [] [] _ :: a6 31 (1 :: []) [] _ :: a6 32 (2 :: []) [] _ :: a6 33 (3 :: []) (1 :: []) _ :: a6 34 [] [] _ :: a6 35 [] (0 :: []) _ :: a6 36 (6 :: []) [] _ :: ⟨some 37,(7 :: []),(3 :: []),(3 :: []),fun hd=>I.eq (a2 (hd 8 0) [bh].length 1),fun hd _=>⟨(hd 8 0),.row 52 ([bh]:List aA) 1⟩⟩ :: ⟨some 38,(4 :: 5 :: 8 :: []),(2 :: 3 :: []),(2 :: 3 :: []),fun hd=>I.eq (a2 (hd 9 0) bn.length ((hd 9 1).getD 0)),fun hd j=>bif Nat.beq j 2 then⟨(hd 9 0),.row 52 (bn:List aA) ((hd 9 1).getD 0)⟩ else⟨none,.dead⟩⟩ :: a6 39 (0 :: []) [] _ :: a6 40 (10 :: []) [] _ :: ⟨none,(4 :: 9 :: 11 :: []),(1 :: []),(1 :: []),fun _=>I.any,fun hd _=>⟨some b9,.b4 (({ aa with b1:= [] } :cu):cu) [(10,a2 (hd 9 0) bn.length ((hd 9 1).getD 0))]⟩⟩ :: []) _ (0 :: 1 :: 3 :: 4 :: 5 :: 6 :: 7 :: 8 :: 9 :: 10 :: 11 :: 12 :: 13 :: 14 :: 15 :: 16 :: 17 :: 18 :: 19 :: 20 :: 21 :: 22 :: 23 :: 24 :: 25 :: 26 :: 27 :: 28 :: []) rfl rfl (by kernel_rfl) ⟨e2,e2,fe dD,fe (aT rJ),b8 fun hd E' L' aB al=>ih (i:=1) (q:=0) (β:=cu) (γ:=aA) q1 (ab (aB _ _ rfl)) (al 1 _ rfl rfl) rfl,e2,lW 0 cg,b8 fun hd E' L' aB al=>iG yp (xu e7) ⟨ab (aB _ _ rfl),trivial⟩,?_,?_,fe dD,fe (aT rJ),?_,trivial⟩ fun jh=> ?_
  ·intro hd E' L' aB al
   refine ah.q2 (α:=aA) (r:= [bh]) Tryz.underlying38 cg gh rfl rfl (.cons (by simp) (ab (aB _ _ rfl)) (.nil)) rfl fun g3=> ?_
   refine ah.nil ?_
   refine ae.place 3 (al 3 _ rfl rfl) ?_
   exact ae.fin (dY [g3]) rfl rfl
  ·intro hd E' L' aB al
   refine ah.Wh (fun q=>⟨q.1,.row 52 (bn:List aA) q.2⟩) 2 3 X5 (Q5 fT) ⟨ab (aB _ _ rfl),ab (aB _ _ rfl),ab (aB _ _ rfl),trivial⟩ rfl (al 2 _ rfl rfl) (al 3 _ rfl rfl) (fun _=>rfl) rfl fun⟨mP,fC⟩=> ?_
   refine ah.nil ?_
   exact ae.fin (dY [mP,some fC]) rfl rfl
  ·intro hd E' L' aB al
   refine ah.j6 (i:=1) (γ:=aA) (b':=(({ aa with b1:= [] } :cu):cu)) (os':= [(10,a2 (hd 9 0) bn.length ((hd 9 1).getD 0))]) ((aN.id cu).comp xh) q1 (ab (aB _ _ rfl)) (ab (aB _ _ rfl)) jc (al 1 _ rfl rfl) rfl rfl rfl ?_
   refine ah.nil ?_
   exact ae.fin (dY []) rfl rfl
  refine ae.dR (L2:= [⟨some aZ,.var (aj:aA)⟩,⟨some b9,.b4 (({ aa with b1:= [] } :cu):cu) [(10,a2 (jh 9 0) bn.length ((jh 9 1).getD 0))]⟩,⟨(jh 9 0),.row 52 (bn:List aA) ((jh 9 1).getD 0)⟩,⟨none,.dead⟩]) rfl ?_
  refine jC [0,1,3,4,5,6,7,8,9,10,11,12,13,14,15,16,17,18,19,20,21,22,24,25,26,27,28,29,30,31,32,34,35,36,38,39,40] ?_
  refine ae.bz 3 rfl ?_
  refine ae.next ?_
  refine aF ?_
  refine aL ?_
  refine aK ?_
  refine ag.ret ?_
  refine ae.bz 3 rfl ?_
  refine ae.bz 3 rfl ?_
  obtain rfl:=aI h
  exact mn ((jh 9 0),((jh 9 1).getD 0))
theorem Sd {hp:aS Cell} {aa:Ref} {aj:ar} {aP:Int} {r:Bool × (aS Cell)} (h:xl hp aa aj aP=some r):bM Tryz.prog 245 [I.of (aa),I.of (aj),I.of (aP)] ([] ++ aV hp) (δ:=Unit) (fun d=>I.of (r.1)) (fun d=> [] ++ aV r.2):=by
 unfold xl at h
 refine bM.ofM Tryz.func245 rfl Tryz.ntmps245 rfl fun W A=> ?_
 refine aF ?_
 refine cj fun aZ=> ?_
 refine aL ?_
 refine bO ?_
 refine aF ?_
 refine aD ?_
 refine cG 0 bQ ?_
 refine aD ?_
 obtain⟨aG,bo,h⟩:=aw h
 refine ah.iM (fG.jd 1 rfl OV (Lf bo) ⟨ab rfl,ab rfl,ab rfl,trivial⟩) rfl rfl rfl ?_
 refine aD ?_
 refine gr ?_
 refine gr ?_
 refine aL ?_
 refine aL ?_
 refine b0 ?_
 refine aD ?_
 refine aY hP ?_
 refine aK ?_
 refine cm h (fun h=>?_) fun h=>?_
 ·refine aF ?_
  refine aL ?_
  refine aK ?_
  refine ag.ret ?_
  refine ae.ret ?_
  obtain rfl:=aI h
  refine ae.By ?_
  exact ae.fi () (.cons _ (.refl _)) rfl rfl (dv rfl)
 ·refine cW ?_
  refine aF ?_
  refine aD ?_
  obtain⟨ca,dh,h⟩:=aw h
  refine bl (dD (eg (ab rfl) dh)) ?_
  refine aY (aT rO) ?_
  obtain⟨bC,dP,h⟩:=aw h
  refine bl (fA ((aN.id fv).comp ry) (r:=bC.cB) dX (ab rfl) (eM (n:=1) rfl (mb dP) rfl) rfl rfl) ?_
  refine ah.q2 (α:=Ref) (r:= [bC.cB]) Tryz.underlying341 dX vG rfl rfl (.cons (by simp) (ab rfl) (.nil)) rfl fun g3=> ?_
  refine ah.pa (z:=(default:List Ref)) [0] Vo X6 rfl fun bc=> ?_
  refine ah.own (α:=Ref) 331 ?_
  refine ah.pa (z:=(default:List Int)) [0] Wi Zz rfl fun cC=> ?_
  refine ah.own (α:=Int) 3 ?_
  refine ah.j6 (i:=3) (γ:=Ref) (b':=([]:List Ref)) (os':= [(0,a2 g3 [bC.cB].length 1)]) (aN.id (List Ref)) tE (ab rfl) (ab rfl) jc rfl rfl rfl rfl ?_
  refine ah.own (α:=Int) 3 ?_
  refine ah.j6 (i:=2) (γ:=Int) (b':=([]:List Int)) (os':= [(0,a2 none ([]:List Int).length 0)]) (aN.id (List Int)) vU (ab rfl) (rG) jc rfl rfl rfl rfl ?_
  refine bO ?_
  refine aF ?_
  refine aD ?_
  refine cG 6 bQ ?_
  refine aD ?_
  obtain⟨aJ,cr,h⟩:=aw h
  refine e6 EK (Du cr) ?_
  refine aK ?_
  refine ag.block ?_
  obtain⟨av,ao,h⟩:=aw h
  refine G2 (hp:=hp) (γ:=(Option Nat × Nat) × (Option Nat × Nat)) (g0:=((none,0),(g3,1))) (Ls:=fun s1 aq=>(⟨aq.1.1,.row 3 (s1.1:List Int) aq.1.2⟩ :: ⟨none,.row 3 (([]:List Int):List Int) 0⟩ :: ⟨some cC,.b4 ([]:List Int) [(0,a2 aq.1.1 s1.1.length aq.1.2)]⟩ :: ⟨none,.row 331 (([]:List Ref):List Ref) 0⟩ :: ⟨some bc,.b4 ([]:List Ref) [(0,a2 aq.2.1 s1.2.length aq.2.2)]⟩ :: ⟨aq.2.1,.row 331 (s1.2:List Ref) aq.2.2⟩ :: ⟨some aZ,.var (aj:ar)⟩ :: aV hp)) (Lx:=fun az aq=>Empty.elim az) (fun s1 aq=> [⟨aq.1.1,.row 3 (s1.1:List Int) aq.1.2⟩,⟨none,.row 3 (([]:List Int):List Int) 0⟩,⟨some cC,.b4 ([]:List Int) [(0,a2 aq.1.1 s1.1.length aq.1.2)]⟩,⟨none,.row 331 (([]:List Ref):List Ref) 0⟩,⟨some bc,.b4 ([]:List Ref) [(0,a2 aq.2.1 s1.2.length aq.2.2)]⟩,⟨aq.2.1,.row 331 (s1.2:List Ref) aq.2.2⟩,⟨some aZ,.var (aj:ar)⟩]) (fun az=>Empty.elim az) rfl EL rfl Gq ao (fun _ _=>rfl) rfl rfl (fun oK s1 r h aq k3 k8 k4 l D rec sq=> ?_) (fun s1 aR aq D=> ?_) (fun az aR aq D=> ?_)
  ·clear ao
   refine ag.cz ?_
   refine aL ?_
   refine ah.nil ?_
   refine ae.begin 0 rfl sq ?_
   refine ag.block ?_
   obtain⟨a8,cE,h⟩:=aw h
   obtain⟨b2,eZ,h⟩:=aw h
   obtain⟨bY,cX,h⟩:=aw h
   obtain⟨cf,fk,h⟩:=aw h
   obtain⟨bh,e7,h⟩:=aw h
   obtain⟨bn,fT,h⟩:=aw h
   refine iz [0,1,2,4,6,7,8,9,10,11,14,15,16,17,18,19,20,21,22,23,24,25,26,28,29,30,31,32] ?_
   refine ag.pP 9 mixed (a6 33 [] (6 :: []) _ :: a6 34 [] (6 :: []) _ :: a6 35 [] (6 :: []) _ :: a6 36 (2 :: []) (7 :: []) _ :: a6 37 (3 :: []) [] _ :: a6 38 (1 :: 3 :: 4 :: []) (7 :: []) _ :: a6 39 (3 :: 5 :: []) (7 :: []) _ :: a6 40 [] [] _ :: a6 41 (3 :: 5 :: 6 :: []) [] _ :: a6 42 (3 :: 5 :: 6 :: 8 :: []) [] _ :: a6 43 (3 :: 5 :: 6 :: 7 :: 9 :: []) [] _ :: ⟨some 44,(3 :: 5 :: 6 :: 10 :: []),[],[],fun _=>I.of (bD cf.cU bY),fun _ _=>⟨none,.dead⟩⟩ :: a6 45 (3 :: 5 :: 6 :: 11 :: []) [] _ :: ⟨some 46,(0 :: 3 :: 5 :: 6 :: 12 :: []),(7 :: []),(7 :: []),fun hd=>I.eq (a2 (hd 13 0) bh.length ((hd 13 1).getD 0)),fun hd _=>⟨(hd 13 0),.row 331 (bh:List Ref) ((hd 13 1).getD 0)⟩⟩ :: a6 47 [] (4 :: []) _ :: a6 48 [] [] _ :: a6 49 (15 :: []) [] _ :: ⟨some 50,(14 :: 16 :: []),(2 :: []),(2 :: []),fun hd=>I.eq (a2 (hd 17 0) bn.length ((hd 17 1).getD 0)),fun hd _=>⟨(hd 17 0),.row 3 (bn:List Int) ((hd 17 1).getD 0)⟩⟩ :: ⟨none,(0 :: 1 :: 2 :: 13 :: []),(6 :: []),(6 :: []),fun _=>I.any,fun hd _=>⟨some bc,.b4 ([]:List Ref) [(0,a2 (hd 13 0) bh.length ((hd 13 1).getD 0))]⟩⟩ :: ⟨none,(14 :: 17 :: []),(4 :: []),(4 :: []),fun _=>I.any,fun hd _=>⟨some cC,.b4 ([]:List Int) [(0,a2 (hd 17 0) bn.length ((hd 17 1).getD 0))]⟩⟩ :: []) _ (0 :: 1 :: 2 :: 4 :: 6 :: 7 :: 8 :: 9 :: 10 :: 11 :: 14 :: 15 :: 16 :: 17 :: 18 :: 19 :: 20 :: 21 :: 22 :: 23 :: 24 :: 25 :: 26 :: 28 :: 29 :: 30 :: 31 :: 32 :: []) rfl rfl (by kernel_rfl) (by kernel_rfl) ⟨ct.q (b8 fun hd E' L' aB al=>ih (i:=6) (q:=0) (β:=List Ref) (γ:=Ref) tE (ab (aB _ _ rfl)) (al 6 _ rfl rfl) rfl),ct.q (b8 fun hd E' L' aB al=>ih (i:=6) (q:=0) (β:=List Ref) (γ:=Ref) tE (ab (aB _ _ rfl)) (al 6 _ rfl rfl) rfl),ct.q (b8 fun hd E' L' aB al=>ih (i:=6) (q:=0) (β:=List Ref) (γ:=Ref) tE (ab (aB _ _ rfl)) (al 6 _ rfl rfl) rfl),ct.q (b8 fun hd E' L' aB al=>pL (i:=7) Tryz.underlying341 (ab (aB _ _ rfl)) rfl (al 7 _ rfl rfl)),ct.q (ur ix),ct.q (b8 fun hd E' L' aB al=>lp (i:=7) (k:=a8) (xs:=(s1.2:List Ref)) Tryz.underlying341 dX (ab (aB _ _ rfl)) (ab (aB _ _ rfl)) (al 7 _ rfl rfl) (cL cE)),ct.q (b8 fun hd E' L' aB al=>o5 (i:=7) (k:=a8) (aN.id Ref) (r:=(aE s1.2 a8)) dX (ab (aB _ _ rfl)) (al 7 _ rfl rfl) (cL cE).1 rfl rfl),ct.q (e2),ct.q (b8 fun hd E' L' aB al=>dD (eg (ab (aB _ _ rfl)) eZ)),ct.q (fe (aT qL)),ct.q (b8 fun hd E' L' aB al=>il (k:=bY) r3 (ab (aB _ _ rfl)) (ab (aB _ _ rfl)) (cL cX)),?_,ct.q (b8 fun hd E' L' aB al=>iI (r:= [bD cf.cU bY]) Tryz.underlying341 dX vG rfl rfl (.cons (by simp) (ab (aB _ _ rfl)) (.nil))),?_,ct.q (b8 fun hd E' L' aB al=>ih (i:=4) (q:=0) (β:=List Int) (γ:=Int) vU (ab (aB _ _ rfl)) (al 4 _ rfl rfl) rfl),ct.q (e2),ct.q (b8 fun hd E' L' aB al=>iI (r:= [oK]) Tryz.underlying63 bF jD rfl rfl (.cons (by simp) (ab (aB _ _ rfl)) (.nil))),?_,?_,?_,trivial⟩ fun eP=> ?_
   ·intro hd E' L' aB al de
    refine bl (fA (((aN.id dx).comp qA).comp (aN.idx (α:=Ref) 2 bY (cL cX).1)) (r:=bD cf.cU bY) dX (ab (aB _ _ rfl)) (eM (n:=9) (de.trans rfl) (iP fk) rfl) rfl rfl) ?_
    refine ah.nil ?_
    exact ae.fin (dY []) rfl rfl
   ·intro hd E' L' aB al de
    refine ah.app (i:=7) Tryz.underlying341 dX vG (bytes:=8) (by kernel_rfl) (ab (aB _ _ rfl)) (al 7 _ rfl rfl) (ab (aB _ _ rfl)) e7 rfl fun mP fC=> ?_
    refine ah.nil ?_
    exact ae.fin (dY [mP,some fC]) rfl rfl
   ·intro hd E' L' aB al de
    refine ah.app (i:=2) Tryz.underlying63 bF jD (bytes:=8) (by kernel_rfl) (ab (aB _ _ rfl)) (al 2 _ rfl rfl) (ab (aB _ _ rfl)) fT rfl fun oG pU=> ?_
    refine ah.nil ?_
    exact ae.fin (dY [oG,some pU]) rfl rfl
   ·intro hd E' L' aB al de
    refine ah.j6 (i:=6) (γ:=Ref) (b':=([]:List Ref)) (os':= [(0,a2 (hd 13 0) bh.length ((hd 13 1).getD 0))]) (aN.id (List Ref)) tE (ab (aB _ _ rfl)) (ab (aB _ _ rfl)) jc (al 6 _ rfl rfl) rfl rfl rfl ?_
    refine ah.nil ?_
    exact ae.fin (dY []) rfl rfl
   ·intro hd E' L' aB al de
    refine ah.j6 (i:=4) (γ:=Int) (b':=([]:List Int)) (os':= [(0,a2 (hd 17 0) bn.length ((hd 17 1).getD 0))]) (aN.id (List Int)) vU (ab (aB _ _ rfl)) (ab (aB _ _ rfl)) jc (al 4 _ rfl rfl) rfl rfl rfl ?_
    refine ah.nil ?_
    exact ae.fin (dY []) rfl rfl
   refine ae.dR (L2:=(⟨some l,.is (.loop { rec with state:= .busy })⟩ :: ⟨some D,.dj⟩ :: ⟨(eP 17 0),.row 3 (bn:List Int) ((eP 17 1).getD 0)⟩ :: ⟨none,.row 3 (([]:List Int):List Int) 0⟩ :: ⟨some cC,.b4 ([]:List Int) [(0,a2 (eP 17 0) bn.length ((eP 17 1).getD 0))]⟩ :: ⟨none,.row 331 (([]:List Ref):List Ref) 0⟩ :: ⟨some bc,.b4 ([]:List Ref) [(0,a2 (eP 13 0) bh.length ((eP 13 1).getD 0))]⟩ :: ⟨(eP 13 0),.row 331 (bh:List Ref) ((eP 13 1).getD 0)⟩ :: ⟨some aZ,.var (aj:ar)⟩ :: aV hp)) rfl ?_
   refine jC [0,1,2,4,6,7,8,9,10,11,14,15,16,17,18,19,20,21,22,23,24,25,26,28,29,30,31,32,36,37,39,40,41,42,43,44,45,46,48,49,50] ?_
   refine ae.ea ?_
   obtain rfl:=aI h
   exact ae.Jp (((eP 17 0),((eP 17 1).getD 0)),((eP 13 0),((eP 13 1).getD 0))) 0 rfl
  ·clear ao; subst aR; simp only [Sum.elim_inl] at h
   refine ae.dR (L2:=(⟨some D,.dj⟩ :: ⟨aq.1.1,.row 3 (s1.1:List Int) aq.1.2⟩ :: ⟨none,.row 3 (([]:List Int):List Int) 0⟩ :: ⟨some cC,.b4 ([]:List Int) [(0,a2 aq.1.1 s1.1.length aq.1.2)]⟩ :: ⟨none,.row 331 (([]:List Ref):List Ref) 0⟩ :: ⟨some bc,.b4 ([]:List Ref) [(0,a2 aq.2.1 s1.2.length aq.2.2)]⟩ :: ⟨aq.2.1,.row 331 (s1.2:List Ref) aq.2.2⟩ :: ⟨some aZ,.var (aj:ar)⟩ :: aV hp)) rfl ?_
   refine ae.ea ?_
   refine ae.next ?_
   refine aF ?_
   refine bl (ih (i:=5) (q:=0) (β:=List Ref) (γ:=Ref) tE (ab rfl) rfl rfl) ?_
   refine aD ?_
   obtain⟨cY,g4,h⟩:=aw h
   refine bl (lp (i:=6) (k:=cY) (xs:=(s1.2:List Ref)) Tryz.underlying341 dX (ab rfl) (ab rfl) rfl (cL g4)) ?_
   refine bl (o5 (i:=6) (k:=cY) (aN.id Ref) (r:=(aE s1.2 cY)) dX (ab rfl) rfl (cL g4).1 rfl rfl) ?_
   refine aL ?_
   refine b0 ?_
   refine aD ?_
   refine aD ?_
   obtain⟨lG,q8,h⟩:=aw h
   refine bl (dD (eg (ab rfl) q8)) ?_
   refine aY (aT qJ) ?_
   obtain⟨eH,lv,h⟩:=aw h
   obtain⟨cS,kz,h⟩:=aw h
   refine ah.nQ (k':=Cell.fQ ({ eH with dC:=false } :dx)) 8 rfl ((aN.id dx).comp qB) (v:=(false:Bool)) gi (ab rfl) (fO false) (iP lv) rfl rfl rfl rfl (aI kz) ?_
   refine bl (dD (eg (ab rfl) q8)) ?_
   refine aY (aT AI) ?_
   obtain⟨od,BU,h⟩:=aw h
   obtain⟨cO,tI,h⟩:=aw h
   refine ah.nQ (k':=Cell.fQ ({ od with hc:=0 } :dx)) 8 rfl ((aN.id dx).comp zT) (v:=(0:Int)) bF (ab rfl) (bP 0) (iP BU) rfl rfl rfl rfl (aI tI) ?_
   refine bO ?_
   refine aF ?_
   refine aD ?_
   refine bm ix ?_
   refine aL ?_
   refine aK ?_
   refine ag.block ?_
   obtain⟨aX,ao,h⟩:=aw h
   refine ag.vF (σ:=Int × (aS Cell)) (ε:=(Int × Bool × (aS Cell))) (γ:=Unit) (δ:=Unit) ao (fun s2 bd=> [(0,I.of (aa)),(1,I.of (aj)),(2,I.of (aP)),(4,I.eq (.pointer (some ⟨aZ,0,none⟩))),(6,I.of (false)),(8,I.of (aG.2)),(9,I.eq (.pointer (some ⟨bc,0,none⟩))),(10,I.eq (.pointer (some ⟨cC,0,none⟩))),(12,I.of (aE s1.2 cY)),(13,I.of (s2.1)),(22,I.of (!aG.2)),(31,I.gF 255 [I.ptr aJ.1,I.ptr aJ.2.1,I.ptr aJ.2.2])]) (fun s2 bd=>(⟨some D,.dj⟩ :: ⟨aq.1.1,.row 3 (s1.1:List Int) aq.1.2⟩ :: ⟨none,.row 3 (([]:List Int):List Int) 0⟩ :: ⟨some cC,.b4 ([]:List Int) [(0,a2 aq.1.1 s1.1.length aq.1.2)]⟩ :: ⟨none,.row 331 (([]:List Ref):List Ref) 0⟩ :: ⟨some bc,.b4 ([]:List Ref) [(0,a2 aq.2.1 s1.2.length aq.2.2)]⟩ :: ⟨aq.2.1,.row 331 (s1.2:List Ref) aq.2.2⟩ :: ⟨some aZ,.var (aj:ar)⟩ :: aV s2.2)) (fun c7=>Exit.exit 2) (fun c7 bd=> [(0,I.of (aa)),(1,I.of (aj)),(2,I.of (aP)),(4,I.eq (.pointer (some ⟨aZ,0,none⟩))),(6,I.of (false)),(8,I.of (aG.2)),(9,I.eq (.pointer (some ⟨bc,0,none⟩))),(10,I.eq (.pointer (some ⟨cC,0,none⟩))),(12,I.of (aE s1.2 cY)),(13,I.of (c7.1)),(22,I.of (!aG.2)),(31,I.gF 255 [I.ptr aJ.1,I.ptr aJ.2.1,I.ptr aJ.2.2]),(72,I.of (c7.2.1))]) (fun c7 bd=>(⟨some D,.dj⟩ :: ⟨aq.1.1,.row 3 (s1.1:List Int) aq.1.2⟩ :: ⟨none,.row 3 (([]:List Int):List Int) 0⟩ :: ⟨some cC,.b4 ([]:List Int) [(0,a2 aq.1.1 s1.1.length aq.1.2)]⟩ :: ⟨none,.row 331 (([]:List Ref):List Ref) 0⟩ :: ⟨some bc,.b4 ([]:List Ref) [(0,a2 aq.2.1 s1.2.length aq.2.2)]⟩ :: ⟨aq.2.1,.row 331 (s1.2:List Ref) aq.2.2⟩ :: ⟨some aZ,.var (aj:ar)⟩ :: aV c7.2.2)) () rfl (.same rfl (.same rfl (.same rfl (.same rfl (.same rfl (.same rfl (.same rfl (.same rfl (.same rfl (.same rfl (.same rfl (.same rfl .nil)))))))))))) (fun s2 r h bd=> ?_) (fun bd=> ?_)
   ·clear ao
    refine ag.seq ?_
    refine aF ?_
    refine aD ?_
    refine bm kT ?_
    refine aD ?_
    refine ep (fun hb=>ih (i:=5) (q:=0) (β:=List Ref) (γ:=Ref) tE (ab rfl) rfl rfl) ?_
    refine ey cM ?_
    refine kE dI ?_
    obtain⟨fu,mR,h⟩:=aw h
    refine ep (fun hb=>lp (i:=6) (k:=fu) (xs:=(s1.2:List Ref)) Tryz.underlying341 dX (cb rfl hb) (cb rfl hb) rfl (cL (fE mR hb))) ?_
    refine ep (fun hb=>o5 (i:=6) (k:=fu) (aN.id Ref) (r:=(aE s1.2 fu)) dX (cb rfl hb) rfl (cL (fE mR hb)).1 rfl rfl) ?_
    obtain⟨cw,hV,h⟩:=aw h
    refine ah.FX (fun hb=>fG.jd 8 rfl OY (K5 (fE hV hb)) ⟨cb rfl hb,trivial⟩) rfl rfl rfl rfl rfl ?_
    refine jB ?_
    refine aK ?_
    refine cm h (fun h=>?_) fun h=>?_
    ·refine cW ?_
     refine ag.seq ?_
     refine ag.block ?_
     obtain⟨pz,BS,h⟩:=aw h
     obtain⟨wV,P9,h⟩:=aw h
     obtain⟨qq,Js,h⟩:=aw h
     refine iz [0,1,2,4,6,8,9,10,12,13,22,31,63,64,65,66,67,68,69,70,71,72] ?_
     refine ag.yh 10 8 mixed (a6 75 [] (5 :: []) _ :: a6 76 [] [] _ :: a6 77 (0 :: 1 :: []) (6 :: []) _ :: a6 78 (2 :: []) (6 :: []) _ :: a6 79 [] (3 :: []) _ :: a6 80 [] [] _ :: a6 81 (4 :: 5 :: []) (1 :: []) _ :: a6 82 (6 :: []) (1 :: []) _ :: a6 83 (3 :: []) [] _ :: a6 84 (8 :: []) [] _ :: []) _ (0 :: 1 :: 2 :: 4 :: 6 :: 8 :: 9 :: 10 :: 12 :: 13 :: 22 :: 31 :: 63 :: 64 :: 65 :: 66 :: 67 :: 68 :: 69 :: 70 :: 71 :: 72 :: []) rfl rfl (by kernel_rfl) (by kernel_rfl) ⟨ct.q (b8 fun hd E' L' aB al=>ih (i:=5) (q:=0) (β:=List Ref) (γ:=Ref) tE (ab (aB _ _ rfl)) (al 5 _ rfl rfl) rfl),ct.q (e2),ct.q (b8 fun hd E' L' aB al=>lp (i:=6) (k:=pz) (xs:=(s1.2:List Ref)) Tryz.underlying341 dX (ab (aB _ _ rfl)) (ab (aB _ _ rfl)) (al 6 _ rfl rfl) (cL BS)),ct.q (b8 fun hd E' L' aB al=>o5 (i:=6) (k:=pz) (aN.id Ref) (r:=(aE s1.2 pz)) dX (ab (aB _ _ rfl)) (al 6 _ rfl rfl) (cL BS).1 rfl rfl),ct.q (b8 fun hd E' L' aB al=>ih (i:=3) (q:=0) (β:=List Int) (γ:=Int) vU (ab (aB _ _ rfl)) (al 3 _ rfl rfl) rfl),ct.q (e2),ct.q (b8 fun hd E' L' aB al=>lp (i:=1) (k:=wV) (xs:=(s1.1:List Int)) Tryz.underlying63 bF (ab (aB _ _ rfl)) (ab (aB _ _ rfl)) (al 1 _ rfl rfl) (cL P9)),ct.q (b8 fun hd E' L' aB al=>o5 (i:=1) (k:=wV) (aN.id Int) (r:=(aE s1.1 wV)) bF (ab (aB _ _ rfl)) (al 1 _ rfl rfl) (cL P9).1 rfl rfl),ct.q (b8 fun hd E' L' aB al=>dD (eg (ab (aB _ _ rfl)) Js)),ct.q (fe (aT qL)),trivial⟩ fun jh=> ?_
     refine ah.dR (L2:=(⟨some D,.dj⟩ :: ⟨aq.1.1,.row 3 (s1.1:List Int) aq.1.2⟩ :: ⟨none,.row 3 (([]:List Int):List Int) 0⟩ :: ⟨some cC,.b4 ([]:List Int) [(0,a2 aq.1.1 s1.1.length aq.1.2)]⟩ :: ⟨none,.row 331 (([]:List Ref):List Ref) 0⟩ :: ⟨some bc,.b4 ([]:List Ref) [(0,a2 aq.2.1 s1.2.length aq.2.2)]⟩ :: ⟨aq.2.1,.row 331 (s1.2:List Ref) aq.2.2⟩ :: ⟨some aZ,.var (aj:ar)⟩ :: aV s2.2)) rfl ?_
     refine ah.le (E':= [(0,I.of (aa)),(1,I.of (aj)),(2,I.of (aP)),(4,I.eq (.pointer (some ⟨aZ,0,none⟩))),(6,I.of (false)),(8,I.of (aG.2)),(9,I.eq (.pointer (some ⟨bc,0,none⟩))),(10,I.eq (.pointer (some ⟨cC,0,none⟩))),(12,I.of (aE s1.2 cY)),(13,I.of (s2.1)),(22,I.of (!aG.2)),(31,I.gF 255 [I.ptr aJ.1,I.ptr aJ.2.1,I.ptr aJ.2.2]),(63,I.of (s2.1)),(64,I.of (decide (s2.1≥0))),(65,I.of (decide (s2.1≥0))),(66,I.cond ((decide (s2.1≥0))=true) (I.eq (a2 aq.2.1 s1.2.length aq.2.2))),(67,I.cond ((decide (s2.1≥0))=true) (I.of (s2.1))),(68,I.cond ((decide (s2.1≥0))=true) (I.of (bq (s2.1 + 1)))),(69,I.cond ((decide (s2.1≥0))=true) (I.eq (.pointer (some ⟨aq.2.1.getD 0,fu * 1,none⟩)))),(70,I.cond ((decide (s2.1≥0))=true) (I.of (aE s1.2 fu))),(71,I.cond ((decide (s2.1≥0))=true) (I.of (cw))),(72,I.of ((decide (s2.1≥0)) && cw)),(75,I.eq (a2 aq.2.1 s1.2.length aq.2.2)),(76,I.of (s2.1)),(77,I.eq (.pointer (some ⟨aq.2.1.getD 0,pz * 1,none⟩))),(78,I.of (aE s1.2 pz)),(79,I.eq (a2 aq.1.1 s1.1.length aq.1.2)),(80,I.of (s2.1)),(81,I.eq (.pointer (some ⟨aq.1.1.getD 0,wV * 1,none⟩))),(82,I.of (aE s1.1 wV)),(83,I.eq (.pointer (some ⟨qq,0,none⟩))),(84,I.eq (.pointer (some ⟨qq,0 + 0,none⟩)))]) (.same rfl (.same rfl (.same rfl (.same rfl (.same rfl (.same rfl (.same rfl (.same rfl (.same rfl (.same rfl (.same rfl (.same rfl (.same rfl (.same rfl (.same rfl (.same rfl (.same rfl (.same rfl (.same rfl (.same rfl (.same rfl (.same rfl (.same rfl (.same rfl (.same rfl (.same rfl (.same rfl (.same rfl (.same rfl (.same rfl (.same rfl (.same rfl .nil)))))))))))))))))))))))))))))))) ?_
     obtain⟨BX,PG,h⟩:=aw h
     refine bl (il (k:=BX) r3 (ab rfl) (ab rfl) (cL PG)) ?_
     obtain⟨oT,BV,h⟩:=aw h
     obtain⟨gj,Bp,h⟩:=aw h
     refine ah.nQ (k':=Cell.fQ ({ oT with cU:=fP oT.cU BX (none:Ref) } :dx)) 8 rfl (((aN.id dx).comp qA).comp (aN.idx (α:=Ref) 2 BX (cL PG).1)) (v:=((none:Ref):Ref)) dX (ab rfl) (qE) (iP BV) rfl rfl rfl rfl (aI Bp) ?_
     refine ah.nil ?_
     refine ae.ea ?_
     refine ae.next ?_
     refine ag.cz ?_
     refine aD ?_
     refine bm ix ?_
     refine aL ?_
     refine ah.nil ?_
     obtain rfl:=aI h
     exact gP () 0
    ·refine ag.exit ?_
     refine ae.exit ?_
     obtain rfl:=aI h
     exact eD () 0
   ·clear ao
    refine ae.fM ?_
    refine ae.next ?_
    refine ag.seq ?_
    refine aF ?_
    refine aD ?_
    refine bl (dD (eg (ab rfl) dh)) ?_
    refine aY (aT rO) ?_
    obtain⟨lH,yF,h⟩:=aw h
    refine bl (fA ((aN.id fv).comp ry) (r:=lH.cB) dX (ab rfl) (eM (n:=8) rfl (mb yF) rfl) rfl rfl) ?_
    obtain⟨dg,hW,h⟩:=aw h
    refine ah.iM (fG.jd 8 rfl OY (K5 hW) ⟨ab rfl,trivial⟩) rfl rfl rfl ?_
    refine aK ?_
    obtain⟨bp,ck,h⟩:=aw h
    refine ag.cy (γ:=Unit) (fun bN=> [(0,I.of (aa)),(1,I.of (aj)),(2,I.of (aP)),(4,I.eq (.pointer (some ⟨aZ,0,none⟩))),(6,I.of (false)),(8,I.of (aG.2)),(9,I.eq (.pointer (some ⟨bc,0,none⟩))),(10,I.eq (.pointer (some ⟨cC,0,none⟩))),(12,I.of (aE s1.2 cY)),(13,I.of (aX.1)),(22,I.of (!aG.2)),(31,I.gF 255 [I.ptr aJ.1,I.ptr aJ.2.1,I.ptr aJ.2.2]),(72,I.of (aX.2.1)),(90,I.of (dg))]) (fun bN=>(⟨some D,.dj⟩ :: ⟨aq.1.1,.row 3 (s1.1:List Int) aq.1.2⟩ :: ⟨none,.row 3 (([]:List Int):List Int) 0⟩ :: ⟨some cC,.b4 ([]:List Int) [(0,a2 aq.1.1 s1.1.length aq.1.2)]⟩ :: ⟨none,.row 331 (([]:List Ref):List Ref) 0⟩ :: ⟨some bc,.b4 ([]:List Ref) [(0,a2 aq.2.1 s1.2.length aq.2.2)]⟩ :: ⟨aq.2.1,.row 331 (s1.2:List Ref) aq.2.2⟩ :: ⟨some aZ,.var (aj:ar)⟩ :: aV bp)) (ab rfl) (fun bN=> ?_) (fun hm ak=> ?_) (fun hm ak=> ?_)
    ·clear ck
     refine ae.next ?_
     refine aF ?_
     refine aL ?_
     refine aK ?_
     refine ag.ret ?_
     obtain rfl:=aI h
     refine ae.tL 0 rfl rfl ?_
     exact ae.fi () (.cons _ (.cons _ (.cons _ (.cons _ (.cons _ (.cons _ (.cons _ (.cons _ (.refl _))))))))) rfl rfl (dv rfl)
    ·have h:=gZ ak ck
     refine ag.cz ?_
     refine aD ?_
     refine bl (dD (eg (ab rfl) dh)) ?_
     refine aY (aT rO) ?_
     obtain⟨po,I3,h⟩:=aw h
     refine ah.nQ (k':=Cell.jy ({ lH with cB:=(none:Ref) } :fv)) 8 rfl ((aN.id fv).comp ry) (v:=((none:Ref):Ref)) dX (ab rfl) (qE) (mb yF) rfl rfl rfl rfl (aI I3) ?_
     refine ah.nil ?_
     obtain rfl:=aI h
     exact dp 0 (hm ())
    ·have h:=g1 ak ck
     refine ag.skip ?_
     obtain rfl:=aI h
     exact dp 0 (hm ())
  ·exact Empty.elim az
theorem GO {aa:aA} {aj:aA} {r:Bool} (h:uN aa aj=some r):bK Tryz.prog 22 [I.of (aa),I.of (aj)] (I.of (r)):=by
 unfold uN at h
 refine bK.of Tryz.func22 rfl Tryz.ntmps22 rfl fun W A=> ?_
 refine aF ?_
 refine cj fun aZ=> ?_
 refine cj fun bc=> ?_
 refine aL ?_
 refine b0 ?_
 refine aY (aT ll) ?_
 refine cq 1 kq hf ?_
 refine aY (aT ll) ?_
 refine cq 0 kq hf ?_
 obtain⟨aG,bo,h⟩:=aw h
 refine e6 ZA (SY bo) ?_
 refine aD ?_
 refine ey (aT nR) ?_
 refine ep (fun hb=>eA (i:=1) ((aN.id aA).comp mD) (r:=aa.cd) bF (cb rfl hb) rfl rfl rfl) ?_
 refine ey (aT nR) ?_
 refine ep (fun hb=>eA (i:=0) ((aN.id aA).comp mD) (r:=aj.cd) bF (cb rfl hb) rfl rfl rfl) ?_
 refine kE gN ?_
 refine jB ?_
 refine aD ?_
 refine ey (aT NN) ?_
 refine ep (fun hb=>eA (i:=1) ((aN.id aA).comp Ge) (r:=aa.lL) bF (cb rfl hb) rfl rfl rfl) ?_
 refine ey (aT NN) ?_
 refine ep (fun hb=>eA (i:=0) ((aN.id aA).comp Ge) (r:=aj.lL) bF (cb rfl hb) rfl rfl rfl) ?_
 refine kE gN ?_
 refine jB ?_
 refine aL ?_
 refine aK ?_
 refine ag.ret ?_
 obtain rfl:=aI h
 exact cR
theorem Rk {aa:cu} {aj:Vector ar 4} {b9:Nat} {h2:Option Nat} {h3:Nat} {r:aA × Bool} (h:w5 aa aj=some r):bM Tryz.prog 266 [I.eq (.pointer (some ⟨b9,0,none⟩)),I.of (aj)] [⟨some b9,.b4 (({ aa with b1:= [] } :cu):cu) [(10,a2 h2 aa.b1.length h3)]⟩,⟨h2,.row 52 (aa.b1:List aA) h3⟩] (δ:=Unit) (fun d=>I.ed [I.of (r.1),I.of (r.2)]) (fun d=> [⟨some b9,.b4 (({ aa with b1:= [] } :cu):cu) [(10,a2 h2 (aa.b1).length h3)]⟩,⟨h2,.row 52 (aa.b1:List aA) h3⟩]):=by
 unfold w5 at h
 refine bM.ofM Tryz.func266 rfl Tryz.ntmps266 rfl fun W A=> ?_
 refine aF ?_
 refine cj fun aZ=> ?_
 refine c1 gh fun bc=> ?_
 refine c1 Fl fun cC=> ?_
 refine bO ?_
 refine aF ?_
 refine aD ?_
 refine bl (En Tryz.underlying170 (ab rfl)) ?_
 refine aK ?_
 refine ag.rY (ab rfl) rfl ?_
 refine cW ?_
 refine ag.seq ?_
 refine aF ?_
 refine aD ?_
 refine cG 2 jx ?_
 obtain⟨aG,bo,h⟩:=aw h
 refine e6 X7 (Rp bo) ?_
 refine aK ?_
 refine ag.block ?_
 refine ag.bz 4 rfl ?_
 refine ag.bz 4 rfl ?_
 obtain⟨av,ao,h⟩:=aw h
 refine UI (γ:=Unit) (g0:=()) (Lin:= [⟨some b9,.b4 (({ aa with b1:= [] } :cu):cu) [(10,a2 h2 aa.b1.length h3)]⟩,⟨h2,.row 52 (aa.b1:List aA) h3⟩]) (Ls:=fun s1 aq=> [⟨some cC,.var ((default:Bool):Bool)⟩,⟨some bc,.var ((default:aA):aA)⟩,⟨some aZ,.var (aj:Vector ar 4)⟩]) (Lx:=fun az aq=> [⟨some cC,.var (az.1:Bool)⟩,⟨some bc,.var (az.2:aA)⟩,⟨some aZ,.var (aj:Vector ar 4)⟩]) (fun az=> .ret) rfl X8 rfl Q8 ao rfl rfl (fun oK s1 r h aq k3 k8 k4 l D rec sq=> ?_) (fun s1 aR aq D=> ?_) (fun az aR aq D=> ?_)
 ·clear ao
  refine ag.cz ?_
  refine c1 gh fun fm=> ?_
  refine cA 0 cg ?_
  refine ah.nil ?_
  refine ae.begin 1 rfl sq ?_
  refine ag.block ?_
  refine aF ?_
  refine cG 0 cg ?_
  obtain⟨aJ,cr,h⟩:=aw h
  refine e6 yp (xu cr) ?_
  refine cA 4 cg ?_
  refine cA 3 gi ?_
  refine aK ?_
  refine ag.ret ?_
  refine ae.dn ?_
  obtain rfl:=aI h
  exact ae.HY () 1 rfl rfl rfl
 ·clear ao; subst aR; simp only [Sum.elim_inl] at h
  refine ae.dR (L2:= [⟨some D,.dj⟩,⟨some b9,.b4 (({ aa with b1:= [] } :cu):cu) [(10,a2 h2 aa.b1.length h3)]⟩,⟨h2,.row 52 (aa.b1:List aA) h3⟩,⟨some cC,.var ((default:Bool):Bool)⟩,⟨some bc,.var ((default:aA):aA)⟩,⟨some aZ,.var (aj:Vector ar 4)⟩]) rfl ?_
  refine ae.ea ?_
  refine ae.next ?_
  refine aF ?_
  refine hC yq gh (default:aA) .nil ?_
  refine cA 4 cg ?_
  refine cA 3 gi ?_
  refine aK ?_
  refine ag.ret ?_
  refine ae.bz 2 rfl ?_
  refine ae.bz 2 rfl ?_
  obtain rfl:=aI h
  refine ae.tL 2 rfl rfl ?_
  exact ae.ky () (.cons_cons _ (.cons_cons _ (List.nil_sublist _))) rfl rfl (ju (i:=4) cg rfl rfl) (ju (i:=3) gi rfl rfl)
 ·clear ao; subst aR; simp only [Sum.elim_inr] at h
  refine ag.ret ?_
  refine ae.dR (L2:= [⟨some D,.dj⟩,⟨some b9,.b4 (({ aa with b1:= [] } :cu):cu) [(10,a2 h2 aa.b1.length h3)]⟩,⟨h2,.row 52 (aa.b1:List aA) h3⟩,⟨some cC,.var (az.1:Bool)⟩,⟨some bc,.var (az.2:aA)⟩,⟨some aZ,.var (aj:Vector ar 4)⟩]) rfl ?_
  refine ae.dn ?_
  refine ae.ret ?_
  refine ae.bz 2 rfl ?_
  refine ae.bz 2 rfl ?_
  obtain rfl:=aI h
  refine ae.tL 2 rfl rfl ?_
  exact ae.ky () (.cons_cons _ (.cons_cons _ (List.nil_sublist _))) rfl rfl (ju (i:=4) cg rfl rfl) (ju (i:=3) gi rfl rfl)
theorem KX {hp:aS Cell} {y:gm} {aa:bu} {r:Int × Bool} (h:Df hp y aa=some r):ku Tryz.prog "matchguard/index.find" (I.of y) [I.of (aa)] ([] ++ aV hp) (δ:=Unit) (fun _=>I.ed [I.of (r.1),I.of (r.2)]) (fun _=> [] ++ aV hp):=by
 cases y with
 | nil=>cases h
 | mh z=>exact ku.of TU (fun A W u hu=>DM hu) (R4 h)
 | mi z=>exact ku.of TV (fun A W u hu=>DN hu) (RN h)
 | mj z=>exact ku.of TW (fun A W u hu=>DO hu) (R7 h)
theorem Se {hp:aS Cell} {aa:ja} {aj:aA} {Q:(aS Cell)→Prop} (h:zQ hp aa aj Q):bM Tryz.prog 262 [I.of (aa),I.of (aj)] ([] ++ aV hp) (δ:= {r:(aS Cell) // Q r} × Unit) (fun d=>I.ed []) (fun d=> [] ++ aV d.1.1):=by
 unfold zQ at h
 refine bM.of Tryz.func262 rfl Tryz.ntmps262 rfl fun W A=> ?_
 refine aF ?_
 refine cj fun aZ=> ?_
 refine cj fun bc=> ?_
 refine aK ?_
 refine ag.cz ?_
 refine aY (aT D7) ?_
 refine cq 1 zH Bf ?_
 refine cG 0 cg ?_
 obtain⟨ca,dh,h⟩:=ax.cv h
 obtain⟨bC,dP,h⟩:=ax.cv h
 obtain⟨aG,bo,h⟩:=ax.cv h
 refine ah.rm (eV.obj 2 (fun q:Option Nat × Nat=>Cell.q0 aG.2 q.1 q.2) rfl (tr dP) X9 (RD bo) rfl (fun _=>rfl) ⟨eg (ab rfl) dh,ab rfl,trivial⟩) rfl rfl rfl fun az=> ?_
 replace h:=ax.any_bind h az
 obtain⟨cS,kz,h⟩:=ax.cv h
 refine ah.dR (L2:=(⟨some bc,.var (aj:aA)⟩ :: ⟨some aZ,.var (aa:ja)⟩ :: aV cS)) (by rw [← aI kz]; rfl) ?_
 refine ah.nil ?_
 refine ae.nd ?_
 exact ae.kU (⟨⟨cS,h⟩,()⟩: {r // _} × _) (.cons _ (.cons _ (.refl _))) rfl rfl
theorem Ru {hp:aS Cell} {aa:gz} {aj:aA} {r:(aS Cell)} (h:zm hp aa aj=some r):bM Tryz.prog 238 [I.of (aa),I.of (aj)] ([] ++ aV hp) (δ:=Unit) (fun d=>I.ed []) (fun d=> [] ++ aV r):=by
 unfold zm at h
 refine bM.of Tryz.func238 rfl Tryz.ntmps238 rfl fun W A=> ?_
 refine aF ?_
 refine cj fun aZ=> ?_
 refine cj fun bc=> ?_
 refine b0 ?_
 refine cG 1 Bd ?_
 refine aY (aT ll) ?_
 refine cq 0 kq hf ?_
 obtain⟨aG,bo,h⟩:=aw h
 refine e6 ID (Gg bo) ?_
 refine aD ?_
 refine gr ?_
 refine gr ?_
 refine gr ?_
 refine c1 vy fun cC=> ?_
 refine c1 ek fun fm=> ?_
 refine cA 1 j7 ?_
 refine cA 0 bQ ?_
 refine aL ?_
 refine bO ?_
 obtain⟨ca,dh,h⟩:=aw h
 obtain⟨bC,dP,h⟩:=aw h
 obtain⟨bE,dE,h⟩:=aw h
 refine ag.draw mixed 6 [some 15,some 16,some 17,some 18,some 19,some 20] [[],[0],[],[1,2],[],[]] [.val _,.val _,.val _,.val _,.val _,.val _] [false,false,false,false,false,false] (by kernel_rfl) rfl rfl rfl (fun da=>⟨H1 (aT rP),dz 3 qz qX,fy 1 j7,dO fun L' al=>vb (r:=bE) Tryz.underlying167 tD yf (l7 (ab rfl) dh) (ab rfl) (kc (fun i e q=>al i e q rfl) (eM (n:=4) rfl (mc dP) rfl)) (aI dE),fy 0 bQ,cZ,trivial⟩) fun da=> ?_
 obtain⟨aJ,cr,h⟩:=aw h
 refine ah.iR 4 0 rfl Ya (Sd cr) rfl rfl ⟨ab rfl,ab rfl,ab rfl,trivial⟩ rfl fun az=> ?_
 refine ah.dR (L2:=(⟨some fm,.var (aG.2.1:ar)⟩ :: ⟨some cC,.var (aG.1:Vector ar 4)⟩ :: ⟨some bc,.var (aj:aA)⟩ :: ⟨some aZ,.var (aa:gz)⟩ :: aV aJ.2)) rfl ?_
 refine b0 ?_
 refine aY (aT rP) ?_
 refine cq 3 qz qX ?_
 refine cG 1 j7 ?_
 obtain⟨cf,fk,h⟩:=aw h
 obtain⟨dt,hD,h⟩:=aw h
 refine bl (vb (r:=dt) Tryz.underlying167 tD yf (l7 (ab rfl) dh) (ab rfl) (eM (n:=4) rfl (mc fk) rfl) (aI hD)) ?_
 obtain⟨bh,e7,h⟩:=aw h
 refine ah.iM (fG.jd 4 rfl Yb (Sr e7) ⟨ab rfl,trivial⟩) rfl rfl rfl ?_
 refine bm gN ?_
 refine aK ?_
 obtain⟨bp,ck,h⟩:=aw h
 refine ag.cy (γ:=Unit) (fun aq=> [(0,I.of (aa)),(1,I.of (aj)),(2,I.eq (.pointer (some ⟨aZ,0,none⟩))),(3,I.eq (.pointer (some ⟨bc,0,none⟩))),(4,I.eq (.pointer (some ⟨cC,0,none⟩))),(5,I.eq (.pointer (some ⟨fm,0,none⟩))),(6,I.of (aG.2.2)),(27,I.of (bh ==0))]) (fun aq=>(⟨some fm,.var (aG.2.1:ar)⟩ :: ⟨some cC,.var (aG.1:Vector ar 4)⟩ :: ⟨some bc,.var (aj:aA)⟩ :: ⟨some aZ,.var (aa:gz)⟩ :: aV bp)) (ab rfl) (fun aq=> ?_) (fun hm ak=> ?_) (fun hm ak=> ?_)
 ·clear ck
  refine ae.nd ?_
  obtain rfl:=aI h
  exact ae.kU () (.cons _ (.cons _ (.cons _ (.cons _ (.refl _))))) rfl rfl
 ·have h:=gZ ak ck
  refine ag.cz ?_
  refine aY (aT rP) ?_
  refine cq 3 qz qX ?_
  refine cG 1 j7 ?_
  obtain⟨cS,kz,h⟩:=aw h
  refine ah.Iw (k':=Cell.lS (hR cf aG.1)) 4 rfl Tryz.underlying167 tD (l7 (ab rfl) dh) (ab rfl) (mc fk) rfl rfl rfl (aI kz) ?_
  refine ah.nil ?_
  obtain rfl:=aI h
  exact dp 0 (hm ())
 ·have h:=g1 ak ck
  refine ag.skip ?_
  obtain rfl:=aI h
  exact dp 0 (hm ())
theorem Sx {aa:List aA} {aj:List aA} {r:Bool} (h:z1 aa aj=some r):bK Tryz.prog 52 [I.of (aa),I.of (aj)] (I.of (r)):=by
 unfold z1 at h
 refine bK.of Tryz.func52 rfl Tryz.ntmps52 rfl fun W A=> ?_
 refine aF ?_
 refine aL ?_
 refine bO ?_
 refine aF ?_
 refine aD ?_
 refine aY (eK Tryz.underlying38) ?_
 refine aD ?_
 refine aY (eK Tryz.underlying38) ?_
 refine bm qV ?_
 refine aK ?_
 refine cm h (fun h=>?_) fun h=>?_
 ·refine aF ?_
  refine aL ?_
  refine aK ?_
  refine ag.ret ?_
  refine ae.ret ?_
  obtain rfl:=aI h
  exact cR
 ·refine cW ?_
  refine ag.seq ?_
  refine aF ?_
  refine aD ?_
  refine aY (eK Tryz.underlying38) ?_
  refine aD ?_
  refine aK ?_
  refine ag.block ?_
  obtain⟨av,ao,h⟩:=aw h
  refine hT (γ:=Unit) (δ:=Unit) ao [0,1,4,10,12] (fun s1 aq=> [(13,I.of (s1))]) (fun s1 aq=> []) (fun az=>Sum.elim (fun az=>Exit.exit 0) (fun az=>Exit.ret) az) (fun az aq=>Sum.elim (fun az=> [(13,I.of (az.1)),(14,I.of (az.2))]) (fun az=> [(5,I.of (az.1)),(13,I.of (az.2.1)),(14,I.of (az.2.2.1)),(25,I.of (az.2.2.2))]) az) (fun az aq=>Sum.elim (fun az=> []) (fun az=> []) az) () (fun s1 r h aq=> ?_) fun aq=> ?_
  ·clear ao
   refine aF ?_
   refine bm eT ?_
   refine bO ?_
   refine cm h (fun h=>?_) fun h=>?_
   ·refine cW ?_
    refine ag.seq ?_
    refine ag.block ?_
    refine aF ?_
    refine aD ?_
    refine aL ?_
    refine bO ?_
    obtain⟨a8,cE,h⟩:=aw h
    obtain⟨bY,cX,h⟩:=aw h
    obtain⟨aG,bo,h⟩:=aw h
    refine ag.draw mixed 10 [some 16,some 17,some 18,some 19,some 20,some 21,some 22,some 23,some 24,some 25] [[],[],[0,1],[2],[],[],[4,5],[6],[3,7],[8]] [.val _,.val _,.val _,.val _,.val _,.val _,.val _,.val _,.val _,.val _] [false,false,false,false,false,false,false,false,false,false] (by kernel_rfl) rfl rfl rfl (fun da=>⟨cZ,cZ,nj cE Tryz.underlying38 cg,H1 (dV cg),cZ,cZ,nj cX Tryz.underlying38 cg,H1 (dV cg),fl I4 (GO bo),H1 hP,trivial⟩) fun da=> ?_
    refine aK ?_
    refine cm h (fun h=>?_) fun h=>?_
    ·refine aF ?_
     refine aL ?_
     refine aK ?_
     refine ag.ret ?_
     refine ae.dn ?_
     refine ae.ret ?_
     obtain rfl:=aI h
     exact eD () 0
    ·refine ag.skip ?_
     refine ae.ea ?_
     refine ae.next ?_
     refine ag.cz ?_
     refine bm dI ?_
     refine aD ?_
     refine ah.nil ?_
     obtain rfl:=aI h
     exact gP () 0
   ·refine ag.exit ?_
    refine ae.exit ?_
    obtain rfl:=aI h
    exact eD () 0
  ·clear ao
   rcases av with av | av
   ·simp only [Sum.elim_inl] at h
    refine ae.fM ?_
    refine ae.next ?_
    refine aF ?_
    refine aL ?_
    refine aK ?_
    refine ag.ret ?_
    obtain rfl:=aI h
    exact cR
   ·simp only [Sum.elim_inr] at h
    refine ae.dn ?_
    refine ae.ret ?_
    obtain rfl:=aI h
    exact cR
theorem RO {hp:aS Cell} {aa:ja} {aj:Vector ar 4} {r:Int × Bool} (h:zw hp aa aj=some r):bM Tryz.prog 261 [I.of (aa),I.of (aj)] ([] ++ aV hp) (δ:=Unit) (fun _=>I.ed [I.of (r.1),I.of (r.2)]) (fun _=> [] ++ aV hp):=by
 unfold zw at h
 refine bM.of Tryz.func261 rfl Tryz.ntmps261 rfl fun W A=> ?_
 refine aF ?_
 refine cj fun aZ=> ?_
 refine cj fun bc=> ?_
 refine aL ?_
 refine aL ?_
 refine b0 ?_
 refine aY (aT D7) ?_
 refine cq 1 zH Bf ?_
 refine cG 0 jx ?_
 obtain⟨ca,dh,h⟩:=aw h
 obtain⟨bC,dP,h⟩:=aw h
 obtain⟨aG,bo,h⟩:=aw h
 refine ah.iM (fG.obj 2 rfl (tr dP) Yc (Rk bo) rfl ⟨eg (ab rfl) dh,ab rfl,trivial⟩) rfl rfl rfl ?_
 refine aD ?_
 refine gr ?_
 refine gr ?_
 refine c1 gh fun cC=> ?_
 refine cA 0 cg ?_
 refine aL ?_
 refine b0 ?_
 refine aY (aT nR) ?_
 refine cq 0 mD bF ?_
 refine aD ?_
 refine aL ?_
 refine aL ?_
 refine aK ?_
 refine ag.ret ?_
 obtain rfl:=aI h
 exact ae.ky () (.cons _ (.cons _ (.cons _ (.refl _)))) rfl rfl (dv rfl) (dv rfl)
theorem R8 {hp:aS Cell} {y:gm} {aa:aA} {Q:(aS Cell)→Prop} (h:Gy hp y aa Q):ku Tryz.prog "matchguard/index.put" (I.of y) [I.of (aa)] ([] ++ aV hp) (δ:= {r:(aS Cell) // Q r} × Unit) (fun d=>I.ed []) (fun d=> [] ++ aV d.1.1):=by
 cases y with
 | nil=>exact h.elim
 | mh z=>
   obtain⟨r,J,ad⟩:=h
   exact ku.of TX (fun A W u hu=>DM hu) (bM.map (fun d=>(⟨r,ad⟩,d)) (fun _=>rfl) (fun _=>rfl) (Sc J))
 | mi z=>exact ku.of TY (fun A W u hu=>DN hu) (RW h)
 | mj z=>exact ku.of TZ (fun A W u hu=>DO hu) (Se h)
theorem Sf {hp:aS Cell} {aa:Ref} {aj:bu} {r:aA × Bool} (h:zR hp aa aj=some r):bM Tryz.prog 40 [I.of (aa),I.of (aj)] ([] ++ aV hp) (δ:=Unit) (fun _=>I.ed [I.of (r.1),I.of (r.2)]) (fun _=> [] ++ aV hp):=by
 unfold zR at h
 refine bM.of Tryz.func40 rfl Tryz.ntmps40 rfl fun W A=> ?_
 refine aF ?_
 refine cj fun aZ=> ?_
 refine c1 gh fun bc=> ?_
 refine aL ?_
 refine bO ?_
 refine aF ?_
 refine aD ?_
 refine bl (mE Tryz.underlying37 (ab rfl)) ?_
 refine aK ?_
 refine cm h (fun h=>?_) fun h=>?_
 ·refine aF ?_
  refine hC yq gh (default:aA) .nil ?_
  refine cA 0 cg ?_
  refine aL ?_
  refine aK ?_
  refine ag.ret ?_
  refine ae.ret ?_
  obtain rfl:=aI h
  exact ae.ky () (.cons _ (.cons _ (.refl _))) rfl rfl (ju (i:=0) cg rfl rfl) (dv rfl)
 ·refine cW ?_
  refine ag.seq ?_
  obtain⟨ca,dh,h⟩:=aw h
  obtain⟨bC,dP,h⟩:=aw h
  obtain⟨aG,bo,h⟩:=aw h
  refine iz [0,1,3,4,5,8,9] ?_
  refine ag.pP 2 mixed (a6 12 [] [] _ :: a6 13 (0 :: []) [] _ :: a6 14 (1 :: []) [] _ :: ⟨some 15,(2 :: []),[],[],fun _=>I.of (bC.iu),fun _ _=>⟨none,.dead⟩⟩ :: a6 16 [] (1 :: []) _ :: ⟨some 17,(3 :: 4 :: []),[],[],fun _=>I.ed [I.of (aG.1),I.of (aG.2)],fun _ _=>⟨none,.dead⟩⟩ :: a6 11 (5 :: []) [] _ :: a6 18 (6 :: []) [] _ :: a6 19 (6 :: []) [] _ :: a6 6 (7 :: []) [] _ :: a6 7 (8 :: []) [] _ :: []) _ (0 :: 1 :: 3 :: 4 :: 5 :: 8 :: 9 :: []) rfl rfl (by kernel_rfl) (by kernel_rfl) ⟨ct.q (e2),ct.q (b8 fun hd E' L' aB al=>dD (eg (ab (aB _ _ rfl)) dh)),ct.q (fe (aT ti)),?_,ct.q (lW 1 hf),?_,ct.q (e2),ct.q (b8 fun hd E' L' aB al=>lq (ab (aB _ _ rfl)) rfl),ct.q (b8 fun hd E' L' aB al=>lq (ab (aB _ _ rfl)) rfl),ct.q (b8 fun hd E' L' aB al=>eB (ab (aB _ _ rfl))),ct.q (b8 fun hd E' L' aB al=>eB (ab (aB _ _ rfl))),trivial⟩ fun eP=> ?_
  ·intro hd E' L' aB al de
   refine bl (fA ((aN.id gA).comp sW) (r:=bC.iu) rW (ab (aB _ _ rfl)) (eM (n:=2) (de.trans rfl) (lN dP) rfl) rfl rfl) ?_
   refine ah.nil ?_
   exact ae.fin (dY []) rfl rfl
  ·intro hd E' L' aB al de
   refine ah.iM (fG.yr 2 (de.trans rfl) (KX bo) ⟨ab (aB _ _ rfl),ab (aB _ _ rfl),trivial⟩) rfl rfl rfl ?_
   refine ah.nil ?_
   exact ae.fin (dY []) rfl rfl
  refine ae.dR (L2:=(⟨some bc,.var ((default:aA):aA)⟩ :: ⟨some aZ,.var (aj:bu)⟩ :: aV hp)) rfl ?_
  refine jC [0,1,3,4,5,6,7,8,9,11,12,13,14,15,16,17,18,19] ?_
  refine ae.next ?_
  refine aF ?_
  refine aD ?_
  refine aD ?_
  refine aD ?_
  obtain⟨aJ,cr,h⟩:=aw h
  refine ah.iM (fG.jd 2 rfl PH (K1 cr) ⟨ab rfl,ab rfl,ab rfl,trivial⟩) rfl rfl rfl ?_
  refine gr ?_
  refine gr ?_
  refine cA 0 cg ?_
  refine aL ?_
  refine aK ?_
  refine ag.ret ?_
  obtain rfl:=aI h
  exact ae.ky () (.cons _ (.cons _ (.refl _))) rfl rfl (ju (i:=0) cg rfl rfl) (dv rfl)
theorem RE {hp:aS Cell} {y:gm} {aa:aA} {Q:(aS Cell)→Prop} (h:Gk hp y aa Q):ku Tryz.prog "matchguard/index.remove" (I.of y) [I.of (aa)] ([] ++ aV hp) (δ:= {r:(aS Cell) // Q r} × Unit) (fun d=>I.ed []) (fun d=> [] ++ aV d.1.1):=by
 cases y with
 | nil=>exact h.elim
 | mh z=>
   obtain⟨r,J,ad⟩:=h
   exact ku.of T0 (fun A W u hu=>DM hu) (bM.map (fun d=>(⟨r,ad⟩,d)) (fun _=>rfl) (fun _=>rfl) (RK J))
 | mi z=>
   obtain⟨r,J,ad⟩:=h
   exact ku.of T1 (fun A W u hu=>DN hu) (bM.map (fun d=>(⟨r,ad⟩,d)) (fun _=>rfl) (fun _=>rfl) (Ru J))
 | mj z=>exact ku.of T2 (fun A W u hu=>DO hu) (RL h)
theorem RF {hp:aS Cell} {y:gm} {aa:Vector ar 4} {r:Int × Bool} (h:Gl hp y aa=some r):ku Tryz.prog "matchguard/index.lookup" (I.of y) [I.of (aa)] ([] ++ aV hp) (δ:=Unit) (fun _=>I.ed [I.of (r.1),I.of (r.2)]) (fun _=> [] ++ aV hp):=by
 cases y with
 | nil=>cases h
 | mh z=>exact ku.of T3 (fun A W u hu=>DM hu) (RG h)
 | mi z=>exact ku.of T4 (fun A W u hu=>DN hu) (Rt h)
 | mj z=>exact ku.of T5 (fun A W u hu=>DO hu) (RO h)
theorem GH {hp:aS Cell} {aa:Ref} {aj:aA} {Q:Bool × (aS Cell)→Prop} (h:uI hp aa aj Q):bM Tryz.prog 44 [I.of (aa),I.of (aj)] ([] ++ aV hp) (δ:= {r:Bool × (aS Cell) // Q r} × Unit) (fun d=>I.of (d.1.1.1)) (fun d=> [] ++ aV d.1.1.2):=by
 unfold uI at h
 refine bM.of Tryz.func44 rfl Tryz.ntmps44 rfl fun W A=> ?_
 refine aF ?_
 refine cj fun aZ=> ?_
 refine aL ?_
 refine bO ?_
 refine aF ?_
 refine aD ?_
 refine bl (mE Tryz.underlying37 (ab rfl)) ?_
 refine aK ?_
 refine ag.cond (ab rfl) (fun ak=> ?_) (fun ak=> ?_)
 ·replace h:=mF ak h
  refine aF ?_
  refine aL ?_
  refine aK ?_
  refine ag.ret ?_
  refine ae.ret ?_
  exact ae.fi (⟨⟨(false,hp),h⟩,()⟩: {r // _} × _) (.cons _ (.refl _)) rfl rfl (dv rfl)
 ·replace h:=mG ak h
  refine cW ?_
  refine ag.seq ?_
  obtain⟨ca,dh,h⟩:=ax.cv h
  obtain⟨bC,dP,h⟩:=ax.cv h
  obtain⟨b2,eZ,h⟩:=ax.cv h
  obtain⟨cf,fk,h⟩:=ax.cv h
  obtain⟨bE,dE,h⟩:=ax.cv h
  refine ag.OZ 1 1 ?_
  refine iz [0,1,3,4,9,10] ?_
  refine ag.pP 2 mixed (a6 12 [] [] _ :: a6 13 (0 :: []) [] _ :: a6 14 (1 :: []) [] _ :: ⟨some 15,(2 :: []),[],[],fun _=>I.of (bC.ks),fun _ _=>⟨none,.dead⟩⟩ :: a6 16 [] [] _ :: a6 17 (4 :: []) (0 :: []) _ :: ⟨some 18,(3 :: 5 :: []),[],[],fun _=>I.ed [I.of (bE.getD default),I.of (bE.isSome)],fun _ _=>⟨none,.dead⟩⟩ :: a6 11 (6 :: []) [] _ :: a6 19 (7 :: []) [] _ :: a6 20 (7 :: []) [] _ :: ⟨some 5,[],(1 :: []),(1 :: []),fun hd=>I.eq (.pointer (some ⟨((hd 10 0).getD 0),0,none⟩)),fun hd _=>⟨some ((hd 10 0).getD 0),.var ((default:aA):aA)⟩⟩ :: ⟨none,(8 :: 10 :: []),(1 :: []),(1 :: []),fun _=>I.any,fun hd _=>⟨some ((hd 10 0).getD 0),.var (bE.getD default:aA)⟩⟩ :: a6 6 (9 :: []) [] _ :: []) _ (0 :: 1 :: 3 :: 4 :: 9 :: 10 :: []) rfl rfl (by kernel_rfl) (by kernel_rfl) ⟨ct.q (e2),ct.q (b8 fun hd E' L' aB al=>dD (eg (ab (aB _ _ rfl)) dh)),ct.q (fe (aT AK)),?_,ct.q (fe (aT nR)),ct.q (n6 0 mD bF),?_,ct.q (e2),ct.q (b8 fun hd E' L' aB al=>lq (ab (aB _ _ rfl)) rfl),ct.q (b8 fun hd E' L' aB al=>lq (ab (aB _ _ rfl)) rfl),?_,?_,ct.q (b8 fun hd E' L' aB al=>eB (ab (aB _ _ rfl))),trivial⟩ fun eP=> ?_
  ·intro hd E' L' aB al de
   refine bl (fA ((aN.id gA).comp w6) (r:=bC.ks) ye (ab (aB _ _ rfl)) (eM (n:=2) (de.trans rfl) (lN dP) rfl) rfl rfl) ?_
   refine ah.nil ?_
   exact ae.fin (dY []) rfl rfl
  ·intro hd E' L' aB al de
   refine bl (Ha (r:=bE) Tryz.underlying133 Fo gh (l7 (ab (aB _ _ rfl)) eZ) (ab (aB _ _ rfl)) (eM (n:=2) (de.trans rfl) (qQ fk) rfl) (aI dE)) ?_
   refine ah.nil ?_
   exact ae.fin (dY []) rfl rfl
  ·intro hd E' L' aB al de
   refine c1 gh fun bc=> ?_
   refine ah.nil ?_
   refine ae.place 1 (al 1 _ rfl rfl) ?_
   exact ae.fin (dY [some bc]) rfl rfl
  ·intro hd E' L' aB al de
   refine ah.store (i:=1) (aN.id aA) (v:=(bE.getD default:aA)) (b':=(bE.getD default:aA)) cg (ab (aB _ _ rfl)) (ab (aB _ _ rfl)) (al 1 _ rfl rfl) rfl rfl ?_
   refine ah.nil ?_
   exact ae.fin (dY []) rfl rfl
  refine ae.dR (L2:=(⟨some aZ,.var (aj:aA)⟩ :: ⟨some ((eP 10 0).getD 0),.var (bE.getD default:aA)⟩ :: aV hp)) rfl ?_
  refine jC [0,1,3,4,5,6,9,10,11,12,13,14,15,16,17,18,19,20] ?_
  refine ae.bz 1 rfl ?_
  refine ae.next ?_
  refine ag.seq ?_
  refine ag.seq ?_
  obtain⟨lG,q8,h⟩:=ax.cv h
  obtain⟨eH,lv,h⟩:=ax.cv h
  obtain⟨aG,bo,h⟩:=ax.cv h
  refine iz [0,1,3,4,5,6,9,10,11,12,13,14,15,16,17,18,19,20] ?_
  refine ag.pP 2 mixed (a6 22 [] [] _ :: a6 23 (0 :: []) [] _ :: a6 24 (1 :: []) [] _ :: ⟨some 25,(2 :: []),[],[],fun _=>I.of (eH.iu),fun _ _=>⟨none,.dead⟩⟩ :: a6 26 [] [] _ :: a6 27 (4 :: []) (1 :: []) _ :: ⟨some 28,(3 :: 5 :: []),[],[],fun _=>I.ed [I.of (aG.1),I.of (aG.2)],fun _ _=>⟨none,.dead⟩⟩ :: a6 21 (6 :: []) [] _ :: a6 29 (7 :: []) [] _ :: a6 30 (7 :: []) [] _ :: a6 7 (8 :: []) [] _ :: a6 8 (9 :: []) [] _ :: []) _ (0 :: 1 :: 3 :: 4 :: 5 :: 6 :: 9 :: 10 :: 11 :: 12 :: 13 :: 14 :: 15 :: 16 :: 17 :: 18 :: 19 :: 20 :: []) rfl rfl (by kernel_rfl) (by kernel_rfl) ⟨ct.q (e2),ct.q (b8 fun hd E' L' aB al=>dD (eg (ab (aB _ _ rfl)) q8)),ct.q (fe (aT ti)),?_,ct.q (fe (aT ll)),ct.q (n6 1 kq hf),?_,ct.q (e2),ct.q (b8 fun hd E' L' aB al=>lq (ab (aB _ _ rfl)) rfl),ct.q (b8 fun hd E' L' aB al=>lq (ab (aB _ _ rfl)) rfl),ct.q (b8 fun hd E' L' aB al=>eB (ab (aB _ _ rfl))),ct.q (b8 fun hd E' L' aB al=>eB (ab (aB _ _ rfl))),trivial⟩ fun jh=> ?_
  ·intro hd E' L' aB al de
   refine bl (fA ((aN.id gA).comp sW) (r:=eH.iu) rW (ab (aB _ _ rfl)) (eM (n:=2) (de.trans rfl) (lN lv) rfl) rfl rfl) ?_
   refine ah.nil ?_
   exact ae.fin (dY []) rfl rfl
  ·intro hd E' L' aB al de
   refine ah.iM (fG.yr 2 (de.trans rfl) (KX bo) ⟨ab (aB _ _ rfl),ab (aB _ _ rfl),trivial⟩) rfl rfl rfl ?_
   refine ah.nil ?_
   exact ae.fin (dY []) rfl rfl
  refine ae.dR (L2:=(⟨some ((eP 10 0).getD 0),.var (bE.getD default:aA)⟩ :: ⟨some aZ,.var (aj:aA)⟩ :: aV hp)) rfl ?_
  refine jC [0,1,3,4,5,6,7,8,9,10,11,12,13,14,15,16,17,18,19,20,21,22,23,24,25,26,27,28,29,30] ?_
  refine ae.next ?_
  refine aF ?_
  refine aD ?_
  refine aD ?_
  refine ey cM ?_
  refine sl ?_
  refine aK ?_
  refine ag.cond (ab rfl) (fun ak=> ?_) (fun ak=> ?_)
  ·replace h:=mF ak h
   refine aF ?_
   refine aL ?_
   refine aK ?_
   refine ag.ret ?_
   refine ae.ret ?_
   exact ae.fi (⟨⟨(false,hp),h⟩,()⟩: {r // _} × _) (.cons _ (.cons _ (.refl _))) rfl rfl (dv rfl)
  ·replace h:=mG ak h
   refine cW ?_
   refine ag.seq ?_
   obtain⟨FY,Qa,h⟩:=ax.cv h
   obtain⟨od,BU,h⟩:=ax.cv h
   obtain⟨aJ,cr,h⟩:=ax.cv h
   refine ag.draw mixed 8 [some 35,some 36,some 37,some 38,some 39,some 40,some 41,some 42] [[],[0],[1],[2],[],[4],[],[6]] [.val _,.val _,.val _,.val _,.val _,.val _,.val _,.val _] [false,false,false,false,false,false,false,false] (by kernel_rfl) rfl rfl rfl (fun da=>⟨cZ,dO fun L' al=>dD (eg (ab rfl) Qa),H1 (aT AK),dO fun L' al=>fA ((aN.id gA).comp w6) (r:=od.ks) ye (ab rfl) (kc (fun i e q=>al i e q rfl) (eM (n:=2) rfl (lN BU) rfl)) rfl rfl,H1 (aT nR),dz 1 mD bF,fy 1 cg,fl yp (xu cr),trivial⟩) fun da=> ?_
   obtain⟨qq,Js,h⟩:=ax.cv h
   obtain⟨oT,BV,h⟩:=ax.cv h
   obtain⟨cS,kz,h⟩:=ax.cv h
   refine ah.Ir (k':=Cell.kb (gO oT aj.cd aJ)) 2 rfl (by first | exact .inl rfl | exact .inr rfl) Tryz.underlying133 Fo (l7 (ab rfl) Js) (ab rfl) (ab rfl) (qQ BV) rfl rfl rfl (aI kz) ?_
   refine bO ?_
   obtain⟨lH,yF,h⟩:=ax.cv h
   refine ag.draw mixed 5 [some 43,some 44,some 45,some 46,some 47] [[],[0],[1],[2],[]] [.val _,.val _,.val _,.val _,.val _] [false,false,false,false,false] (by kernel_rfl) rfl rfl rfl (fun kg=>⟨cZ,dO fun L' al=>dD (eg (ab rfl) Qa),H1 (aT ti),dO fun L' al=>fA ((aN.id gA).comp sW) (r:=lH.iu) rW (ab rfl) (kc (fun i e q=>al i e q rfl) (eM (n:=2) rfl (lN yF) rfl)) rfl rfl,fy 1 cg,trivial⟩) fun kg=> ?_
   refine ah.yr 2 0 rfl (R8 h) rfl rfl ⟨ab rfl,ab rfl,trivial⟩ rfl fun⟨⟨bh,h⟩,az⟩=> ?_
   refine ah.dR (L2:=(⟨some ((eP 10 0).getD 0),.var (bE.getD default:aA)⟩ :: ⟨some aZ,.var (aj:aA)⟩ :: aV bh)) rfl ?_
   refine b0 ?_
   refine aL ?_
   refine aK ?_
   refine ag.ret ?_
   exact ae.fi (⟨⟨(true,bh),h⟩,()⟩: {r // _} × _) (.cons _ (.cons _ (.refl _))) rfl rfl (dv rfl)
theorem RX {hp:aS Cell} {aa:Ref} {aj:bu} {Q:aA × Bool × (aS Cell)→Prop} (h:zE hp aa aj Q):bM Tryz.prog 41 [I.of (aa),I.of (aj)] ([] ++ aV hp) (δ:= {r:aA × Bool × (aS Cell) // Q r} × Unit) (fun d=>I.ed [I.of (d.1.1.1),I.of (d.1.1.2.1)]) (fun d=> [] ++ aV d.1.1.2.2):=by
 unfold zE at h
 refine bM.of Tryz.func41 rfl Tryz.ntmps41 rfl fun W A=> ?_
 refine aF ?_
 refine cj fun aZ=> ?_
 refine c1 gh fun bc=> ?_
 refine aL ?_
 refine b0 ?_
 refine aD ?_
 refine cG 1 hf ?_
 obtain⟨aG,bo,h⟩:=ax.cv h
 refine ah.iM (fG.jd 2 rfl ZB (Sf bo) ⟨ab rfl,ab rfl,trivial⟩) rfl rfl rfl ?_
 refine aD ?_
 refine gr ?_
 refine gr ?_
 refine c1 gh fun cC=> ?_
 refine cA 0 cg ?_
 refine aL ?_
 refine bO ?_
 refine aF ?_
 refine aD ?_
 refine aK ?_
 refine ag.xX (γ:=Unit) h (fun bp aq=> [(0,I.of (aa)),(1,I.of (aj)),(3,I.eq (.pointer (some ⟨aZ,0,none⟩))),(4,I.eq (.pointer (some ⟨bc,0,none⟩))),(5,I.of (false)),(6,I.eq (.pointer (some ⟨cC,0,none⟩))),(7,I.of (aG.2)),(14,I.of (aG.2))]) (fun bp aq=>(⟨some cC,.var (aG.1:aA)⟩ :: ⟨some bc,.var ((default:aA):aA)⟩ :: ⟨some aZ,.var (aj:bu)⟩ :: aV bp)) (ab rfl) (fun bp aq h=> ?_) (fun hm ak h=> ?_) (fun hm ak h=> ?_)
 ·refine ae.next ?_
  refine aF ?_
  refine cG 0 cg ?_
  refine aD ?_
  refine cA 1 cg ?_
  refine aL ?_
  refine aK ?_
  refine ag.ret ?_
  exact ae.ky (⟨⟨(aG.1,aG.2,bp),h⟩,()⟩: {r // _} × _) (.cons _ (.cons _ (.cons _ (.refl _)))) rfl rfl (ju (i:=1) cg rfl rfl) (dv rfl)
 ·refine ag.seq ?_
  obtain⟨ca,dh,h⟩:=ax.cv h
  obtain⟨bC,dP,h⟩:=ax.cv h
  refine ag.draw mixed 5 [some 15,some 16,some 17,some 18,some 19] [[],[0],[1],[2],[]] [.val _,.val _,.val _,.val _,.val _] [false,false,false,false,false] (by kernel_rfl) rfl rfl rfl (fun da=>⟨cZ,dO fun L' al=>dD (eg (ab rfl) dh),H1 (aT ti),dO fun L' al=>fA ((aN.id gA).comp sW) (r:=bC.iu) rW (ab rfl) (kc (fun i e q=>al i e q rfl) (eM (n:=3) rfl (lN dP) rfl)) rfl rfl,fy 0 cg,trivial⟩) fun da=> ?_
  refine ah.yr 3 0 rfl (RE h) rfl rfl ⟨ab rfl,ab rfl,trivial⟩ rfl fun⟨⟨aJ,h⟩,az⟩=> ?_
  refine ah.dR (L2:=(⟨some cC,.var (aG.1:aA)⟩ :: ⟨some bc,.var ((default:aA):aA)⟩ :: ⟨some aZ,.var (aj:bu)⟩ :: aV aJ)) rfl ?_
  refine aK ?_
  obtain⟨cf,fk,h⟩:=ax.cv h
  refine ag.draw mixed 6 [some 21,some 22,some 23,some 24,some 25,some 26] [[],[0],[1],[2],[],[4]] [.val _,.val _,.val _,.val _,.val _,.val _] [false,false,false,false,false,false] (by kernel_rfl) rfl rfl rfl (fun kg=>⟨cZ,dO fun L' al=>dD (eg (ab rfl) dh),H1 (aT AK),dO fun L' al=>fA ((aN.id gA).comp w6) (r:=cf.ks) ye (ab rfl) (kc (fun i e q=>al i e q rfl) (eM (n:=3) rfl (lN fk) rfl)) rfl rfl,H1 (aT nR),dz 0 mD bF,trivial⟩) fun kg=> ?_
  obtain⟨b2,eZ,h⟩:=ax.cv h
  obtain⟨eH,lv,h⟩:=ax.cv h
  obtain⟨cS,kz,h⟩:=ax.cv h
  refine ah.Iw (k':=Cell.kb (hR eH aG.1.cd)) 3 rfl Tryz.underlying133 Fo (l7 (ab rfl) eZ) (ab rfl) (qQ lv) rfl rfl rfl (aI kz) ?_
  refine ah.nil ?_
  exact dp 0 (hm cS () h)
 ·refine ag.skip ?_
  exact dp 0 (hm hp () h)
theorem KY {hp:aS Cell} {aa:Ref} {aj:Vector ar 4} {r:aA × Bool} (h:xg hp aa aj=some r):bM Tryz.prog 20 [I.of (aa),I.of (aj)] ([] ++ aV hp) (δ:=Unit) (fun _=>I.ed [I.of (r.1),I.of (r.2)]) (fun _=> [] ++ aV hp):=by
 unfold xg at h
 refine bM.of Tryz.func20 rfl Tryz.ntmps20 rfl fun W A=> ?_
 refine aF ?_
 refine cj fun aZ=> ?_
 refine c1 gh fun bc=> ?_
 refine aL ?_
 refine bO ?_
 refine aF ?_
 refine aD ?_
 refine bl (mE Tryz.underlying37 (ab rfl)) ?_
 refine aK ?_
 refine cm h (fun h=>?_) fun h=>?_
 ·refine aF ?_
  refine hC yq gh (default:aA) .nil ?_
  refine cA 0 cg ?_
  refine aL ?_
  refine aK ?_
  refine ag.ret ?_
  refine ae.ret ?_
  obtain rfl:=aI h
  exact ae.ky () (.cons _ (.cons _ (.refl _))) rfl rfl (ju (i:=0) cg rfl rfl) (dv rfl)
 ·refine cW ?_
  refine ag.seq ?_
  refine aF ?_
  refine aD ?_
  refine aK ?_
  refine ag.block ?_
  obtain⟨av,ao,h⟩:=aw h
  refine ag.vF (σ:=Int × (Vector ar 4)) (ε:=(Int × Bool × (Vector ar 4))) (γ:=Unit) (δ:=Unit) ao (fun s1 aq=> [(0,I.of (aa)),(1,I.of (aj)),(3,I.eq (.pointer (some ⟨aZ,0,none⟩))),(4,I.eq (.pointer (some ⟨bc,0,none⟩))),(5,I.of (false)),(10,I.of (aa.isNone)),(12,I.of (s1.1))]) (fun s1 aq=>(⟨some bc,.var ((default:aA):aA)⟩ :: ⟨some aZ,.var (s1.2:Vector ar 4)⟩ :: aV hp)) (fun az=>Exit.exit 0) (fun az aq=> [(0,I.of (aa)),(1,I.of (aj)),(3,I.eq (.pointer (some ⟨aZ,0,none⟩))),(4,I.eq (.pointer (some ⟨bc,0,none⟩))),(5,I.of (false)),(10,I.of (aa.isNone)),(12,I.of (az.1)),(13,I.of (az.2.1))]) (fun az aq=>(⟨some bc,.var ((default:aA):aA)⟩ :: ⟨some aZ,.var (az.2.2:Vector ar 4)⟩ :: aV hp)) () rfl (.same rfl (.same rfl (.same rfl (.same rfl (.same rfl (.same rfl (.same rfl .nil))))))) (fun s1 r h aq=> ?_) (fun aq=> ?_)
  ·clear ao
   refine aF ?_
   refine bm eT ?_
   refine bO ?_
   refine cm h (fun h=>?_) fun h=>?_
   ·refine cW ?_
    refine ag.seq ?_
    refine ag.block ?_
    refine aF ?_
    refine aD ?_
    refine aL ?_
    refine b0 ?_
    refine aD ?_
    refine aD ?_
    obtain⟨ca,dh,h⟩:=aw h
    refine bl (dD (eg (ab rfl) dh)) ?_
    refine aY (aT Vp) ?_
    obtain⟨bC,dP,h⟩:=aw h
    refine bl (fA ((aN.id gA).comp KT) (r:=bC.o9) bF (ab rfl) (eM (n:=2) rfl (lN dP) rfl) rfl rfl) ?_
    refine bm kT ?_
    refine aK ?_
    obtain⟨bp,ck,h⟩:=aw h
    refine ag.cy (γ:=Unit) (fun bd=> [(0,I.of (aa)),(1,I.of (aj)),(3,I.eq (.pointer (some ⟨aZ,0,none⟩))),(4,I.eq (.pointer (some ⟨bc,0,none⟩))),(5,I.of (false)),(6,I.of (s1.1)),(10,I.of (aa.isNone)),(12,I.of (s1.1)),(13,I.of (decide (s1.1 < 4))),(20,I.of (decide (s1.1≥bC.o9)))]) (fun bd=>(⟨some bc,.var ((default:aA):aA)⟩ :: ⟨some aZ,.var (bp:Vector ar 4)⟩ :: aV hp)) (ab rfl) (fun bd=> ?_) (fun hm ak=> ?_) (fun hm ak=> ?_)
    ·clear ck
     refine ae.ea ?_
     refine ae.next ?_
     refine ag.cz ?_
     refine bm dI ?_
     refine aD ?_
     refine ah.nil ?_
     obtain rfl:=aI h
     exact gP () 0
    ·have h:=gZ ak ck
     refine ag.cz ?_
     refine aD ?_
     refine hC ha ek (default:ar) .nil ?_
     obtain⟨a8,cE,h⟩:=aw h
     refine bl (il (k:=a8) nc (ab rfl) (ab rfl) (cL cE)) ?_
     refine sm 1 ((aN.id (Vector ar 4)).comp (aN.idx (α:=ar) 4 a8 (cL cE).1)) bQ ?_
     refine ah.nil ?_
     obtain rfl:=aI h
     exact dp 0 (hm ())
    ·have h:=g1 ak ck
     refine ag.skip ?_
     obtain rfl:=aI h
     exact dp 0 (hm ())
   ·refine ag.exit ?_
    refine ae.exit ?_
    obtain rfl:=aI h
    exact eD () 0
  ·clear ao
   refine ae.fM ?_
   refine ae.next ?_
   refine ag.seq ?_
   obtain⟨b2,eZ,h⟩:=aw h
   obtain⟨cf,fk,h⟩:=aw h
   obtain⟨aG,bo,h⟩:=aw h
   refine iz [0,1,3,4,5,10,12,13] ?_
   refine ag.pP 2 mixed (a6 26 [] [] _ :: a6 27 (0 :: []) [] _ :: a6 28 (1 :: []) [] _ :: ⟨some 29,(2 :: []),[],[],fun _=>I.of (cf.iu),fun _ _=>⟨none,.dead⟩⟩ :: a6 30 [] (1 :: []) _ :: ⟨some 31,(3 :: 4 :: []),[],[],fun _=>I.ed [I.of (aG.1),I.of (aG.2)],fun _ _=>⟨none,.dead⟩⟩ :: a6 25 (5 :: []) [] _ :: a6 32 (6 :: []) [] _ :: a6 33 (6 :: []) [] _ :: a6 7 (7 :: []) [] _ :: a6 8 (8 :: []) [] _ :: []) _ (0 :: 1 :: 3 :: 4 :: 5 :: 10 :: 12 :: 13 :: []) rfl rfl (by kernel_rfl) (by kernel_rfl) ⟨ct.q (e2),ct.q (b8 fun hd E' L' aB al=>dD (eg (ab (aB _ _ rfl)) eZ)),ct.q (fe (aT ti)),?_,ct.q (lW 1 jx),?_,ct.q (e2),ct.q (b8 fun hd E' L' aB al=>lq (ab (aB _ _ rfl)) rfl),ct.q (b8 fun hd E' L' aB al=>lq (ab (aB _ _ rfl)) rfl),ct.q (b8 fun hd E' L' aB al=>eB (ab (aB _ _ rfl))),ct.q (b8 fun hd E' L' aB al=>eB (ab (aB _ _ rfl))),trivial⟩ fun eP=> ?_
   ·intro hd E' L' aB al de
    refine bl (fA ((aN.id gA).comp sW) (r:=cf.iu) rW (ab (aB _ _ rfl)) (eM (n:=2) (de.trans rfl) (lN fk) rfl) rfl rfl) ?_
    refine ah.nil ?_
    exact ae.fin (dY []) rfl rfl
   ·intro hd E' L' aB al de
    refine ah.iM (fG.yr 2 (de.trans rfl) (RF bo) ⟨ab (aB _ _ rfl),ab (aB _ _ rfl),trivial⟩) rfl rfl rfl ?_
    refine ah.nil ?_
    exact ae.fin (dY []) rfl rfl
   refine ae.dR (L2:=(⟨some bc,.var ((default:aA):aA)⟩ :: ⟨some aZ,.var (av.2.2:Vector ar 4)⟩ :: aV hp)) rfl ?_
   refine jC [0,1,3,4,5,7,8,10,12,13,25,26,27,28,29,30,31,32,33] ?_
   refine ae.next ?_
   refine aF ?_
   refine aD ?_
   refine aD ?_
   refine aD ?_
   obtain⟨aJ,cr,h⟩:=aw h
   refine ah.iM (fG.jd 2 rfl PH (K1 cr) ⟨ab rfl,ab rfl,ab rfl,trivial⟩) rfl rfl rfl ?_
   refine gr ?_
   refine gr ?_
   refine cA 0 cg ?_
   refine aL ?_
   refine aK ?_
   refine ag.ret ?_
   obtain rfl:=aI h
   exact ae.ky () (.cons _ (.cons _ (.refl _))) rfl rfl (ju (i:=0) cg rfl rfl) (dv rfl)
end Go.Proofs.YtmnggbjcnoffeaaGreat
