/-
  Each function meets its functional program. Conditions: none.
-/
import Derived.Test.YthkfkliknjiecaaGreatMd
set_option linter.unusedVariables false
set_option linter.unusedSimpArgs false
set_option maxRecDepth 100000
set_option maxHeartbeats 2000000
namespace Go.Proofs.YthkfkliknjiecaaGreat
open Go Gv
theorem Kw {ab:List (BitVec 8)} {al:Int} {r:b0} (h:ti ab al=some r):bN Tryz.prog 7 [I.of (ab),I.of (al)] [] (δ:=Nat) (fun d=>I.eq (.pointer (some ⟨d,0,none⟩))) (fun d=> [⟨some d,.var (r:b0)⟩]):=by
 unfold ti at h
 refine bN.of Tryz.func7 rfl Tryz.ntmps7 rfl fun W A=> ?_
 refine aM ?_
 refine bp (e5 (GK (.pointer none))) ?_
 refine cc ?_
 refine aL ?_
 refine aL ?_
 refine bj (iq Tryz.underlying22) ?_
 refine aL ?_
 refine bQ xF ?_
 obtain⟨aG,bF,h⟩:=aC h
 refine bp (Gl Tryz.underlying22 x4 (ad rfl) .none (.some (ad rfl)) bF) ?_
 refine jQ Vl Vm ({ (default:b0) with bP:=aG } :b0) (kT Fp .nil) ?_
 refine cM fun ba=> ?_
 refine aW ?_
 refine a0 ?_
 refine ak.ret ?_
 refine aj.b2 0 rfl ?_
 obtain rfl:=aT h
 exact l9 ba
theorem QK {ab:b0} {cP:Nat} {r:Bool} (h:Cn ab=some r):bN Tryz.prog 26 [I.eq (.pointer (some ⟨cP,0,none⟩))] [⟨some cP,.var (ab:b0)⟩] (δ:=Unit) (fun d=>I.of (r)) (fun d=> [⟨some cP,.var (ab:b0)⟩]):=by
 unfold Cn at h
 refine bN.of Tryz.func26 rfl Tryz.ntmps26 rfl fun W A=> ?_
 refine aM ?_
 refine aW ?_
 refine cm ?_
 refine ak.draw mixed 10 [some 3,some 4,some 5,some 6,some 7,some 8,some 9,some 10,some 11,some 12] [[],[0],[1],[2],[],[4],[5],[6],[7],[3,8]] [.val _,.val _,.val _,.val _,.val _,.val _,.val _,.val _,.val _,.val _] [false,false,false,false,false,false,false,false,false,false] (by kernel_rfl) rfl rfl rfl (fun eL=>⟨eE,H1 dv,H1 (bc C0),hT 0 Cc cf,eE,H1 dv,H1 (bc LV),hT 0 Fp HP,H1 (iq Tryz.underlying22),mo hf,trivial⟩) fun eL=> ?_
 refine aW ?_
 refine a0 ?_
 refine ak.ret ?_
 refine aj.b2 0 rfl ?_
 obtain rfl:=aT h
 exact l9 ()
theorem QA {ab:bx} {al:Int} {r:Bool} (h:Cd ab al=some r):cl Tryz.prog 83 [I.of (ab),I.ptr al] (I.of (r)):=by
 unfold Cd at h
 refine cl.of Tryz.func83 rfl Tryz.ntmps83 rfl fun W A=> ?_
 refine aM ?_
 refine cM fun ba=> ?_
 refine aW ?_
 refine cc ?_
 refine bj (bc Dn) ?_
 refine dg 0 ta cf ?_
 refine bj (fy cf) ?_
 refine bQ ir ?_
 refine aW ?_
 refine a0 ?_
 refine ak.ret ?_
 obtain rfl:=aT h
 exact ez
theorem PO {ab:List bx} {al:bx→Option Bool} {r:Int} (h:yy ab al=some r):cl Tryz.prog 82 [I.of (ab),I.v9 Tryz.prog al] (I.of (r)):=by
 unfold yy at h
 refine cl.of Tryz.func82 rfl Tryz.ntmps82 rfl fun W A=> ?_
 refine aM ?_
 refine aW ?_
 refine cm ?_
 refine aM ?_
 refine aL ?_
 refine bj (iq Tryz.underlying27) ?_
 refine aL ?_
 refine a0 ?_
 refine ak.block ?_
 obtain⟨az,an,h⟩:=aC h
 refine nZ (γ:=Unit) (δ:=Unit) an [0,1,7] (fun s1 ax=> [(4,I.of (0:Int)),(8,I.of (s1))]) (fun s1 ax=> []) (fun aN=>Sum.elim (fun aN=>Exit.exit 0) (fun aN=>Exit.ret) aN) (fun aN ax=>Sum.elim (fun aN=> [(4,I.of (0:Int)),(8,I.of (aN.1)),(9,I.of (aN.2))]) (fun aN=> [(4,I.of (aN.1)),(5,I.of (aN.2.1)),(8,I.of (aN.2.2.1)),(9,I.of (aN.2.2.2.1)),(16,I.of (aN.2.2.2.2))]) aN) (fun aN ax=>Sum.elim (fun aN=> []) (fun aN=> []) aN) () (fun s1 r h ax=> ?_) fun ax=> ?_
 ·clear an
  refine aM ?_
  refine bQ hf ?_
  refine cm ?_
  refine dz h (fun h=>?_) fun h=>?_
  ·refine dT ?_
   refine ak.seq ?_
   refine ak.block ?_
   refine aM ?_
   refine aL ?_
   refine aW ?_
   refine cc ?_
   refine aL ?_
   refine aL ?_
   refine aL ?_
   obtain⟨bn,dJ,h⟩:=aC h
   refine lh dJ Tryz.underlying27 hv ?_
   refine bj (fy hv) ?_
   obtain⟨aG,bF,h⟩:=aC h
   refine bp (CN (ad rfl) (ad rfl) bF) ?_
   refine a0 ?_
   refine dz h (fun h=>?_) fun h=>?_
   ·refine aM ?_
    refine aL ?_
    refine aW ?_
    refine a0 ?_
    refine ak.ret ?_
    refine aj.fS ?_
    refine aj.ret ?_
    obtain rfl:=aT h
    exact hg () 0
   ·refine ak.skip ?_
    refine aj.fV ?_
    refine aj.next ?_
    refine ak.cU ?_
    refine bQ eR ?_
    refine aL ?_
    refine ah.nil ?_
    obtain rfl:=aT h
    exact kb () 0
  ·refine ak.exit ?_
   refine aj.exit ?_
   obtain rfl:=aT h
   exact hg () 0
 ·clear an
  rcases az with az | az
  ·simp only [Sum.elim_inl] at h
   refine aj.jd ?_
   refine aj.next ?_
   refine aM ?_
   refine aW ?_
   refine a0 ?_
   refine ak.ret ?_
   obtain rfl:=aT h
   exact ez
  ·simp only [Sum.elim_inr] at h
   refine aj.fS ?_
   refine aj.ret ?_
   obtain rfl:=aT h
   exact ez
theorem Q5 {ab:bx} {r:Int × Int} (h:qx ab=some r):cl Tryz.prog 54 [I.of (ab)] (I.eA [I.of (r.1),I.of (r.2)]):=by
 unfold qx at h
 refine cl.of Tryz.func54 rfl Tryz.ntmps54 rfl fun W A=> ?_
 refine aM ?_
 refine cM fun ba=> ?_
 refine aW ?_
 refine aW ?_
 refine cc ?_
 refine aW ?_
 refine aW ?_
 refine cm ?_
 refine aM ?_
 refine bj (bc mC) ?_
 refine dg 0 kJ l2 ?_
 refine bj (iq Tryz.underlying40) ?_
 refine aL ?_
 refine a0 ?_
 refine ak.block ?_
 obtain⟨az,an,h⟩:=aC h
 refine nZ (γ:=Unit) (δ:=Unit) an [0,1,2,3,9,10] (fun s1 ax=> [(4,I.of (s1.1)),(5,I.of (s1.2.1)),(11,I.of (s1.2.2))]) (fun s1 ax=> []) (fun aN=>Exit.exit 0) (fun aN ax=> [(4,I.of (aN.1)),(5,I.of (aN.2.1)),(11,I.of (aN.2.2.1)),(12,I.of (aN.2.2.2))]) (fun aN ax=> []) () (fun s1 r h ax=> ?_) fun ax=> ?_
 ·clear an
  refine aM ?_
  refine bQ hf ?_
  refine cm ?_
  refine dz h (fun h=>?_) fun h=>?_
  ·refine dT ?_
   refine ak.seq ?_
   refine ak.block ?_
   refine aM ?_
   refine aL ?_
   obtain⟨bn,dJ,h⟩:=aC h
   refine lh dJ Tryz.underlying40 ku ?_
   refine bj (fy ku) ?_
   refine dL jN fun bh=> ?_
   refine aW ?_
   refine dh 0 ku ?_
   refine cc ?_
   refine bj (bc GL) ?_
   refine dg 0 oc cf ?_
   refine a0 ?_
   refine ak.block ?_
   refine aM ?_
   refine bQ ir ?_
   refine aW ?_
   refine a0 ?_
   obtain⟨bq,cn,h⟩:=aC h
   refine lj (γ:=Unit) [0,1,2,3,6,7,9,10,11,12,17,18] (fun a5=> [(4,I.of (bq.1)),(5,I.of (bq.2))]) (fun a5=> []) (fun a5=> ?_) (fun hm ag=> ?_) fun hm ag=> ?_
   ·clear cn
    refine aj.fV ?_
    refine aj.fV ?_
    refine aj.next ?_
    refine ak.cU ?_
    refine bQ eR ?_
    refine aL ?_
    refine ah.nil ?_
    obtain rfl:=aT h
    exact kb () 1
   ·have h:=hC ag cn
    refine ak.skip ?_
    obtain rfl:=aT h
    exact dI 0 (hm ())
   ·have h:=hD ag cn
    refine aM ?_
    refine bQ ir ?_
    refine aW ?_
    refine a0 ?_
    obtain⟨cx,ed,h⟩:=aC h
    refine lj (γ:=Unit) [0,1,2,3,6,7,9,10,11,12,17,18,20] (fun bH=> [(4,I.of (cx.1)),(5,I.of (cx.2))]) (fun bH=> []) (fun bH=> ?_) (fun hm ag=> ?_) fun hm ag=> ?_
    ·clear ed
     obtain rfl:=aT h
     exact dI 0 (hm ())
    ·have h:=hC ag ed
     refine ak.cU ?_
     refine aL ?_
     refine bQ DD ?_
     refine aL ?_
     refine aW ?_
     refine aW ?_
     refine ah.nil ?_
     obtain rfl:=aT h
     exact dI 0 (hm ())
    ·have h:=hD ag ed
     refine ak.cU ?_
     refine aW ?_
     refine ah.nil ?_
     obtain rfl:=aT h
     exact dI 0 (hm ())
  ·refine ak.exit ?_
   refine aj.exit ?_
   obtain rfl:=aT h
   exact hg () 0
 ·clear an
  refine aj.jd ?_
  refine aj.next ?_
  refine aM ?_
  refine aL ?_
  refine aL ?_
  refine aW ?_
  refine aW ?_
  refine a0 ?_
  refine ak.ret ?_
  obtain rfl:=aT h
  exact OJ
theorem Rp {hp:aH Cell} {Q:Ref × (aH Cell)→Prop} (h:Cv hp Q):bN Tryz.prog 55 [] ([] ++ aZ hp) (δ:= {r:Ref × (aH Cell) // Q r} × Unit) (fun d=>I.of (d.1.1.1)) (fun d=> [] ++ aZ d.1.1.2):=by
 unfold Cv at h
 refine bN.of Tryz.func55 rfl Tryz.ntmps55 rfl fun W A=> ?_
 refine aM ?_
 refine bp (e5 (rC)) ?_
 refine cc ?_
 refine ah.GM (α:=Vector aw 4) (β:=Int) 0 rfl (Cell.nU ([]:List ((Vector aw 4) × Int))) (fun _=>rfl) rfl fun cq wa=> ?_
 replace h:=au.ts h cq wa
 refine jQ Vn Vo { ou:=(⟨some cq.1⟩:fT):m5 } (kT yI .nil) ?_
 refine ah.Ah 0 rfl (Cell.xQ ({ ou:=(⟨some cq.1⟩:fT):m5 })) (fun _=>rfl) (ad rfl) rfl fun cF AK=> ?_
 replace h:=au.ts h cF AK
 refine aW ?_
 refine a0 ?_
 refine ak.ret ?_
 exact aj.gF (⟨⟨((some cF.1:Ref),cF.2),h⟩,()⟩: {r // _} × _) (.refl _) rfl rfl (dG rfl)
theorem QB {ab:fm} {al:Int} {r:Bool} (h:Ce ab al=some r):cl Tryz.prog 85 [I.of (ab),I.ptr al] (I.of (r)):=by
 unfold Ce at h
 refine cl.of Tryz.func85 rfl Tryz.ntmps85 rfl fun W A=> ?_
 refine aM ?_
 refine cM fun ba=> ?_
 refine aW ?_
 refine cc ?_
 refine bj (bc Th) ?_
 refine dg 0 qu cf ?_
 refine bj (fy cf) ?_
 refine bQ ir ?_
 refine aW ?_
 refine a0 ?_
 refine ak.ret ?_
 obtain rfl:=aT h
 exact ez
theorem PQ {ab:List fm} {al:fm→Option Bool} {r:Int} (h:yz ab al=some r):cl Tryz.prog 84 [I.of (ab),I.v9 Tryz.prog al] (I.of (r)):=by
 unfold yz at h
 refine cl.of Tryz.func84 rfl Tryz.ntmps84 rfl fun W A=> ?_
 refine aM ?_
 refine aW ?_
 refine cm ?_
 refine aM ?_
 refine aL ?_
 refine bj (iq Tryz.underlying23) ?_
 refine aL ?_
 refine a0 ?_
 refine ak.block ?_
 obtain⟨az,an,h⟩:=aC h
 refine nZ (γ:=Unit) (δ:=Unit) an [0,1,7] (fun s1 ax=> [(4,I.of (0:Int)),(8,I.of (s1))]) (fun s1 ax=> []) (fun aN=>Sum.elim (fun aN=>Exit.exit 0) (fun aN=>Exit.ret) aN) (fun aN ax=>Sum.elim (fun aN=> [(4,I.of (0:Int)),(8,I.of (aN.1)),(9,I.of (aN.2))]) (fun aN=> [(4,I.of (aN.1)),(5,I.of (aN.2.1)),(8,I.of (aN.2.2.1)),(9,I.of (aN.2.2.2.1)),(16,I.of (aN.2.2.2.2))]) aN) (fun aN ax=>Sum.elim (fun aN=> []) (fun aN=> []) aN) () (fun s1 r h ax=> ?_) fun ax=> ?_
 ·clear an
  refine aM ?_
  refine bQ hf ?_
  refine cm ?_
  refine dz h (fun h=>?_) fun h=>?_
  ·refine dT ?_
   refine ak.seq ?_
   refine ak.block ?_
   refine aM ?_
   refine aL ?_
   refine aW ?_
   refine cc ?_
   refine aL ?_
   refine aL ?_
   refine aL ?_
   obtain⟨bn,dJ,h⟩:=aC h
   refine lh dJ Tryz.underlying23 zT ?_
   refine bj (fy zT) ?_
   obtain⟨aG,bF,h⟩:=aC h
   refine bp (CN (ad rfl) (ad rfl) bF) ?_
   refine a0 ?_
   refine dz h (fun h=>?_) fun h=>?_
   ·refine aM ?_
    refine aL ?_
    refine aW ?_
    refine a0 ?_
    refine ak.ret ?_
    refine aj.fS ?_
    refine aj.ret ?_
    obtain rfl:=aT h
    exact hg () 0
   ·refine ak.skip ?_
    refine aj.fV ?_
    refine aj.next ?_
    refine ak.cU ?_
    refine bQ eR ?_
    refine aL ?_
    refine ah.nil ?_
    obtain rfl:=aT h
    exact kb () 0
  ·refine ak.exit ?_
   refine aj.exit ?_
   obtain rfl:=aT h
   exact hg () 0
 ·clear an
  rcases az with az | az
  ·simp only [Sum.elim_inl] at h
   refine aj.jd ?_
   refine aj.next ?_
   refine aM ?_
   refine aW ?_
   refine a0 ?_
   refine ak.ret ?_
   obtain rfl:=aT h
   exact ez
  ·simp only [Sum.elim_inr] at h
   refine aj.fS ?_
   refine aj.ret ?_
   obtain rfl:=aT h
   exact ez
theorem JO {hp:aH Cell} {ab:Ref} {al:Int} {aU:Int} {cE:Int} {EP:Bool} {cP:Nat} {lD:Nat} {n0:Nat} {oD:Nat} {wb:Nat} {r:Int × Int × Bool} (h:sZ hp ab al aU cE EP=some r):bN Tryz.prog 214 [I.eq (.pointer (some ⟨cP,0,none⟩)),I.eq (.pointer (some ⟨lD,0,none⟩)),I.eq (.pointer (some ⟨n0,0,none⟩)),I.eq (.pointer (some ⟨oD,0,none⟩)),I.eq (.pointer (some ⟨wb,0,none⟩))] ([⟨some cP,.var (ab:Ref)⟩,⟨some lD,.var (al:Int)⟩,⟨some n0,.var (aU:Int)⟩,⟨some oD,.var (cE:Int)⟩,⟨some wb,.var (EP:Bool)⟩] ++ aZ hp) (δ:=Unit) (fun _=>I.eA []) (fun _=> [⟨some cP,.var (ab:Ref)⟩,⟨some lD,.var (al:Int)⟩,⟨some n0,.var (r.1:Int)⟩,⟨some oD,.var (r.2.1:Int)⟩,⟨some wb,.var (r.2.2:Bool)⟩] ++ aZ hp):=by
 unfold sZ at h
 refine bN.of Tryz.func214 rfl Tryz.ntmps214 rfl fun W A=> ?_
 refine aM ?_
 refine cV 0 dO ?_
 refine bp (CB Tryz.underlying299 (ad rfl)) ?_
 refine aL ?_
 refine fB (fun hb=>fl (i:=0) (aP.id Ref) (r:=ab) dO (ad rfl) rfl rfl rfl) ?_
 obtain⟨bT,c7,h⟩:=aC h
 refine fB (fun hb=>dv (eb (cy rfl hb) (gr c7 hb))) ?_
 refine gH (bc qD) ?_
 obtain⟨bw,di,h⟩:=aC h
 refine fB (fun hb=>fv ((aP.id dn).comp qt) (r:=bw.cW) ix (cy rfl hb) (eK (n:=5) rfl (iO (gr di hb)) rfl) rfl rfl) ?_
 refine lE ?_
 refine a0 ?_
 obtain⟨bq,cn,h⟩:=aC h
 refine ak.cb (γ:=Unit) (fun ax=> [(0,I.eq (.pointer (some ⟨cP,0,none⟩))),(1,I.eq (.pointer (some ⟨lD,0,none⟩))),(2,I.eq (.pointer (some ⟨n0,0,none⟩))),(3,I.eq (.pointer (some ⟨oD,0,none⟩))),(4,I.eq (.pointer (some ⟨wb,0,none⟩))),(12,I.of (ab.isSome && bw.cW))]) (fun ax=>(⟨some cP,.var (ab:Ref)⟩ :: ⟨some lD,.var (al:Int)⟩ :: ⟨some n0,.var (bq.1:Int)⟩ :: ⟨some oD,.var (bq.2.1:Int)⟩ :: ⟨some wb,.var (bq.2.2:Bool)⟩ :: aZ hp)) (ad rfl) (fun ax=> ?_) (fun hm ag=> ?_) (fun hm ag=> ?_)
 ·clear cn
  refine aj.oz ?_
  refine aj.b2 4 rfl ?_
  refine aj.b2 4 rfl ?_
  refine aj.b2 4 rfl ?_
  refine aj.b2 4 rfl ?_
  refine aj.b2 4 rfl ?_
  obtain rfl:=aT h
  exact aj.lY () (.cons_cons _ (.cons_cons _ (.cons_cons _ (.cons_cons _ (.cons_cons _ (.refl _)))))) rfl rfl
 ·have h:=hC ag cn
  obtain⟨bU,eS,h⟩:=aC h
  obtain⟨b5,eW,h⟩:=aC h
  refine kc [0,1,2,3,4,5,6,7,8,9,10,11,12] ?_
  refine ak.pG 5 mixed (bk 13 [] (1 :: []) _ :: bk 14 [] (0 :: []) _ :: bk 15 (1 :: []) [] _ :: bk 16 (2 :: []) [] _ :: ⟨some 17,(3 :: []),[],[],fun _=>I.of (b5.gi),fun _ _=>⟨none,.dead⟩⟩ :: ⟨none,(0 :: []),(2 :: []),(2 :: []),fun _=>I.any,fun hd _=>⟨some n0,.var (al:Int)⟩⟩ :: ⟨none,(4 :: []),(3 :: []),(3 :: []),fun _=>I.any,fun hd _=>⟨some oD,.var (b5.gi:Int)⟩⟩ :: ⟨none,[],(4 :: []),(4 :: []),fun _=>I.any,fun hd _=>⟨some wb,.var (true:Bool)⟩⟩ :: []) _ (0 :: 1 :: 2 :: 3 :: 4 :: 5 :: 6 :: 7 :: 8 :: 9 :: 10 :: 11 :: 12 :: []) rfl rfl (by kernel_rfl) (by kernel_rfl) ⟨b8.q (mO 1 cf),b8.q (mO 0 dO),b8.q (cr fun hd E' L' ay aq=>dv (eb (ad (ay _ _ rfl)) eS)),b8.q (g8 (bc zu)),?_,?_,?_,?_,trivial⟩ fun fG=> ?_
  ·intro hd E' L' ay aq ck
   refine bp (fv ((aP.id dn).comp yU) (r:=b5.gi) cf (ad (ay _ _ rfl)) (eK (n:=5) (ck.trans rfl) (iO eW) rfl) rfl rfl) ?_
   refine ah.nil ?_
   exact aj.fin (ek []) rfl rfl
  ·intro hd E' L' ay aq ck
   refine ah.store (i:=2) (aP.id Int) (v:=(al:Int)) (b':=(al:Int)) cf (ad (ay _ _ rfl)) (ad (ay _ _ rfl)) (aq 2 _ rfl rfl) rfl rfl ?_
   refine ah.nil ?_
   exact aj.fin (ek []) rfl rfl
  ·intro hd E' L' ay aq ck
   refine ah.store (i:=3) (aP.id Int) (v:=(b5.gi:Int)) (b':=(b5.gi:Int)) cf (ad (ay _ _ rfl)) (ad (ay _ _ rfl)) (aq 3 _ rfl rfl) rfl rfl ?_
   refine ah.nil ?_
   exact aj.fin (ek []) rfl rfl
  ·intro hd E' L' ay aq ck
   refine ah.store (i:=4) (aP.id Bool) (v:=(true:Bool)) (b':=(true:Bool)) ix (ad (ay _ _ rfl)) (fQ true) (aq 4 _ rfl rfl) rfl rfl ?_
   refine ah.nil ?_
   exact aj.fin (ek []) rfl rfl
  refine aj.eH (L2:=(⟨some cP,.var (ab:Ref)⟩ :: ⟨some lD,.var (al:Int)⟩ :: ⟨some n0,.var (al:Int)⟩ :: ⟨some oD,.var (b5.gi:Int)⟩ :: ⟨some wb,.var (true:Bool)⟩ :: aZ hp)) rfl ?_
  refine lF [0,1,2,3,4,5,6,7,8,9,10,11,12,13,14,15,16,17] ?_
  obtain rfl:=aT h
  exact dI 0 (hm ())
 ·have h:=hD ag cn
  refine ak.skip ?_
  obtain rfl:=aT h
  exact dI 0 (hm ())
theorem P3 {al:Vector aw 4} {Jl:Option Addr} {r:(Vector aw 4)} (h:E6 al=some r):cl Tryz.prog 236 [I.eq (.pointer Jl),I.of (al)] (I.gy 242 [I.uo (I.eq (.pointer Jl)),I.ptr r]):=by
 unfold E6 at h
 refine cl.of Tryz.func236 rfl Tryz.ntmps236 rfl fun W A=> ?_
 refine aM ?_
 refine ah.XB (ad rfl) Ti rfl ?_
 refine cM fun bh=> ?_
 refine bp (e5 (GK .nilFunc)) ?_
 refine cc ?_
 refine ah.share (α:=Vector aw 4) 0 3 rfl rfl ?_
 refine bp (MY (f:=242) (τs:= [I.uo (I.eq (.pointer Jl)),I.ptr al]) ⟨ad rfl,ad rfl,trivial⟩) ?_
 refine aW ?_
 refine a0 ?_
 refine ak.ret ?_
 obtain rfl:=aT h
 exact ez
theorem J9 {ab:aw} {al:aw} {r:Int} (h:xe ab al=some r):cl Tryz.prog 110 [I.of (ab),I.of (al)] (I.of (r)):=by
 unfold xe at h
 refine cl.of Tryz.func110 rfl Tryz.ntmps110 rfl fun W A=> ?_
 refine aM ?_
 refine cM fun ba=> ?_
 refine cM fun bh=> ?_
 refine aW ?_
 refine cm ?_
 refine ak.block ?_
 refine aM ?_
 refine cV 1 cB ?_
 refine cV 0 cB ?_
 refine bQ (zU qJ rfl zV rfl) ?_
 refine aW ?_
 refine a0 ?_
 refine dz h (fun h=>?_) fun h=>?_
 ·refine aM ?_
  refine aW ?_
  refine a0 ?_
  refine ak.ret ?_
  refine aj.fS ?_
  refine aj.ret ?_
  obtain rfl:=aT h
  exact ez
 ·refine aM ?_
  refine bj (bc mD) ?_
  refine dg 1 iM gT ?_
  refine bj (bc mD) ?_
  refine dg 0 iM gT ?_
  refine bQ LW ?_
  refine aL ?_
  refine gH (bc mD) ?_
  refine fB (fun hb=>fl (i:=1) ((aP.id aw).comp iM) (r:=ab.dP) gT (cy rfl hb) rfl rfl rfl) ?_
  refine gH (bc mD) ?_
  refine fB (fun hb=>fl (i:=0) ((aP.id aw).comp iM) (r:=al.dP) gT (cy rfl hb) rfl rfl rfl) ?_
  refine mP LX ?_
  refine gH cZ ?_
  refine ah.gg (fun hb=>bc oj (ad rfl)) rfl rfl rfl rfl rfl ?_
  refine ah.gg (fun hb=>fl (i:=1) ((aP.id aw).comp gD) (r:=ab.cv) gT (cy rfl hb) rfl rfl rfl) rfl rfl rfl rfl rfl ?_
  refine ah.gg (fun hb=>bc oj (ad rfl)) rfl rfl rfl rfl rfl ?_
  refine ah.gg (fun hb=>fl (i:=0) ((aP.id aw).comp gD) (r:=al.cv) gT (cy rfl hb) rfl rfl rfl) rfl rfl rfl rfl rfl ?_
  refine ah.gg (fun hb=>LW (cy rfl hb) (cy rfl hb)) rfl rfl rfl rfl rfl ?_
  refine fB (fun hb=>tG (cy rfl hb) (ad rfl) (fun h=>⟨hb,h⟩)) ?_
  obtain⟨bJ,eC,h⟩:=aC h
  refine dU eC (tT (ad rfl) (ad rfl) (fun h=>h)) ?_
  refine aW ?_
  refine a0 ?_
  refine dz h (fun h=>?_) fun h=>?_
  ·refine aM ?_
   refine aW ?_
   refine a0 ?_
   refine ak.ret ?_
   refine aj.fS ?_
   refine aj.ret ?_
   obtain rfl:=aT h
   exact ez
  ·refine ak.skip ?_
   refine aj.fV ?_
   refine aj.next ?_
   refine aM ?_
   refine aW ?_
   refine a0 ?_
   refine ak.ret ?_
   obtain rfl:=aT h
   exact ez
theorem J3 {hp:aH Cell} {ab:Ref} {r:Int} (h:rr hp ab=some r):bN Tryz.prog 13 [I.of (ab)] ([] ++ aZ hp) (δ:=Unit) (fun _=>I.of (r)) (fun _=> [] ++ aZ hp):=by
 unfold rr at h
 refine bN.of Tryz.func13 rfl Tryz.ntmps13 rfl fun W A=> ?_
 refine aM ?_
 refine aW ?_
 refine cm ?_
 refine aM ?_
 refine aL ?_
 refine bp (mz Tryz.underlying36 (ad rfl)) ?_
 refine a0 ?_
 refine dz h (fun h=>?_) fun h=>?_
 ·refine aM ?_
  refine aW ?_
  refine a0 ?_
  refine ak.ret ?_
  refine aj.ret ?_
  obtain rfl:=aT h
  exact aj.gF () (.refl _) rfl rfl (dG rfl)
 ·refine dT ?_
  refine aM ?_
  refine aL ?_
  obtain⟨bT,c7,h⟩:=aC h
  refine bp (dv (eb (ad rfl) c7)) ?_
  refine bj (bc zv) ?_
  obtain⟨bw,di,h⟩:=aC h
  refine bp (fv ((aP.id gq).comp w4) (r:=bw.j2) xG (ad rfl) (eK (n:=0) rfl (kp di) rfl) rfl rfl) ?_
  obtain⟨bU,eS,h⟩:=aC h
  obtain⟨b5,eW,h⟩:=aC h
  refine bp (Tj Tryz.underlying119 (lQ (ad rfl) eS) (eK (n:=0) rfl (pD eW) rfl)) ?_
  refine aW ?_
  refine a0 ?_
  refine ak.ret ?_
  obtain rfl:=aT h
  exact aj.gF () (.refl _) rfl rfl (dG rfl)
theorem Co {hp:aH Cell} {ab:Ref} {r:Int} (h:s8 hp ab=some r):bN Tryz.prog 24 [I.of (ab)] ([] ++ aZ hp) (δ:=Unit) (fun _=>I.of (r)) (fun _=> [] ++ aZ hp):=by
 unfold s8 at h
 refine bN.of Tryz.func24 rfl Tryz.ntmps24 rfl fun W A=> ?_
 refine aM ?_
 refine aW ?_
 refine cm ?_
 refine aM ?_
 refine aL ?_
 refine bp (mz Tryz.underlying36 (ad rfl)) ?_
 refine a0 ?_
 refine dz h (fun h=>?_) fun h=>?_
 ·refine aM ?_
  refine aW ?_
  refine a0 ?_
  refine ak.ret ?_
  refine aj.ret ?_
  obtain rfl:=aT h
  exact aj.gF () (.refl _) rfl rfl (dG rfl)
 ·refine dT ?_
  refine aM ?_
  refine aL ?_
  obtain⟨bT,c7,h⟩:=aC h
  refine bp (dv (eb (ad rfl) c7)) ?_
  refine bj (bc Tk) ?_
  obtain⟨bw,di,h⟩:=aC h
  refine bp (fv ((aP.id gq).comp JR) (r:=bw.pE) cf (ad rfl) (eK (n:=0) rfl (kp di) rfl) rfl rfl) ?_
  refine aW ?_
  refine a0 ?_
  refine ak.ret ?_
  obtain rfl:=aT h
  exact aj.gF () (.refl _) rfl rfl (dG rfl)
theorem QR {ab:a2} {r:ca} (h:Fu ab=some r):bN Tryz.prog 57 [I.of (ab)] [] (δ:=Nat × (Option Nat × Nat)) (fun d=>I.eq (.pointer (some ⟨d.1,0,none⟩))) (fun d=> [⟨some d.1,.bZ (({ r with bP:= [] } :ca):ca) [(10,bf d.2.1 (r.bP).length d.2.2)]⟩,⟨d.2.1,.row 56 (r.bP:List aA) d.2.2⟩]):=by
 unfold Fu at h
 refine bN.of Tryz.func57 rfl Tryz.ntmps57 rfl fun W A=> ?_
 refine aM ?_
 refine cM fun ba=> ?_
 refine bp (e5 (rC)) ?_
 refine cc ?_
 refine cV 0 h5 ?_
 refine bp (rG (b:=({ (default:ca) with mA:=ab } :ca)) [10] SI rfl Vp Vq (.cons BV rfl (ad rfl) rfl (by rfl) (.nil))) ?_
 refine ah.own (α:=aA) 56 ?_
 refine ah.XC (ad rfl) rfl fun bh=> ?_
 refine aW ?_
 refine a0 ?_
 refine ak.ret ?_
 refine aj.Eh (γ:=aA) (b':=(({ ({ (default:ca) with mA:=ab } :ca) with bP:= [] } :ca):ca)) ((aP.id ca).comp w8) 0 0 rfl rfl rfl ?_
 refine aj.b2 1 rfl ?_
 refine aj.b2 1 rfl ?_
 obtain rfl:=aT h
 exact l9 (bh,(none,0))
theorem Cu {ab:b1} {r:(Vector aw 4)} (h:te ab=some r):cl Tryz.prog 197 [I.of (ab)] (I.of (r)):=by
 unfold te at h
 refine cl.of Tryz.func197 rfl Tryz.ntmps197 rfl fun W A=> ?_
 refine aM ?_
 refine cM fun ba=> ?_
 refine dL DW fun bh=> ?_
 refine cc ?_
 refine dL DW fun cH=> ?_
 refine cm ?_
 refine aM ?_
 refine bj (bc o6) ?_
 refine dg 2 ob oA ?_
 refine bj (bc o6) ?_
 refine dg 2 ob oA ?_
 refine bj (iq Tryz.underlying51) ?_
 refine bQ xF ?_
 obtain⟨aG,bF,h⟩:=aC h
 refine bp (Gl Tryz.underlying51 kO (ad rfl) .none (.some (ad rfl)) bF) ?_
 refine bj (iq Tryz.underlying51) ?_
 refine aL ?_
 refine a0 ?_
 refine ak.block ?_
 obtain⟨az,an,h⟩:=aC h
 refine nZ (γ:=Unit) (δ:=Unit) an [0,1,2,3,12,13] (fun s1 ax=> [(14,I.of (s1.1))]) (fun s1 ax=> [(0,⟨some cH,.var (s1.2:Vector aw 4)⟩)]) (fun aN=>Exit.exit 0) (fun aN ax=> [(14,I.of (aN.1)),(15,I.of (aN.2.1))]) (fun aN ax=> [(0,⟨some cH,.var (aN.2.2:Vector aw 4)⟩)]) () (fun s1 r h ax=> ?_) fun ax=> ?_
 ·clear an
  refine aM ?_
  refine bQ hf ?_
  refine cm ?_
  refine dz h (fun h=>?_) fun h=>?_
  ·refine dT ?_
   refine ak.seq ?_
   refine ak.block ?_
   refine aM ?_
   refine aL ?_
   obtain⟨bn,dJ,h⟩:=aC h
   refine lh dJ Tryz.underlying51 kO ?_
   refine bj (fy kO) ?_
   refine dL qR fun fa=> ?_
   refine aW ?_
   refine dh 0 kO ?_
   refine a0 ?_
   refine ak.cU ?_
   refine aL ?_
   refine bj (bc zF) ?_
   refine dg 0 py cB ?_
   obtain⟨c3,dj,h⟩:=aC h
   refine bp (l3 (k:=c3) Ai (ad rfl) (ad rfl) (eh dj)) ?_
   refine si 1 ((aP.id (Vector aw 4)).comp (aP.idx (α:=aw) 4 c3 (eh dj).1)) cB ?_
   refine ah.nil ?_
   refine aj.fV ?_
   refine aj.next ?_
   refine ak.cU ?_
   refine bQ eR ?_
   refine aL ?_
   refine ah.nil ?_
   obtain rfl:=aT h
   exact kb () 1
  ·refine ak.exit ?_
   refine aj.exit ?_
   obtain rfl:=aT h
   exact hg () 0
 ·clear an
  refine aj.jd ?_
  refine aj.next ?_
  refine aM ?_
  refine cV 0 lz ?_
  refine dh 1 lz ?_
  refine a0 ?_
  refine ak.ret ?_
  obtain rfl:=aT h
  exact aj.mL rfl (jR 1 lz)
theorem Fv {hp:aH Cell} {ab:Ref} {al:Vector aw 4} {r:Int × Bool} (h:tb hp ab al=some r):bN Tryz.prog 196 [I.of (ab),I.of (al)] ([] ++ aZ hp) (δ:=Unit) (fun _=>I.eA [I.of (r.1),I.of (r.2)]) (fun _=> [] ++ aZ hp):=by
 unfold tb at h
 refine bN.of Tryz.func196 rfl Tryz.ntmps196 rfl fun W A=> ?_
 refine aM ?_
 refine cM fun ba=> ?_
 refine aW ?_
 refine aW ?_
 refine cm ?_
 refine aM ?_
 refine aL ?_
 refine bp (mz Tryz.underlying124 (ad rfl)) ?_
 refine a0 ?_
 refine dz h (fun h=>?_) fun h=>?_
 ·refine aM ?_
  refine aW ?_
  refine aW ?_
  refine a0 ?_
  refine ak.ret ?_
  refine aj.ret ?_
  obtain rfl:=aT h
  exact aj.kL () (.cons _ (.refl _)) rfl rfl (dG rfl) (dG rfl)
 ·refine dT ?_
  refine ak.seq ?_
  obtain⟨bT,c7,h⟩:=aC h
  obtain⟨bw,di,h⟩:=aC h
  obtain⟨bU,eS,h⟩:=aC h
  obtain⟨b5,eW,h⟩:=aC h
  obtain⟨bJ,eC,h⟩:=aC h
  refine ak.draw mixed 10 [some 11,some 12,some 13,some 14,some 15,some 16,some 10,some 17,some 18,some 6] [[],[0],[1],[2],[],[3,4],[5],[6],[6],[7]] [.val _,.val _,.val _,.val _,.val _,.val _,.val _,.val _,.val _,.val _] [false,false,false,false,false,false,false,false,false,false] (by kernel_rfl) rfl rfl rfl (fun eL=>⟨eE,e7 fun L' aq=>dv (eb (ad rfl) c7),H1 (bc C1),e7 fun L' aq=>fv ((aP.id m5).comp yI) (r:=bw.ou) zW (ad rfl) (j7 (fun i e q=>aq i e q rfl) (eK (n:=1) rfl (tA di) rfl)) rfl rfl,fY 0 lz,e7 fun L' aq=>F0 (r:=bJ) Tryz.underlying186 DE lk (lQ (ad rfl) eS) (ad rfl) (j7 (fun i e q=>aq i e q rfl) (eK (n:=1) rfl (qF eW) rfl)) (aT eC),eE,x5,x5,wS,trivial⟩) fun eL=> ?_
  refine aW ?_
  refine cc ?_
  refine aL ?_
  refine aL ?_
  refine aW ?_
  refine aW ?_
  refine a0 ?_
  refine ak.ret ?_
  obtain rfl:=aT h
  exact aj.kL () (.cons _ (.refl _)) rfl rfl (dG rfl) (dG rfl)
theorem JQ {ab:gp} {al:Vector aw 4} {r:(Vector aw 4) × aw} (h:s3 ab al=some r):cl Tryz.prog 206 [I.of (ab),I.of (al)] (I.eA [I.of (r.1),I.of (r.2)]):=by
 unfold s3 at h
 refine cl.of Tryz.func206 rfl Tryz.ntmps206 rfl fun W A=> ?_
 refine aM ?_
 refine cM fun ba=> ?_
 refine cM fun bh=> ?_
 refine dL vq fun cH=> ?_
 refine dL fw fun fa=> ?_
 refine cc ?_
 refine bj (bc C2) ?_
 refine dg 3 yD cf ?_
 obtain⟨bn,dJ,h⟩:=aC h
 refine bp (l3 (k:=bn) Ai (ad rfl) (ad rfl) (eh dJ)) ?_
 refine dg 2 ((aP.id (Vector aw 4)).comp (aP.idx (α:=aw) 4 bn (eh dJ).1)) cB ?_
 refine dL fw fun iA=> ?_
 refine dh 0 cB ?_
 refine cc ?_
 refine bj (bc C2) ?_
 refine dg 4 yD cf ?_
 refine jQ jf fw (default:aw) .nil ?_
 obtain⟨c3,dj,h⟩:=aC h
 refine bp (l3 (k:=c3) Ai (ad rfl) (ad rfl) (eh dj)) ?_
 refine si 3 ((aP.id (Vector aw 4)).comp (aP.idx (α:=aw) 4 c3 (eh dj).1)) cB ?_
 refine cm ?_
 refine ak.draw mixed 3 [some 15,some 16,none] [[],[],[0]] [.val _,.val _,.lG 2 (.var ((fW al c3 (default:aw)):Vector aw 4))] [false,false,true] (by kernel_rfl) rfl rfl rfl (fun eL=>⟨fY 3 lz,fY 0 cB,⟨_,_,rfl,fun L' aq=>zG (i:=2) (aP.id (Vector aw 4)) (v:=((fW al c3 (default:aw)):Vector aw 4)) (b':=((fW al c3 (default:aw)):Vector aw 4)) j4 (ad rfl) (ad rfl) (aq _ _ rfl) rfl rfl⟩,trivial⟩) fun eL=> ?_
 refine dh 1 cB ?_
 refine a0 ?_
 refine ak.ret ?_
 obtain rfl:=aT h
 exact aj.DX rfl (jR 2 j4) (jR 1 cB)
theorem Kg {ab:Int} {r:Int} (h:xh ab=some r):cl Tryz.prog 169 [I.of (ab)] (I.of (r)):=by
 unfold xh at h
 refine cl.of Tryz.func169 rfl Tryz.ntmps169 rfl fun W A=> ?_
 refine aM ?_
 refine aW ?_
 refine cc ?_
 refine aL ?_
 refine bQ DD ?_
 refine bQ xF ?_
 refine aW ?_
 refine a0 ?_
 refine ak.ret ?_
 obtain rfl:=aT h
 exact ez
theorem Kn {ab:aw} {al:Int} {r:aw} (h:xi ab al=some r):cl Tryz.prog 168 [I.of (ab),I.of (al)] (I.of (r)):=by
 unfold xi at h
 refine cl.of Tryz.func168 rfl Tryz.ntmps168 rfl fun W A=> ?_
 refine aM ?_
 refine cM fun ba=> ?_
 refine dL fw fun bh=> ?_
 refine cm ?_
 refine ak.block ?_
 refine aM ?_
 refine aL ?_
 refine bQ tH ?_
 refine aW ?_
 refine a0 ?_
 refine dz h (fun h=>?_) fun h=>?_
 ·refine aM ?_
  refine cV 1 cB ?_
  refine dh 0 cB ?_
  refine a0 ?_
  refine ak.ret ?_
  refine aj.fS ?_
  refine aj.ret ?_
  obtain rfl:=aT h
  exact aj.mL rfl (jR 0 cB)
 ·refine aM ?_
  refine aL ?_
  refine bQ nO ?_
  refine aW ?_
  refine a0 ?_
  refine dz h (fun h=>?_) fun h=>?_
  ·refine aM ?_
   refine bj (bc mD) ?_
   refine dg 1 iM gT ?_
   refine aL ?_
   refine bQ la ?_
   refine bj (o7 Tryz.underlying3 Tryz.underlying147) ?_
   refine bQ tt ?_
   obtain⟨bJ,eC,h⟩:=aC h
   refine dU eC (c2 (b:=({ (default:aw) with cv:=ab.dP >>> (BitVec.ofInt 64 (bE (al - 64))).toNat } :aw)) rfl jf fw (.cons gD rfl (ad rfl) rfl (.nil))) ?_
   refine dh 0 cB ?_
   refine a0 ?_
   refine ak.ret ?_
   refine aj.fS ?_
   refine aj.ret ?_
   obtain rfl:=aT h
   exact aj.mL rfl (jR 0 cB)
  ·refine ak.skip ?_
   refine aj.fV ?_
   refine aj.next ?_
   refine aM ?_
   refine bj (bc mD) ?_
   refine dg 1 iM gT ?_
   refine aL ?_
   refine bj (o7 Tryz.underlying3 Tryz.underlying147) ?_
   refine bQ tt ?_
   refine bj (bc oj) ?_
   refine dg 1 gD gT ?_
   refine aL ?_
   refine bj (o7 Tryz.underlying3 Tryz.underlying147) ?_
   refine bQ tt ?_
   refine bj (bc mD) ?_
   refine dg 1 iM gT ?_
   refine aL ?_
   refine bQ la ?_
   refine bj (o7 Tryz.underlying3 Tryz.underlying147) ?_
   refine bQ C3 ?_
   obtain⟨en,kA,h⟩:=aC h
   refine dU kA (Dp (ad rfl) (ad rfl)) ?_
   obtain⟨fP,nf,h⟩:=aC h
   refine dU nf (c2 (b:= { dP:=ab.dP >>> (BitVec.ofInt 64 al).toNat,cv:=en:aw }) rfl jf fw (.cons iM rfl (ad rfl) rfl (.cons gD rfl (ad rfl) rfl (.nil)))) ?_
   refine dh 0 cB ?_
   refine a0 ?_
   refine ak.ret ?_
   obtain rfl:=aT h
   exact aj.mL rfl (jR 0 cB)
theorem Rq {ab:aw} {al:aw} {r:aw} (h:y8 ab al=some r):cl Tryz.prog 153 [I.of (ab),I.of (al)] (I.of (r)):=by
 unfold y8 at h
 refine cl.of Tryz.func153 rfl Tryz.ntmps153 rfl fun W A=> ?_
 refine aM ?_
 refine cM fun ba=> ?_
 refine cM fun bh=> ?_
 refine dL fw fun cH=> ?_
 refine cc ?_
 refine bj (bc mD) ?_
 refine dg 2 iM gT ?_
 refine bj (bc mD) ?_
 refine dg 1 iM gT ?_
 refine bQ LY ?_
 refine bj (bc oj) ?_
 refine dg 2 gD gT ?_
 refine bj (bc oj) ?_
 refine dg 1 gD gT ?_
 refine bQ LY ?_
 obtain⟨bJ,eC,h⟩:=aC h
 refine dU eC (c2 (b:= { dP:=ab.dP ^^^ al.dP,cv:=ab.cv ^^^ al.cv:aw }) rfl jf fw (.cons iM rfl (ad rfl) rfl (.cons gD rfl (ad rfl) rfl (.nil)))) ?_
 refine dh 0 cB ?_
 refine a0 ?_
 refine ak.ret ?_
 obtain rfl:=aT h
 exact aj.mL rfl (jR 0 cB)
theorem ju {ab:b0} {al:Int} {cP:Nat} {r:Int × b0} (h:ij ab al=some r):bN Tryz.prog 29 [I.eq (.pointer (some ⟨cP,0,none⟩)),I.of (al)] [⟨some cP,.var (ab:b0)⟩] (δ:=Unit) (fun d=>I.of (r.1)) (fun d=> [⟨some cP,.var (r.2:b0)⟩]):=by
 unfold ij at h
 refine bN.of Tryz.func29 rfl Tryz.ntmps29 rfl fun W A=> ?_
 refine aM ?_
 refine aW ?_
 refine cm ?_
 refine aM ?_
 refine aL ?_
 obtain⟨aG,bF,h⟩:=aC h
 refine ah.iK (fr.call [0] XD (QK bF) ⟨ad rfl,trivial⟩ rfl ⟨rfl,trivial⟩ rfl) rfl rfl rfl ?_
 refine bj kt ?_
 refine aL ?_
 refine gH cZ ?_
 refine mP hf ?_
 refine AL ?_
 refine a0 ?_
 refine dz h (fun h=>?_) fun h=>?_
 ·refine aM ?_
  refine aW ?_
  refine a0 ?_
  refine ak.ret ?_
  refine aj.ret ?_
  refine aj.b2 0 rfl ?_
  obtain rfl:=aT h
  exact l9 ()
 ·refine dT ?_
  refine aM ?_
  refine aL ?_
  refine bj dv ?_
  refine bj (bc C0) ?_
  refine dg 0 Cc cf ?_
  refine bQ eR ?_
  refine bj dv ?_
  refine bj (bc C0) ?_
  refine si 0 Cc cf ?_
  refine cm ?_
  obtain⟨bn,dJ,h⟩:=aC h
  obtain⟨aQ,cR,h⟩:=aC h
  refine ak.draw mixed 14 [some 19,some 20,some 21,some 22,some 23,some 24,some 25,some 26,some 27,some 28,some 29,some 30,some 31,some 32] [[],[0],[1],[2],[],[4],[5],[6],[7],[3,8],[9],[10],[],[11,12]] [.val _,.val _,.val _,.val _,.val _,.val _,.val _,.val _,.val _,.val _,.val _,.val _,.val _,.val _] [false,false,false,false,false,false,false,false,false,false,false,false,false,false] (by kernel_rfl) rfl rfl rfl (fun eL=>⟨eE,H1 dv,H1 (bc LV),hT 0 Fp HP,eE,H1 dv,H1 (bc C0),hT 0 Cc cf,mo la,x6 dJ Tryz.underlying22 x4,H1 (fy x4),H1 (MZ Tryz.underlying5 Tryz.underlying3),eE,e7 fun L' aq=>M0 (ad rfl) (ad rfl) (KZ cR),trivial⟩) fun eL=> ?_
  refine aW ?_
  refine a0 ?_
  refine ak.ret ?_
  refine aj.b2 0 rfl ?_
  obtain rfl:=aT h
  exact l9 ()
theorem Ka {ab:a2} {al:Int} {r:Int} (h:ry ab al=some r):cl Tryz.prog 53 [I.of (ab),I.of (al)] (I.of (r)):=by
 unfold ry at h
 refine cl.of Tryz.func53 rfl Tryz.ntmps53 rfl fun W A=> ?_
 refine aM ?_
 refine cM fun ba=> ?_
 refine cM fun bh=> ?_
 refine aW ?_
 refine cc ?_
 refine bj (bc qG) ?_
 refine dg 1 qq pL ?_
 refine ah.share (α:=Int) 0 3 rfl rfl ?_
 refine bp (Dq (F:=(fun hy=>Cd hy al)) (τs:= [I.ptr al]) XE ⟨ad rfl,trivial⟩ (fun _ _ h=>QA h)) ?_
 obtain⟨aG,bF,h⟩:=aC h
 refine gY XF (PO bF) ?_
 refine aW ?_
 refine a0 ?_
 refine ak.ret ?_
 obtain rfl:=aT h
 exact ez
theorem Kb {ab:a2} {al:Int} {r:Int} (h:td ab al=some r):cl Tryz.prog 56 [I.of (ab),I.of (al)] (I.of (r)):=by
 unfold td at h
 refine cl.of Tryz.func56 rfl Tryz.ntmps56 rfl fun W A=> ?_
 refine aM ?_
 refine cM fun ba=> ?_
 refine cM fun bh=> ?_
 refine aW ?_
 refine cc ?_
 refine bj (bc Dr) ?_
 refine dg 1 B0 Aj ?_
 refine ah.share (α:=Int) 0 3 rfl rfl ?_
 refine bp (Dq (F:=(fun hy=>Ce hy al)) (τs:= [I.ptr al]) XG ⟨ad rfl,trivial⟩ (fun _ _ h=>QB h)) ?_
 obtain⟨aG,bF,h⟩:=aC h
 refine gY XH (PQ bF) ?_
 refine aW ?_
 refine a0 ?_
 refine ak.ret ?_
 obtain rfl:=aT h
 exact ez
theorem QC {hp:aH Cell} {ab:jI} {al:b1} {r:Int × Bool} (h:yO hp ab al=some r):bN Tryz.prog 192 [I.of (ab),I.of (al)] ([] ++ aZ hp) (δ:=Unit) (fun _=>I.eA [I.of (r.1),I.of (r.2)]) (fun _=> [] ++ aZ hp):=by
 unfold yO at h
 refine bN.of Tryz.func192 rfl Tryz.ntmps192 rfl fun W A=> ?_
 refine aM ?_
 refine cM fun ba=> ?_
 refine cM fun bh=> ?_
 refine aW ?_
 refine aW ?_
 refine cm ?_
 obtain⟨aG,bF,h⟩:=aC h
 obtain⟨aQ,cR,h⟩:=aC h
 refine kc [0,1,2,3] ?_
 refine ak.pG 2 mixed (bk 6 [] [] _ :: bk 7 (0 :: []) (1 :: []) _ :: bk 8 [] (0 :: []) _ :: bk 9 (2 :: []) [] _ :: ⟨some 10,(1 :: 3 :: []),[],[],fun _=>I.eA [I.of (aQ.1),I.of (aQ.2)],fun _ _=>⟨none,.dead⟩⟩ :: bk 11 (4 :: []) [] _ :: bk 12 (4 :: []) [] _ :: bk 4 (5 :: []) [] _ :: bk 5 (6 :: []) [] _ :: []) _ (0 :: 1 :: 2 :: 3 :: []) rfl rfl (by kernel_rfl) (by kernel_rfl) ⟨b8.q (g8 (bc C4)),b8.q (uf 1 yP zX),b8.q (mO 0 iS),b8.q (cr fun hd E' L' ay aq=>k7 DF (Cu bF) ⟨ad (ay _ _ rfl),trivial⟩),?_,b8.q (cr fun hd E' L' ay aq=>lb (ad (ay _ _ rfl)) rfl),b8.q (cr fun hd E' L' ay aq=>lb (ad (ay _ _ rfl)) rfl),b8.q (cr fun hd E' L' ay aq=>e5 (ad (ay _ _ rfl))),b8.q (cr fun hd E' L' ay aq=>e5 (ad (ay _ _ rfl))),trivial⟩ fun fG=> ?_
 ·intro hd E' L' ay aq ck
  refine ah.iK (fr.iG 2 (ck.trans rfl) Hb (Fv cR) ⟨ad (ay _ _ rfl),ad (ay _ _ rfl),trivial⟩) rfl rfl rfl ?_
  refine ah.nil ?_
  exact aj.fin (ek []) rfl rfl
 refine aj.eH (L2:=(⟨some bh,.var (al:b1)⟩ :: ⟨some ba,.var (ab:jI)⟩ :: aZ hp)) rfl ?_
 refine lF [0,1,2,3,4,5,6,7,8,9,10,11,12] ?_
 refine aj.next ?_
 refine ak.ret ?_
 obtain rfl:=aT h
 exact aj.kL () (.cons _ (.cons _ (.refl _))) rfl rfl (dG rfl) (dG rfl)
theorem E7 {ab:gp} {al:b1} {r:(Vector aw 4) × aw × Int} (h:rk ab al=some r):cl Tryz.prog 204 [I.of (ab),I.of (al)] (I.eA [I.of (r.1),I.of (r.2.1),I.of (r.2.2)]):=by
 unfold rk at h
 refine cl.of Tryz.func204 rfl Tryz.ntmps204 rfl fun W A=> ?_
 refine aM ?_
 refine cM fun ba=> ?_
 refine cM fun bh=> ?_
 refine dL vq fun cH=> ?_
 refine dL fw fun fa=> ?_
 refine aW ?_
 refine cm ?_
 obtain⟨aG,bF,h⟩:=aC h
 obtain⟨aQ,cR,h⟩:=aC h
 refine ak.draw mixed 10 [some 10,some 11,some 12,some 13,some 9,some 14,some 15,some 7,some 8,none] [[],[],[1],[0,2],[3],[4],[4],[],[],[5,7]] [.val _,.val _,.val _,.val _,.val _,.val _,.val _,.new (.var (default:Vector aw 4)),.new (.var (default:aw)),.mQ 7 (.var (aQ.1:Vector aw 4))] [false,false,false,false,false,false,false,false,false,true] (by kernel_rfl) rfl rfl rfl (fun eL=>⟨fY 3 zY,fY 2 iS,jg DF (Cu bF),jg M1 (JQ cR),eE,x5,x5,Lp vq,Lp fw,⟨rfl,_,rfl,fun L' q hq=>zG (i:=q) (aP.id (Vector aw 4)) (v:=(aQ.1:Vector aw 4)) (b':=(aQ.1:Vector aw 4)) j4 (ad rfl) (ad rfl) hq rfl rfl⟩,trivial⟩) fun eL=> ?_
 refine dh 1 cB ?_
 refine cm ?_
 refine aM ?_
 refine bj (bc C2) ?_
 refine dg 5 yD cf ?_
 refine bj (bc o6) ?_
 refine dg 4 ob oA ?_
 refine bj (iq Tryz.underlying51) ?_
 refine bQ nO ?_
 refine a0 ?_
 refine dz h (fun h=>?_) fun h=>?_
 ·refine ak.seq ?_
  refine ak.draw mixed 3 [some 22,some 23,none] [[],[],[0]] [.val _,.val _,.lG 3 (.var (aQ.1:Vector aw 4))] [false,false,true] (by kernel_rfl) rfl rfl rfl (fun ma=>⟨fY 0 j4,fY 1 cB,⟨_,_,rfl,fun L' aq=>zG (i:=3) (aP.id (Vector aw 4)) (v:=(aQ.1:Vector aw 4)) (b':=(aQ.1:Vector aw 4)) j4 (ad rfl) (ad rfl) (aq _ _ rfl) rfl rfl⟩,trivial⟩) fun ma=> ?_
  refine dh 2 cB ?_
  refine aW ?_
  refine a0 ?_
  refine ak.ret ?_
  refine aj.ret ?_
  obtain rfl:=aT h
  exact aj.N5 rfl (jR 3 j4) (jR 2 cB) (vK rfl)
 ·refine dT ?_
  refine ak.seq ?_
  obtain⟨bn,dJ,h⟩:=aC h
  refine ak.draw mixed 11 [some 24,some 25,some 26,some 27,some 28,some 29,some 30,some 31,some 32,none,none] [[],[],[],[2],[],[4],[3,5],[6],[7],[0],[1]] [.val _,.val _,.val _,.val _,.val _,.val _,.val _,.val _,.val _,.lG 3 (.var (aQ.1:Vector aw 4)),.lG 2 (.var (aQ.2:aw))] [false,false,false,false,false,false,false,false,false,true,true] (by kernel_rfl) rfl rfl rfl (fun Ij=>⟨fY 0 j4,fY 1 cB,H1 (bc o6),hT 4 ob oA,H1 (bc C2),hT 5 yD cf,x6 dJ Tryz.underlying51 kO,Ei w5 GN,H1 (fy cf),⟨_,_,rfl,fun L' aq=>zG (i:=3) (aP.id (Vector aw 4)) (v:=(aQ.1:Vector aw 4)) (b':=(aQ.1:Vector aw 4)) j4 (ad rfl) (ad rfl) (aq _ _ rfl) rfl rfl⟩,⟨_,_,rfl,fun L' aq=>zG (i:=2) (aP.id aw) (v:=(aQ.2:aw)) (b':=(aQ.2:aw)) cB (ad rfl) (ad rfl) (aq _ _ rfl) rfl rfl⟩,trivial⟩) fun Ij=> ?_
  refine aW ?_
  refine a0 ?_
  refine ak.ret ?_
  obtain rfl:=aT h
  exact aj.N5 rfl (jR 3 j4) (jR 2 cB) (vK rfl)
theorem FC {ab:Int} {r:aw} (h:tg ab=some r):cl Tryz.prog 148 [I.of (ab)] (I.of (r)):=by
 unfold tg at h
 refine cl.of Tryz.func148 rfl Tryz.ntmps148 rfl fun W A=> ?_
 refine aM ?_
 refine dL fw fun ba=> ?_
 refine cc ?_
 obtain⟨bJ,eC,h⟩:=aC h
 refine dU eC (c2 (b:= { dP:=18446744073709551615#64,cv:=18446744073709551615#64:aw }) rfl jf fw (.cons iM rfl (j3 18446744073709551615 rfl) rfl (.cons gD rfl (j3 18446744073709551615 rfl) rfl (.nil)))) ?_
 refine aL ?_
 obtain⟨aG,bF,h⟩:=aC h
 refine gY M3 (Kg bF) ?_
 refine bQ la ?_
 obtain⟨aQ,cR,h⟩:=aC h
 refine gY M4 (Kn cR) ?_
 refine dh 0 cB ?_
 refine a0 ?_
 refine ak.ret ?_
 obtain rfl:=aT h
 exact aj.mL rfl (jR 0 cB)
theorem Kx {ab:aw} {al:Int} {r:Bool} (h:tj ab al=some r):cl Tryz.prog 172 [I.of (ab),I.of (al)] (I.of (r)):=by
 unfold tj at h
 refine cl.of Tryz.func172 rfl Tryz.ntmps172 rfl fun W A=> ?_
 refine aM ?_
 refine cM fun ba=> ?_
 refine aW ?_
 refine cc ?_
 refine aL ?_
 refine bQ nO ?_
 refine aL ?_
 refine gH cZ ?_
 refine mP hf ?_
 refine lE ?_
 refine aL ?_
 refine fB (fun hb=>fl (i:=0) (aP.id aw) (r:=ab) cB (ad rfl) rfl rfl rfl) ?_
 refine gH cZ ?_
 obtain⟨aG,bF,h⟩:=aC h
 refine fB (fun hb=>k7 M4 (Kn (gr bF hb)) ⟨cy rfl hb,cy rfl hb,trivial⟩) ?_
 refine fB (fun hb=>Tl gD Ua gT rfl (cy rfl hb) rfl rfl) ?_
 refine fB (fun hb=>Gm (cy rfl hb) (j3 1 rfl)) ?_
 refine fB (fun hb=>LX (cy rfl hb) (j3 1 rfl)) ?_
 obtain⟨bJ,eC,h⟩:=aC h
 refine dU eC (tG (ad rfl) (ad rfl) (fun h=>h)) ?_
 refine aW ?_
 refine a0 ?_
 refine ak.ret ?_
 obtain rfl:=aT h
 exact ez
theorem xl {hp:aH Cell} {ab:a2} {al:Int} {Q:Ref × (aH Cell)→Prop} (h:lP hp ab al Q):bN Tryz.prog 9 [I.of (ab),I.of (al)] ([] ++ aZ hp) (δ:= {r:Ref × (aH Cell) // Q r} × Unit) (fun d=>I.of (d.1.1.1)) (fun d=> [] ++ aZ d.1.1.2):=by
 unfold lP at h
 refine bN.of Tryz.func9 rfl Tryz.ntmps9 rfl fun W A=> ?_
 refine aM ?_
 refine cM fun ba=> ?_
 refine bp (e5 (rC)) ?_
 refine cc ?_
 refine cV 0 h5 ?_
 refine aL ?_
 obtain⟨aG,bF,h⟩:=au.cu h
 refine gY N6 (Ka bF) ?_
 refine aW ?_
 refine cm ?_
 refine aM ?_
 refine aL ?_
 refine bQ hf ?_
 refine a0 ?_
 refine ak.cond (ad rfl) (fun ag=> ?_) (fun ag=> ?_)
 ·replace h:=rI ag h
  refine aM ?_
  refine bp (e5 (rC)) ?_
  refine a0 ?_
  refine ak.ret ?_
  refine aj.ret ?_
  exact aj.gF (⟨⟨((none:Ref),hp),h⟩,()⟩: {r // _} × _) (.cons _ (.refl _)) rfl rfl (dG rfl)
 ·replace h:=rJ ag h
  refine dT ?_
  refine aM ?_
  refine bj (bc qG) ?_
  refine dg 0 qq pL ?_
  refine aL ?_
  obtain⟨bn,dJ,h⟩:=au.cu h
  refine lh dJ Tryz.underlying27 hv ?_
  refine bj (fy hv) ?_
  refine dL l4 fun bh=> ?_
  refine dh 0 hv ?_
  refine cc ?_
  refine cV 0 hv ?_
  obtain⟨aQ,cR,h⟩:=au.cu h
  refine gY XI (Q5 cR) ?_
  refine aL ?_
  refine gZ ?_
  refine gZ ?_
  refine aW ?_
  refine aW ?_
  refine cc ?_
  refine aL ?_
  refine bj (bc mC) ?_
  refine dg 0 kJ l2 ?_
  refine bj (iq Tryz.underlying40) ?_
  refine ah.GM (α:=Int) (β:=aA) 2 rfl (Cell.hE ([]:List (Int × aA))) (fun _=>rfl) rfl fun cq wa=> ?_
  replace h:=au.ts h cq wa
  obtain⟨bJ,eC,h⟩:=au.cu h
  refine dU eC (c2 (b:=({ (default:gq) with pE:=aQ.1,o8:=(((aJ ab.cA bn).cj).length:Int),j2:=(⟨some cq.1⟩:fT) } :gq)) rfl Vr Vs (.cons JR rfl (ad rfl) rfl (.cons JS rfl (ad rfl) rfl (.cons w4 rfl (ad rfl) rfl (.nil))))) ?_
  refine ah.Ah 2 rfl (Cell.lf bJ) (fun _=>rfl) (ad rfl) rfl fun cF AK=> ?_
  replace h:=au.ts h cF AK
  refine aW ?_
  refine cm ?_
  refine aM ?_
  refine aL ?_
  refine a0 ?_
  refine ak.block ?_
  refine aM ?_
  refine bQ ir ?_
  refine aW ?_
  refine a0 ?_
  refine ak.vi (γ:=Unit) h (fun bq ax=> [(0,I.of (ab)),(1,I.of (al)),(2,I.eq (.pointer (some ⟨ba,0,none⟩))),(4,I.of (none:Ref)),(5,I.of (aG)),(6,I.eq (.pointer (some ⟨bh,0,none⟩))),(7,I.of (aQ.1)),(8,I.of (aQ.2)),(9,I.of (some cF.1:Ref)),(16,I.of (decide (aG < 0))),(34,I.of (aQ.1)),(42,I.of (aQ.1 ==1))]) (fun bq ax=>(⟨some bh,.var (aJ ab.cA bn:bx)⟩ :: ⟨some ba,.var (ab:a2)⟩ :: aZ bq)) (ad rfl) (fun bq ax h=> ?_) (fun hm ag h=> ?_) (fun hm ag h=> ?_)
  ·refine aj.fV ?_
   refine aj.next ?_
   refine aM ?_
   refine aL ?_
   refine aW ?_
   refine a0 ?_
   refine ak.ret ?_
   exact aj.gF (⟨⟨((some cF.1:Ref),bq),h⟩,()⟩: {r // _} × _) (.cons _ (.cons _ (.refl _))) rfl rfl (dG rfl)
  ·refine ak.cU ?_
   refine aL ?_
   refine ah.kM 2 0 rfl XJ (Rp h) rfl rfl trivial rfl fun⟨⟨bm,h⟩,aN⟩=> ?_
   refine ah.eH (L2:=(⟨some bh,.var (aJ ab.cA bn:bx)⟩ :: ⟨some ba,.var (ab:a2)⟩ :: aZ bm.2)) rfl ?_
   refine jQ Vt Vu { pW:=bm.1:jI } (kT yP .nil) ?_
   refine bp (GO Tryz.underlying127 rfl (ad rfl) (fun _ _ _ h=>R5 h)) ?_
   refine bp (dv (eb (ad rfl) rfl)) ?_
   refine bj (bc tu) ?_
   obtain⟨bw,di,h⟩:=au.cu h
   obtain⟨b9,kv,h⟩:=au.cu h
   refine ah.nL (k':=Cell.lf ({ bw with ik:=(ft.l5 ({ pW:=bm.1:jI })) } :gq)) 2 rfl ((aP.id gq).comp s0) (v:=((ft.l5 ({ pW:=bm.1:jI })):ft)) rY (ad rfl) (ad rfl) (kp di) rfl rfl rfl rfl (aT kv) ?_
   refine ah.nil ?_
   exact dI 0 (hm b9 () h)
  ·refine aM ?_
   refine bQ ir ?_
   refine aW ?_
   refine a0 ?_
   refine ak.vi (γ:=Unit) h (fun cx a5=> [(0,I.of (ab)),(1,I.of (al)),(2,I.eq (.pointer (some ⟨ba,0,none⟩))),(4,I.of (none:Ref)),(5,I.of (aG)),(6,I.eq (.pointer (some ⟨bh,0,none⟩))),(7,I.of (aQ.1)),(8,I.of (aQ.2)),(9,I.of (some cF.1:Ref)),(16,I.of (decide (aG < 0))),(34,I.of (aQ.1)),(42,I.of (aQ.1 ==1)),(50,I.of (aQ.1 ==2))]) (fun cx a5=>(⟨some bh,.var (aJ ab.cA bn:bx)⟩ :: ⟨some ba,.var (ab:a2)⟩ :: aZ cx)) (ad rfl) (fun cx a5 h=> ?_) (fun hm ag h=> ?_) (fun hm ag h=> ?_)
   ·exact dI 0 (hm cx () h)
   ·refine aM ?_
    refine aW ?_
    refine cm ?_
    refine ak.seq ?_
    obtain⟨c3,dj,h⟩:=au.cu h
    obtain⟨cD,h9,h⟩:=au.cu h
    refine ak.draw mixed 8 [some 52,some 53,some 54,some 55,some 56,some 57,some 58,some 59] [[],[],[1],[],[2,3],[4],[5],[0,6]] [.val _,.val _,.val _,.val _,.val _,.val _,.val _,.val _] [false,false,false,false,false,false,false,false] (by kernel_rfl) rfl rfl rfl (fun eL=>⟨fY 1 h5,H1 (bc mC),hT 0 kJ l2,eE,x6 dj Tryz.underlying40 ku,Ei oZ Mr,H1 (fy cf),jg N7 (Kb h9),trivial⟩) fun eL=> ?_
    refine aW ?_
    refine cc ?_
    refine aL ?_
    refine bQ nO ?_
    refine a0 ?_
    obtain⟨eg,fh,h⟩:=au.cu h
    refine ak.cb (γ:=Unit) (fun bH=> [(0,I.of (ab)),(1,I.of (al)),(2,I.eq (.pointer (some ⟨ba,0,none⟩))),(4,I.of (none:Ref)),(5,I.of (aG)),(6,I.eq (.pointer (some ⟨bh,0,none⟩))),(7,I.of (aQ.1)),(8,I.of (aQ.2)),(9,I.of (some cF.1:Ref)),(10,I.of (eg)),(11,I.of (cD)),(16,I.of (decide (aG < 0))),(34,I.of (aQ.1)),(42,I.of (aQ.1 ==1)),(50,I.of (aQ.1 ==2)),(61,I.of (decide (cD≥0)))]) (fun bH=>(⟨some bh,.var (aJ ab.cA bn:bx)⟩ :: ⟨some ba,.var (ab:a2)⟩ :: aZ cF.2)) (ad rfl) (fun bH=> ?_) (fun hm ag=> ?_) (fun hm ag=> ?_)
    ·clear fh
     refine aj.next ?_
     refine ak.cU ?_
     refine aL ?_
     refine aL ?_
     refine aL ?_
     refine ah.GM (α:=Vector aw 4) (β:=Ref) 2 rfl (Cell.iT ([]:List ((Vector aw 4) × Ref))) (fun _=>rfl) rfl fun eM YP=> ?_
     replace h:=au.ts h eM YP
     obtain⟨en,kA,h⟩:=au.cu h
     refine dU kA (c2 (b:= { rZ:=aQ.2,eu:=eg,nI:=(⟨some eM.1⟩:fT):gp }) rfl Vv Vw (.cons yD rfl (ad rfl) rfl (.cons BW rfl (ad rfl) rfl (.cons qo rfl (ad rfl) rfl (.nil))))) ?_
     refine bp (GO Tryz.underlying130 rfl (ad rfl) (fun _ _ _ h=>R6 h)) ?_
     refine bp (dv (eb (ad rfl) rfl)) ?_
     refine bj (bc tu) ?_
     obtain⟨b5,eW,h⟩:=au.cu h
     obtain⟨bI,tU,h⟩:=au.cu h
     refine ah.nL (k':=Cell.lf ({ b5 with ik:=(ft.kP en) } :gq)) 2 rfl ((aP.id gq).comp s0) (v:=((ft.kP en):ft)) rY (ad rfl) (ad rfl) (kp eW) rfl rfl rfl rfl (aT tU) ?_
     refine ah.nil ?_
     exact dI 0 (hm bI () h)
    ·have h:=hC ag fh
     refine ak.cU ?_
     refine bj (bc Dr) ?_
     refine dg 1 B0 Aj ?_
     refine aL ?_
     obtain⟨eI,kd,h⟩:=aC h
     refine lh kd Tryz.underlying23 zT ?_
     refine Ej pz LZ ?_
     refine bj (fy cf) ?_
     refine aW ?_
     refine ah.nil ?_
     obtain rfl:=aT h
     exact dI 0 (hm ())
    ·have h:=hD ag fh
     refine ak.skip ?_
     obtain rfl:=aT h
     exact dI 0 (hm ())
   ·refine ak.cU ?_
    refine aL ?_
    refine cV 1 h5 ?_
    obtain⟨c8,jS,h⟩:=au.cu h
    refine gz 0 XK (QR jS) fun dR=> ?_
    refine ah.Vx 4 2 (Cell.qS c8 dR.2.1 dR.2.2) rfl rfl rfl rfl List.mem_cons_self fun gI YQ YR=> ?_
    replace h:=h (dR.2.1,dR.2.2) gI YQ
    refine ah.Vy 37 rfl YR ?_
    refine jQ Vz VA { bP:=(some gI.1:Ref):ja } (kT yQ .nil) ?_
    refine bp (GO Tryz.underlying134 rfl (ad rfl) (fun _ _ _ h=>R7 h)) ?_
    refine bp (dv (eb (ad rfl) rfl)) ?_
    refine bj (bc tu) ?_
    obtain⟨eo,jT,h⟩:=au.cu h
    obtain⟨fH,Ak,h⟩:=au.cu h
    refine ah.nL (k':=Cell.lf ({ eo with ik:=(ft.kQ ({ bP:=(some gI.1:Ref):ja })) } :gq)) 2 rfl ((aP.id gq).comp s0) (v:=((ft.kQ ({ bP:=(some gI.1:Ref):ja })):ft)) rY (ad rfl) (ad rfl) (kp jT) rfl rfl rfl rfl (aT Ak) ?_
    refine ah.nil ?_
    exact dI 0 (hm fH () h)
theorem Kc {ab:Int} {al:Int} {r:aw} (h:xf ab al=some r):cl Tryz.prog 149 [I.of (ab),I.of (al)] (I.of (r)):=by
 unfold xf at h
 refine cl.of Tryz.func149 rfl Tryz.ntmps149 rfl fun W A=> ?_
 refine aM ?_
 refine dL fw fun ba=> ?_
 refine cc ?_
 refine aL ?_
 obtain⟨aG,bF,h⟩:=aC h
 refine gY M3 (Kg bF) ?_
 refine aW ?_
 refine cc ?_
 refine aL ?_
 refine bQ DD ?_
 refine aL ?_
 refine bQ xF ?_
 refine aW ?_
 refine cc ?_
 refine aL ?_
 obtain⟨aQ,cR,h⟩:=aC h
 refine gY Hc (FC cR) ?_
 refine aL ?_
 refine aL ?_
 refine bQ la ?_
 obtain⟨bm,hh,h⟩:=aC h
 refine gY Hc (FC hh) ?_
 obtain⟨cD,h9,h⟩:=aC h
 refine gY VB (Rq h9) ?_
 refine dh 0 cB ?_
 refine a0 ?_
 refine ak.ret ?_
 obtain rfl:=aT h
 exact aj.mL rfl (jR 0 cB)
theorem y9 {ab:aw} {al:aw} {r:aw} (h:rD ab al=some r):cl Tryz.prog 116 [I.of (ab),I.of (al)] (I.of (r)):=by
 unfold rD at h
 refine cl.of Tryz.func116 rfl Tryz.ntmps116 rfl fun W A=> ?_
 refine aM ?_
 refine cM fun ba=> ?_
 refine cM fun bh=> ?_
 refine dL fw fun cH=> ?_
 refine cc ?_
 refine bj (bc mD) ?_
 refine dg 2 iM gT ?_
 refine bj (bc mD) ?_
 refine dg 1 iM gT ?_
 refine bQ Gm ?_
 refine bj (bc oj) ?_
 refine dg 2 gD gT ?_
 refine bj (bc oj) ?_
 refine dg 1 gD gT ?_
 refine bQ Gm ?_
 obtain⟨bJ,eC,h⟩:=aC h
 refine dU eC (c2 (b:= { dP:=ab.dP &&& al.dP,cv:=ab.cv &&& al.cv:aw }) rfl jf fw (.cons iM rfl (ad rfl) rfl (.cons gD rfl (ad rfl) rfl (.nil)))) ?_
 refine dh 0 cB ?_
 refine a0 ?_
 refine ak.ret ?_
 obtain rfl:=aT h
 exact aj.mL rfl (jR 0 cB)
theorem Ct {ab:Ref} {al:aw} {aU:Int} {r:Int × aw × Ref} (h:xd ab al aU=some r):cl Tryz.prog 215 [I.of (ab),I.of (al),I.of (aU)] (I.gy 220 [I.ptr r.1,I.ptr r.2.1,I.ptr r.2.2]):=by
 unfold xd at h
 refine cl.of Tryz.func215 rfl Tryz.ntmps215 rfl fun W A=> ?_
 refine aM ?_
 refine cM fun ba=> ?_
 refine cM fun bh=> ?_
 refine cM fun cH=> ?_
 refine bp (e5 (GK .nilFunc)) ?_
 refine cc ?_
 refine ah.share (α:=Int) 0 5 rfl rfl ?_
 refine ah.share (α:=aw) 1 4 rfl rfl ?_
 refine ah.share (α:=Ref) 2 3 rfl rfl ?_
 refine bp (MY (f:=220) (τs:= [I.ptr aU,I.ptr al,I.ptr ab]) ⟨ad rfl,ad rfl,ad rfl,trivial⟩) ?_
 refine aW ?_
 refine a0 ?_
 refine ak.ret ?_
 obtain rfl:=aT h
 exact ez
theorem PZ {ab:List c5} {r:(List c5)} (h:BX ab=some r):cl Tryz.prog 112 [I.of (ab)] (I.of (r)):=by
 unfold BX at h
 refine cl.of Tryz.func112 rfl Tryz.ntmps112 rfl fun W A=> ?_
 refine aM ?_
 refine bp (e5 (look_nil (α:=c5))) ?_
 refine cm ?_
 refine aM ?_
 refine aL ?_
 refine bp (M5 Tryz.underlying51 (ad rfl)) ?_
 refine a0 ?_
 refine ak.M6 (ad rfl) (fun ai=> ?_) ?_
 ·subst ai; replace h:=K0 h; subst h
  have h:some ([]:List c5)=some []:=rfl
  refine aM ?_
  refine bp (e5 (look_nil (α:=c5))) ?_
  refine a0 ?_
  refine ak.ret ?_
  refine aj.ret ?_
  replace h:=aT h
  clear h
  exact ez
 ·refine dT ?_
  refine aM ?_
  refine ah.pM (α:=c5) (r:=([]:List c5)) Tryz.underlying51 kO qR rfl rfl (.nil) rfl fun h6=> ?_
  refine aL ?_
  obtain⟨aG,bF,h⟩:=aC h
  refine oE 0 Tryz.underlying51 kO qR bF fun mM gj=> ?_
  refine aW ?_
  refine a0 ?_
  refine ak.ret ?_
  refine aj.oh (α:=c5) 0 [2,7] ⟨rfl,rfl,trivial⟩ rfl ?_
  obtain rfl:=aT h
  exact ez
theorem P0 {ab:List aw} {r:(List aw)} (h:BY ab=some r):cl Tryz.prog 113 [I.of (ab)] (I.of (r)):=by
 unfold BY at h
 refine cl.of Tryz.func113 rfl Tryz.ntmps113 rfl fun W A=> ?_
 refine aM ?_
 refine bp (e5 (look_nil (α:=aw))) ?_
 refine cm ?_
 refine aM ?_
 refine aL ?_
 refine bp (M5 Tryz.underlying42 (ad rfl)) ?_
 refine a0 ?_
 refine ak.M6 (ad rfl) (fun ai=> ?_) ?_
 ·subst ai; replace h:=K0 h; subst h
  have h:some ([]:List aw)=some []:=rfl
  refine aM ?_
  refine bp (e5 (look_nil (α:=aw))) ?_
  refine a0 ?_
  refine ak.ret ?_
  refine aj.ret ?_
  replace h:=aT h
  clear h
  exact ez
 ·refine dT ?_
  refine aM ?_
  refine ah.pM (α:=aw) (r:=([]:List aw)) Tryz.underlying42 cB fw rfl rfl (.nil) rfl fun h6=> ?_
  refine aL ?_
  obtain⟨aG,bF,h⟩:=aC h
  refine oE 0 Tryz.underlying42 cB fw bF fun mM gj=> ?_
  refine aW ?_
  refine a0 ?_
  refine ak.ret ?_
  refine aj.oh (α:=aw) 0 [2,7] ⟨rfl,rfl,trivial⟩ rfl ?_
  obtain rfl:=aT h
  exact ez
theorem P1 {ab:List c5} {al:List c5} {r:Bool} (h:yC ab al=some r):cl Tryz.prog 235 [I.of (ab),I.of (al)] (I.of (r)):=by
 unfold yC at h
 refine cl.of Tryz.func235 rfl Tryz.ntmps235 rfl fun W A=> ?_
 refine aM ?_
 refine aW ?_
 refine cm ?_
 refine aM ?_
 refine aL ?_
 refine bj (iq Tryz.underlying51) ?_
 refine aL ?_
 refine bj (iq Tryz.underlying51) ?_
 refine bQ zZ ?_
 refine a0 ?_
 refine dz h (fun h=>?_) fun h=>?_
 ·refine aM ?_
  refine aW ?_
  refine a0 ?_
  refine ak.ret ?_
  refine aj.ret ?_
  obtain rfl:=aT h
  exact ez
 ·refine dT ?_
  refine ak.seq ?_
  refine aM ?_
  refine aL ?_
  refine bj (iq Tryz.underlying51) ?_
  refine aL ?_
  refine a0 ?_
  refine ak.block ?_
  obtain⟨az,an,h⟩:=aC h
  refine nZ (γ:=Unit) (δ:=Unit) an [0,1,4,10,12] (fun s1 ax=> [(13,I.of (s1))]) (fun s1 ax=> []) (fun aN=>Sum.elim (fun aN=>Exit.exit 0) (fun aN=>Exit.ret) aN) (fun aN ax=>Sum.elim (fun aN=> [(13,I.of (aN.1)),(14,I.of (aN.2))]) (fun aN=> [(5,I.of (aN.1)),(13,I.of (aN.2.1)),(14,I.of (aN.2.2.1)),(24,I.of (aN.2.2.2))]) aN) (fun aN ax=>Sum.elim (fun aN=> []) (fun aN=> []) aN) () (fun s1 r h ax=> ?_) fun ax=> ?_
  ·clear an
   refine aM ?_
   refine bQ hf ?_
   refine cm ?_
   refine dz h (fun h=>?_) fun h=>?_
   ·refine dT ?_
    refine ak.seq ?_
    refine ak.block ?_
    refine aM ?_
    refine aL ?_
    refine aW ?_
    refine cm ?_
    obtain⟨bn,dJ,h⟩:=aC h
    obtain⟨c3,dj,h⟩:=aC h
    refine ak.draw mixed 9 [some 16,some 17,some 18,some 19,some 20,some 21,some 22,some 23,some 24] [[],[],[0,1],[2],[],[],[4,5],[6],[3,7]] [.val _,.val _,.val _,.val _,.val _,.val _,.val _,.val _,.val _] [false,false,false,false,false,false,false,false,false] (by kernel_rfl) rfl rfl rfl (fun eL=>⟨eE,eE,x6 dJ Tryz.underlying51 kO,H1 (fy kO),eE,eE,x6 dj Tryz.underlying51 kO,H1 (fy kO),mo (VC VD rfl VE rfl),trivial⟩) fun eL=> ?_
    refine a0 ?_
    refine dz h (fun h=>?_) fun h=>?_
    ·refine aM ?_
     refine aW ?_
     refine a0 ?_
     refine ak.ret ?_
     refine aj.fS ?_
     refine aj.ret ?_
     obtain rfl:=aT h
     exact hg () 0
    ·refine ak.skip ?_
     refine aj.fV ?_
     refine aj.next ?_
     refine ak.cU ?_
     refine bQ eR ?_
     refine aL ?_
     refine ah.nil ?_
     obtain rfl:=aT h
     exact kb () 0
   ·refine ak.exit ?_
    refine aj.exit ?_
    obtain rfl:=aT h
    exact hg () 0
  ·clear an
   rcases az with az | az
   ·simp only [Sum.elim_inl] at h
    refine aj.jd ?_
    refine aj.next ?_
    refine aM ?_
    refine aW ?_
    refine a0 ?_
    refine ak.ret ?_
    obtain rfl:=aT h
    exact ez
   ·simp only [Sum.elim_inr] at h
    refine aj.fS ?_
    refine aj.ret ?_
    obtain rfl:=aT h
    exact ez
theorem QS {hp:aH Cell} {ab:Ref} {al:Vector aw 4} {aU:Int} {r:Bool × (aH Cell)} (h:Cs hp ab al aU=some r):bN Tryz.prog 198 [I.of (ab),I.of (al),I.of (aU)] ([] ++ aZ hp) (δ:=Unit) (fun d=>I.of (r.1)) (fun d=> [] ++ aZ r.2):=by
 unfold Cs at h
 refine bN.of Tryz.func198 rfl Tryz.ntmps198 rfl fun W A=> ?_
 refine aM ?_
 refine cM fun ba=> ?_
 refine aW ?_
 refine cm ?_
 refine aM ?_
 refine aL ?_
 refine bp (mz Tryz.underlying124 (ad rfl)) ?_
 refine a0 ?_
 refine dz h (fun h=>?_) fun h=>?_
 ·refine aM ?_
  refine aW ?_
  refine a0 ?_
  refine ak.ret ?_
  refine aj.ret ?_
  obtain rfl:=aT h
  exact aj.gF () (.cons _ (.refl _)) rfl rfl (dG rfl)
 ·refine dT ?_
  refine ak.seq ?_
  refine ak.seq ?_
  obtain⟨bT,c7,h⟩:=aC h
  obtain⟨bw,di,h⟩:=aC h
  obtain⟨bU,eS,h⟩:=aC h
  obtain⟨b5,eW,h⟩:=aC h
  obtain⟨bJ,eC,h⟩:=aC h
  refine ak.draw mixed 10 [some 12,some 13,some 14,some 15,some 16,some 17,some 11,some 18,some 19,some 7] [[],[0],[1],[2],[],[3,4],[5],[6],[6],[7]] [.val _,.val _,.val _,.val _,.val _,.val _,.val _,.val _,.val _,.val _] [false,false,false,false,false,false,false,false,false,false] (by kernel_rfl) rfl rfl rfl (fun eL=>⟨eE,e7 fun L' aq=>dv (eb (ad rfl) c7),H1 (bc C1),e7 fun L' aq=>fv ((aP.id m5).comp yI) (r:=bw.ou) zW (ad rfl) (j7 (fun i e q=>aq i e q rfl) (eK (n:=1) rfl (tA di) rfl)) rfl rfl,fY 0 lz,e7 fun L' aq=>F0 (r:=bJ) Tryz.underlying186 DE lk (lQ (ad rfl) eS) (ad rfl) (j7 (fun i e q=>aq i e q rfl) (eK (n:=1) rfl (qF eW) rfl)) (aT eC),eE,x5,x5,wS,trivial⟩) fun eL=> ?_
  refine aW ?_
  refine cc ?_
  refine aL ?_
  refine a0 ?_
  refine dz h (fun h=>?_) fun h=>?_
  ·refine aM ?_
   refine aW ?_
   refine a0 ?_
   refine ak.ret ?_
   refine aj.ret ?_
   obtain rfl:=aT h
   exact aj.gF () (.cons _ (.refl _)) rfl rfl (dG rfl)
  ·refine dT ?_
   refine ak.seq ?_
   refine ak.draw mixed 6 [some 21,some 22,some 23,some 24,some 25,some 26] [[],[0],[1],[2],[],[]] [.val _,.val _,.val _,.val _,.val _,.val _] [false,false,false,false,false,false] (by kernel_rfl) rfl rfl rfl (fun ma=>⟨eE,e7 fun L' aq=>dv (eb (ad rfl) c7),H1 (bc C1),e7 fun L' aq=>fv ((aP.id m5).comp yI) (r:=bw.ou) zW (ad rfl) (j7 (fun i e q=>aq i e q rfl) (eK (n:=1) rfl (tA di) rfl)) rfl rfl,fY 0 lz,eE,trivial⟩) fun ma=> ?_
   obtain⟨b9,kv,h⟩:=aC h
   refine ah.Hd (k':=Cell.nU (fc b5 al aU)) 1 rfl (by first | exact .inl rfl | exact .inr rfl) Tryz.underlying186 DE (lQ (ad rfl) eS) (ad rfl) (ad rfl) (qF eW) rfl rfl rfl (aT kv) ?_
   refine cc ?_
   refine aW ?_
   refine a0 ?_
   refine ak.ret ?_
   obtain rfl:=aT h
   exact aj.gF () (.cons _ (.refl _)) rfl rfl (dG rfl)
theorem RI {hp:aH Cell} {ab:Int} {Q:Ref × (aH Cell)→Prop} (h:zd hp ab Q):bN Tryz.prog 208 [I.of (ab)] ([] ++ aZ hp) (δ:= {r:Ref × (aH Cell) // Q r} × Unit) (fun d=>I.of (d.1.1.1)) (fun d=> [] ++ aZ d.1.1.2):=by
 unfold zd at h
 refine bN.of Tryz.func208 rfl Tryz.ntmps208 rfl fun W A=> ?_
 refine aM ?_
 refine bp (e5 (rC)) ?_
 refine cc ?_
 refine aL ?_
 refine bQ DD ?_
 refine bQ xF ?_
 obtain⟨bJ,eC,h⟩:=au.cu h
 refine dU eC (c2 (b:=({ (default:eJ) with eu:=min (max 1 ab) 128 } :eJ)) rfl VF VG (.cons s6 rfl (ad rfl) rfl (.nil))) ?_
 refine ah.Ah 0 rfl (Cell.gL bJ) (fun _=>rfl) (ad rfl) rfl fun cq wa=> ?_
 replace h:=au.ts h cq wa
 refine aW ?_
 refine a0 ?_
 refine ak.ret ?_
 exact aj.gF (⟨⟨((some cq.1:Ref),cq.2),h⟩,()⟩: {r // _} × _) (.refl _) rfl rfl (dG rfl)
theorem JP {ab:aA} {al:Int} {r:Bool} (h:uC ab al=some r):cl Tryz.prog 244 [I.of (ab),I.ptr al] (I.of (r)):=by
 unfold uC at h
 refine cl.of Tryz.func244 rfl Tryz.ntmps244 rfl fun W A=> ?_
 refine aM ?_
 refine cM fun ba=> ?_
 refine aW ?_
 refine cc ?_
 refine bj (bc nM) ?_
 refine dg 0 m3 cf ?_
 refine bj (fy cf) ?_
 refine bQ ir ?_
 refine aW ?_
 refine a0 ?_
 refine ak.ret ?_
 obtain rfl:=aT h
 exact ez
theorem JM {ab:List aA} {al:aA→Option Bool} {r:Int} (h:uz ab al=some r):cl Tryz.prog 87 [I.of (ab),I.v9 Tryz.prog al] (I.of (r)):=by
 unfold uz at h
 refine cl.of Tryz.func87 rfl Tryz.ntmps87 rfl fun W A=> ?_
 refine aM ?_
 refine aW ?_
 refine cm ?_
 refine aM ?_
 refine aL ?_
 refine bj (iq Tryz.underlying67) ?_
 refine aL ?_
 refine a0 ?_
 refine ak.block ?_
 obtain⟨az,an,h⟩:=aC h
 refine nZ (γ:=Unit) (δ:=Unit) an [0,1,7] (fun s1 ax=> [(4,I.of (0:Int)),(8,I.of (s1))]) (fun s1 ax=> []) (fun aN=>Sum.elim (fun aN=>Exit.exit 0) (fun aN=>Exit.ret) aN) (fun aN ax=>Sum.elim (fun aN=> [(4,I.of (0:Int)),(8,I.of (aN.1)),(9,I.of (aN.2))]) (fun aN=> [(4,I.of (aN.1)),(5,I.of (aN.2.1)),(8,I.of (aN.2.2.1)),(9,I.of (aN.2.2.2.1)),(16,I.of (aN.2.2.2.2))]) aN) (fun aN ax=>Sum.elim (fun aN=> []) (fun aN=> []) aN) () (fun s1 r h ax=> ?_) fun ax=> ?_
 ·clear an
  refine aM ?_
  refine bQ hf ?_
  refine cm ?_
  refine dz h (fun h=>?_) fun h=>?_
  ·refine dT ?_
   refine ak.seq ?_
   refine ak.block ?_
   refine aM ?_
   refine aL ?_
   refine aW ?_
   refine cc ?_
   refine aL ?_
   refine aL ?_
   refine aL ?_
   obtain⟨bn,dJ,h⟩:=aC h
   refine lh dJ Tryz.underlying67 c6 ?_
   refine bj (fy c6) ?_
   obtain⟨aG,bF,h⟩:=aC h
   refine bp (CN (ad rfl) (ad rfl) bF) ?_
   refine a0 ?_
   refine dz h (fun h=>?_) fun h=>?_
   ·refine aM ?_
    refine aL ?_
    refine aW ?_
    refine a0 ?_
    refine ak.ret ?_
    refine aj.fS ?_
    refine aj.ret ?_
    obtain rfl:=aT h
    exact hg () 0
   ·refine ak.skip ?_
    refine aj.fV ?_
    refine aj.next ?_
    refine ak.cU ?_
    refine bQ eR ?_
    refine aL ?_
    refine ah.nil ?_
    obtain rfl:=aT h
    exact kb () 0
  ·refine ak.exit ?_
   refine aj.exit ?_
   obtain rfl:=aT h
   exact hg () 0
 ·clear an
  rcases az with az | az
  ·simp only [Sum.elim_inl] at h
   refine aj.jd ?_
   refine aj.next ?_
   refine aM ?_
   refine aW ?_
   refine a0 ?_
   refine ak.ret ?_
   obtain rfl:=aT h
   exact ez
  ·simp only [Sum.elim_inr] at h
   refine aj.fS ?_
   refine aj.ret ?_
   obtain rfl:=aT h
   exact ez
theorem PK {ab:List aA} {al:aA} {aU:aA→aA→Option Int} {r:Int × Bool} (h:yw ab al aU=some r):cl Tryz.prog 239 [I.of (ab),I.of (al),I.Ek Tryz.prog aU] (I.eA [I.of (r.1),I.of (r.2)]):=by
 unfold yw at h
 refine cl.of Tryz.func239 rfl Tryz.ntmps239 rfl fun W A=> ?_
 refine aM ?_
 refine cM fun ba=> ?_
 refine aW ?_
 refine aW ?_
 refine cc ?_
 refine aL ?_
 refine bj (iq Tryz.underlying67) ?_
 refine aW ?_
 refine cc ?_
 refine aL ?_
 refine aW ?_
 refine aW ?_
 refine cm ?_
 refine ak.block ?_
 obtain⟨az,an,h⟩:=aC h
 refine nZ (γ:=Unit) (δ:=Unit) an [0,1,2,4,6,7,8] (fun s1 ax=> [(9,I.of (s1.1)),(10,I.of (s1.2))]) (fun s1 ax=> []) (fun aN=>Exit.exit 0) (fun aN ax=> [(9,I.of (aN.1)),(10,I.of (aN.2.1)),(17,I.of (aN.2.2))]) (fun aN ax=> []) () (fun s1 r h ax=> ?_) fun ax=> ?_
 ·clear an
  refine ak.seq ?_
  refine aM ?_
  refine aL ?_
  refine aL ?_
  refine bQ hf ?_
  refine a0 ?_
  refine dz h (fun h=>?_) fun h=>?_
  ·refine dT ?_
   refine ak.block ?_
   refine aM ?_
   refine aL ?_
   refine aL ?_
   refine bQ eR ?_
   refine bj (o7 Tryz.underlying3 Tryz.underlying147) ?_
   refine bp (tt (ad rfl) (j3 1 rfl)) ?_
   refine bj (Ub Tryz.underlying147 Tryz.underlying3) ?_
   refine aW ?_
   refine cm ?_
   obtain⟨bn,dJ,h⟩:=aC h
   obtain⟨aG,bF,h⟩:=aC h
   refine ak.draw mixed 8 [some 24,some 25,some 26,some 27,some 28,some 29,some 30,some 31] [[],[],[],[1,2],[3],[],[0,4,5],[6]] [.val _,.val _,.val _,.val _,.val _,.val _,.val _,.val _] [false,false,false,false,false,false,false,false] (by kernel_rfl) rfl rfl rfl (fun eL=>⟨eE,eE,eE,x6 dJ Tryz.underlying67 c6,H1 (fy c6),fY 0 c6,e7 fun L' aq=>Lq (ad rfl) (ad rfl) (ad rfl) bF,mo hf,trivial⟩) fun eL=> ?_
   refine a0 ?_
   obtain⟨bq,cn,h⟩:=aC h
   refine lj (γ:=Unit) [0,1,2,4,6,7,8,11,17,31] (fun a5=> [(9,I.of (bq.1)),(10,I.of (bq.2))]) (fun a5=> []) (fun a5=> ?_) (fun hm ag=> ?_) fun hm ag=> ?_
   ·clear cn
    refine aj.fV ?_
    obtain rfl:=aT h
    exact kb () 0
   ·have h:=hC ag cn
    refine ak.cU ?_
    refine aL ?_
    obtain⟨bJ,eC,h⟩:=aC h
    refine dU eC (eR (ad rfl) (bG 1)) ?_
    refine aW ?_
    refine ah.nil ?_
    obtain rfl:=aT h
    exact dI 0 (hm ())
   ·have h:=hD ag cn
    refine ak.cU ?_
    refine aL ?_
    refine aW ?_
    refine ah.nil ?_
    obtain rfl:=aT h
    exact dI 0 (hm ())
  ·refine ak.exit ?_
   refine aj.exit ?_
   obtain rfl:=aT h
   exact hg () 0
 ·clear an
  refine aj.jd ?_
  refine aj.next ?_
  refine ak.seq ?_
  refine kc [0,1,2,4,7,8,9,10,17] ?_
  obtain⟨c3,dj,h⟩:=aC h
  obtain⟨aQ,cR,h⟩:=aC h
  refine ak.draw mixed 15 [some 35,some 36,some 37,some 38,some 39,some 40,some 41,some 42,some 43,some 44,some 45,some 46,some 47,some 48,some 6] [[],[],[],[1,2],[3],[4],[4],[4],[4,6,7],[4,8],[4],[4,5,9,10],[4,11],[4,12],[0]] [.val _,.val _,.val _,.val _,.val _,.val _,.val _,.val _,.val _,.val _,.val _,.val _,.val _,.val _,.val _] [false,false,false,false,false,false,false,false,false,false,false,false,false,false,false] (by kernel_rfl) rfl rfl rfl (fun ma=>⟨eE,eE,eE,mo hf,eE,e8 fun L' aq=>fun hb=>cZ (ad rfl),e8 fun L' aq=>fun hb=>cZ (ad rfl),e8 fun L' aq=>fun hb=>cZ (ad rfl),e8 fun L' aq=>fun hb=>r1 (k:=c3) Tryz.underlying67 c6 (cy rfl hb) (cy rfl hb) (eh (gr dj hb)),e8 fun L' aq=>fun hb=>fy c6 (cy rfl hb),e8 fun L' aq=>fun hb=>fl (i:=0) (aP.id aA) (r:=al) c6 (ad rfl) (aq _ _ rfl rfl) rfl rfl,e8 fun L' aq=>fun hb=>Lq (cy rfl hb) (cy rfl hb) (cy rfl hb) (gr cR hb),e8 fun L' aq=>fun hb=>ir (cy rfl hb) (bG 0),e7 fun L' aq=>tG (ad rfl) (ad rfl) (fun h=>h),wS,trivial⟩) fun ma=> ?_
  refine aW ?_
  refine a0 ?_
  refine ak.ret ?_
  obtain rfl:=aT h
  exact OJ
theorem Kd {ab:Int} {r:Bool} (h:yV ab=some r):cl Tryz.prog 146 [I.of (ab)] (I.of (r)):=by
 unfold yV at h
 refine cl.of Tryz.func146 rfl Tryz.ntmps146 rfl fun W A=> ?_
 refine aM ?_
 refine aW ?_
 refine cc ?_
 refine aL ?_
 refine aL ?_
 refine bQ zZ ?_
 refine aW ?_
 refine a0 ?_
 refine ak.ret ?_
 obtain rfl:=aT h
 exact ez
theorem PR {ab:List cJ} {al:cJ→Option Bool} {r:Int} (h:yA ab al=some r):cl Tryz.prog 114 [I.of (ab),I.v9 Tryz.prog al] (I.of (r)):=by
 unfold yA at h
 refine cl.of Tryz.func114 rfl Tryz.ntmps114 rfl fun W A=> ?_
 refine aM ?_
 refine aW ?_
 refine cm ?_
 refine aM ?_
 refine aL ?_
 refine bj (iq Tryz.underlying40) ?_
 refine aL ?_
 refine a0 ?_
 refine ak.block ?_
 obtain⟨az,an,h⟩:=aC h
 refine nZ (γ:=Unit) (δ:=Unit) an [0,1,7] (fun s1 ax=> [(4,I.of (0:Int)),(8,I.of (s1))]) (fun s1 ax=> []) (fun aN=>Sum.elim (fun aN=>Exit.exit 0) (fun aN=>Exit.ret) aN) (fun aN ax=>Sum.elim (fun aN=> [(4,I.of (0:Int)),(8,I.of (aN.1)),(9,I.of (aN.2))]) (fun aN=> [(4,I.of (aN.1)),(5,I.of (aN.2.1)),(8,I.of (aN.2.2.1)),(9,I.of (aN.2.2.2.1)),(16,I.of (aN.2.2.2.2))]) aN) (fun aN ax=>Sum.elim (fun aN=> []) (fun aN=> []) aN) () (fun s1 r h ax=> ?_) fun ax=> ?_
 ·clear an
  refine aM ?_
  refine bQ hf ?_
  refine cm ?_
  refine dz h (fun h=>?_) fun h=>?_
  ·refine dT ?_
   refine ak.seq ?_
   refine ak.block ?_
   refine aM ?_
   refine aL ?_
   refine aW ?_
   refine cc ?_
   refine aL ?_
   refine aL ?_
   refine aL ?_
   obtain⟨bn,dJ,h⟩:=aC h
   refine lh dJ Tryz.underlying40 ku ?_
   refine bj (fy ku) ?_
   obtain⟨aG,bF,h⟩:=aC h
   refine bp (CN (ad rfl) (ad rfl) bF) ?_
   refine a0 ?_
   refine dz h (fun h=>?_) fun h=>?_
   ·refine aM ?_
    refine aL ?_
    refine aW ?_
    refine a0 ?_
    refine ak.ret ?_
    refine aj.fS ?_
    refine aj.ret ?_
    obtain rfl:=aT h
    exact hg () 0
   ·refine ak.skip ?_
    refine aj.fV ?_
    refine aj.next ?_
    refine ak.cU ?_
    refine bQ eR ?_
    refine aL ?_
    refine ah.nil ?_
    obtain rfl:=aT h
    exact kb () 0
  ·refine ak.exit ?_
   refine aj.exit ?_
   obtain rfl:=aT h
   exact hg () 0
 ·clear an
  rcases az with az | az
  ·simp only [Sum.elim_inl] at h
   refine aj.jd ?_
   refine aj.next ?_
   refine aM ?_
   refine aW ?_
   refine a0 ?_
   refine ak.ret ?_
   obtain rfl:=aT h
   exact ez
  ·simp only [Sum.elim_inr] at h
   refine aj.fS ?_
   refine aj.ret ?_
   obtain rfl:=aT h
   exact ez
theorem QL {ab:cJ} {r:Bool} (h:Fq ab=some r):cl Tryz.prog 171 [I.of (ab)] (I.of (r)):=by
 unfold Fq at h
 refine cl.of Tryz.func171 rfl Tryz.ntmps171 rfl fun W A=> ?_
 refine aM ?_
 refine cM fun ba=> ?_
 refine aW ?_
 refine cc ?_
 refine bj (bc GL) ?_
 refine dg 0 oc cf ?_
 refine bQ ir ?_
 refine aW ?_
 refine a0 ?_
 refine ak.ret ?_
 obtain rfl:=aT h
 exact ez
theorem J4 {hp:aH Cell} {ab:Ref} {r:Bool} (h:xa hp ab=some r):bN Tryz.prog 217 [I.of (ab)] ([] ++ aZ hp) (δ:=Unit) (fun _=>I.of (r)) (fun _=> [] ++ aZ hp):=by
 unfold xa at h
 refine bN.of Tryz.func217 rfl Tryz.ntmps217 rfl fun W A=> ?_
 refine aM ?_
 refine aW ?_
 refine cc ?_
 refine aL ?_
 obtain⟨bT,c7,h⟩:=aC h
 refine bp (dv (eb (ad rfl) c7)) ?_
 refine bj (bc qD) ?_
 obtain⟨bw,di,h⟩:=aC h
 refine bp (fv ((aP.id dn).comp qt) (r:=bw.cW) ix (ad rfl) (eK (n:=0) rfl (iO di) rfl) rfl rfl) ?_
 refine bj kt ?_
 refine aL ?_
 refine gH cZ ?_
 obtain⟨bU,eS,h⟩:=aC h
 refine fB (fun hb=>dv (eb (cy rfl hb) (gr eS hb))) ?_
 refine gH (bc qE) ?_
 obtain⟨b5,eW,h⟩:=aC h
 refine fB (fun hb=>fv ((aP.id dn).comp qp) (r:=b5.ct) M7 (cy rfl hb) (eK (n:=0) rfl (iO (gr eW hb)) rfl) rfl rfl) ?_
 refine fB (fun hb=>Lt (b:=(default:Vector Ref 2)) (sz:=1) rfl Tryz.underlying301 (by kernel_rfl) VH (.nil)) ?_
 refine fB (fun hb=>SJ Tryz.underlying301 dO Tryz.underlying299 Uc (cy rfl hb) (cy rfl hb) VI) ?_
 refine lE ?_
 refine aW ?_
 refine a0 ?_
 refine ak.ret ?_
 obtain rfl:=aT h
 exact aj.gF () (.refl _) rfl rfl (dG rfl)
theorem Qb {hp:aH Cell} {ab:Ref} {al:aw} {aU:Int} {cE:List da} {oD:Nat} {Gn:Option Nat} {Gp:Nat} {r:(List da)} (h:B1 hp ab al aU cE=some r):bN Tryz.prog 222 [I.of (ab),I.of (al),I.of (aU),I.eq (.pointer (some ⟨oD,0,none⟩))] ([⟨some oD,.bZ ([]:List da) [(0,bf Gn cE.length Gp)]⟩,⟨Gn,.row 315 (cE:List da) Gp⟩] ++ aZ hp) (δ:=(Option Nat × Nat)) (fun d=>I.eA []) (fun d=> [⟨some oD,.bZ ([]:List da) [(0,bf d.1 (r).length d.2)]⟩,⟨d.1,.row 315 (r:List da) d.2⟩] ++ aZ hp):=by
 unfold B1 at h
 refine bN.of Tryz.func222 rfl Tryz.ntmps222 rfl fun W A=> ?_
 refine aM ?_
 refine cM fun ba=> ?_
 refine cc ?_
 refine aL ?_
 obtain⟨bT,c7,h⟩:=aC h
 refine bp (dv (eb (ad rfl) c7)) ?_
 refine bj (bc qD) ?_
 obtain⟨bw,di,h⟩:=aC h
 refine bp (fv ((aP.id dn).comp qt) (r:=bw.cW) ix (ad rfl) (eK (n:=3) rfl (iO di) rfl) rfl rfl) ?_
 refine a0 ?_
 obtain⟨bq,cn,h⟩:=aC h
 refine ak.cb (γ:=(Option Nat × Nat)) (fun ax=> [(0,I.of (ab)),(1,I.of (al)),(2,I.of (aU)),(3,I.eq (.pointer (some ⟨oD,0,none⟩))),(5,I.eq (.pointer (some ⟨ba,0,none⟩))),(10,I.of (bw.cW))]) (fun ax=>(⟨some ba,.var (al:aw)⟩ :: ⟨some oD,.bZ ([]:List da) [(0,bf ax.1 bq.length ax.2)]⟩ :: ⟨ax.1,.row 315 (bq:List da) ax.2⟩ :: aZ hp)) (ad rfl) (fun ax=> ?_) (fun hm ag=> ?_) (fun hm ag=> ?_)
 ·clear cn
  refine aj.oz ?_
  refine aj.b2 2 rfl ?_
  refine aj.b2 2 rfl ?_
  obtain rfl:=aT h
  exact aj.lY (ax.1,ax.2) (.cons_cons _ (.cons_cons _ (.cons _ (.refl _)))) rfl rfl
 ·have h:=hC ag cn
  refine ak.draw mixed 9 [some 11,some 12,some 13,some 14,some 15,some 16,some 17,some 18,some 19] [[],[],[],[],[3],[4],[5],[1,2,6],[7]] [.val _,.val _,.val _,.val _,.val _,.val _,.val _,.val _,.val _] [false,false,false,false,false,false,false,false,false] (by kernel_rfl) rfl rfl rfl (fun eL=>⟨e7 fun L' aq=>il (i:=1) (q:=0) (β:=List da) (γ:=da) He (ad rfl) (aq _ _ rfl rfl) rfl,fY 0 cB,eE,eE,e7 fun L' aq=>dv (eb (ad rfl) c7),H1 (bc zu),e7 fun L' aq=>fv ((aP.id dn).comp yU) (r:=bw.gi) cf (ad rfl) (j7 (fun i e q=>aq i e q rfl) (eK (n:=3) rfl (iO di) rfl)) rfl rfl,e7 fun L' aq=>c2 (b:= { cL:=al,u2:=aU,bW:=bw.gi:da }) rfl VJ Hf (.cons Qc rfl (ad rfl) rfl (.cons P4 rfl (ad rfl) rfl (.cons QD rfl (ad rfl) rfl (.nil)))),e7 fun L' aq=>j5 (r:= [{ cL:=al,u2:=aU,bW:=bw.gi:da }]) Tryz.underlying310 M8 Hf rfl rfl (.cons (by simp) (ad rfl) (.nil)),trivial⟩) fun eL=> ?_
  obtain⟨aG,bF,h⟩:=aC h
  refine oE 2 Tryz.underlying310 M8 Hf bF fun h6 gj=> ?_
  refine ah.kq (i:=1) (γ:=da) (b':=([]:List da)) (os':= [(0,bf h6 aG.length gj)]) (aP.id (List da)) He (ad rfl) (ad rfl) jy rfl rfl rfl rfl ?_
  refine ah.nil ?_
  obtain rfl:=aT h
  exact dI 0 (hm (h6,gj))
 ·have h:=hD ag cn
  refine ak.skip ?_
  obtain rfl:=aT h
  exact dI 0 (hm (Gn,Gp))
theorem RJ {ab:BitVec 64} {r:aw} (h:FI ab=some r):cl Tryz.prog 160 [I.of (ab)] (I.of (r)):=by
 unfold FI at h
 refine cl.of Tryz.func160 rfl Tryz.ntmps160 rfl fun W A=> ?_
 refine aM ?_
 refine dL fw fun ba=> ?_
 refine cc ?_
 refine aL ?_
 refine jQ jf fw ({ (default:aw) with cv:=ab } :aw) (kT gD .nil) ?_
 refine dh 0 cB ?_
 refine a0 ?_
 refine ak.ret ?_
 obtain rfl:=aT h
 exact aj.mL rfl (jR 0 cB)
theorem Ri {ab:aw} {al:Int} {r:aw} (h:y5 ab al=some r):cl Tryz.prog 159 [I.of (ab),I.of (al)] (I.of (r)):=by
 unfold y5 at h
 refine cl.of Tryz.func159 rfl Tryz.ntmps159 rfl fun W A=> ?_
 refine aM ?_
 refine cM fun ba=> ?_
 refine dL fw fun bh=> ?_
 refine cm ?_
 refine ak.block ?_
 refine aM ?_
 refine aL ?_
 refine bQ tH ?_
 refine aW ?_
 refine a0 ?_
 refine dz h (fun h=>?_) fun h=>?_
 ·refine aM ?_
  refine cV 1 cB ?_
  refine dh 0 cB ?_
  refine a0 ?_
  refine ak.ret ?_
  refine aj.fS ?_
  refine aj.ret ?_
  obtain rfl:=aT h
  exact aj.mL rfl (jR 0 cB)
 ·refine aM ?_
  refine aL ?_
  refine bQ nO ?_
  refine aW ?_
  refine a0 ?_
  refine dz h (fun h=>?_) fun h=>?_
  ·refine aM ?_
   refine bj (bc oj) ?_
   refine dg 1 gD gT ?_
   refine aL ?_
   refine bQ la ?_
   refine bj (o7 Tryz.underlying3 Tryz.underlying147) ?_
   refine bQ C3 ?_
   obtain⟨bJ,eC,h⟩:=aC h
   refine dU eC (c2 (b:=({ (default:aw) with dP:=ab.cv <<< (BitVec.ofInt 64 (bE (al - 64))).toNat } :aw)) rfl jf fw (.cons iM rfl (ad rfl) rfl (.nil))) ?_
   refine dh 0 cB ?_
   refine a0 ?_
   refine ak.ret ?_
   refine aj.fS ?_
   refine aj.ret ?_
   obtain rfl:=aT h
   exact aj.mL rfl (jR 0 cB)
  ·refine ak.skip ?_
   refine aj.fV ?_
   refine aj.next ?_
   refine aM ?_
   refine bj (bc mD) ?_
   refine dg 1 iM gT ?_
   refine aL ?_
   refine bj (o7 Tryz.underlying3 Tryz.underlying147) ?_
   refine bQ C3 ?_
   refine bj (bc oj) ?_
   refine dg 1 gD gT ?_
   refine aL ?_
   refine bQ la ?_
   refine bj (o7 Tryz.underlying3 Tryz.underlying147) ?_
   refine bQ tt ?_
   obtain⟨en,kA,h⟩:=aC h
   refine dU kA (Dp (ad rfl) (ad rfl)) ?_
   refine bj (bc oj) ?_
   refine dg 1 gD gT ?_
   refine aL ?_
   refine bj (o7 Tryz.underlying3 Tryz.underlying147) ?_
   refine bQ C3 ?_
   obtain⟨fP,nf,h⟩:=aC h
   refine dU nf (c2 (b:= { dP:=en,cv:=ab.cv <<< (BitVec.ofInt 64 al).toNat:aw }) rfl jf fw (.cons iM rfl (ad rfl) rfl (.cons gD rfl (ad rfl) rfl (.nil)))) ?_
   refine dh 0 cB ?_
   refine a0 ?_
   refine ak.ret ?_
   obtain rfl:=aT h
   exact aj.mL rfl (jR 0 cB)
theorem RK {ab:aw} {al:aw} {r:aw} (h:FJ ab al=some r):cl Tryz.prog 154 [I.of (ab),I.of (al)] (I.of (r)):=by
 unfold FJ at h
 refine cl.of Tryz.func154 rfl Tryz.ntmps154 rfl fun W A=> ?_
 refine aM ?_
 refine cM fun ba=> ?_
 refine cM fun bh=> ?_
 refine dL fw fun cH=> ?_
 refine cc ?_
 refine bj (bc mD) ?_
 refine dg 2 iM gT ?_
 refine bj (bc mD) ?_
 refine dg 1 iM gT ?_
 refine bQ Dp ?_
 refine bj (bc oj) ?_
 refine dg 2 gD gT ?_
 refine bj (bc oj) ?_
 refine dg 1 gD gT ?_
 refine bQ Dp ?_
 obtain⟨bJ,eC,h⟩:=aC h
 refine dU eC (c2 (b:= { dP:=ab.dP ||| al.dP,cv:=ab.cv ||| al.cv:aw }) rfl jf fw (.cons iM rfl (ad rfl) rfl (.cons gD rfl (ad rfl) rfl (.nil)))) ?_
 refine dh 0 cB ?_
 refine a0 ?_
 refine ak.ret ?_
 obtain rfl:=aT h
 exact aj.mL rfl (jR 0 cB)
theorem PM {ab:List aA} {al aU:Int} {qK:Option Nat} {fE:Nat} {r:List aA} (h:E5 ab al aU=some r):bN Tryz.prog 241 [I.eq (bf qK ab.length fE),I.of al,I.of aU] [⟨qK,.row 56 ab fE⟩] (δ:=(Option Nat × Nat)) (fun d=>I.eq (bf d.1 r.length d.2)) (fun d=> [⟨d.1,.row 56 r d.2⟩]):=by
 unfold E5 at h
 obtain⟨m,n,rfl,rfl,qZ,aF,rfl⟩:=R8 h
 refine bN.of Tryz.func241 rfl Tryz.ntmps241 rfl fun W A=> ?_
 refine ak.seq ?_
 refine ak.cU ?_
 refine ah.v (e5 xn) rfl rfl rfl ?_
 refine ah.nil ?_
 refine aj.next ?_
 refine ak.seq ?_
 refine ak.cU ?_
 refine ah.v (cZ (ad rfl)) rfl rfl rfl ?_
 refine ah.v (cZ (ad rfl)) rfl rfl rfl ?_
 refine ah.v (cZ (ad rfl)) rfl rfl rfl ?_
 refine ah.v (cZ (ad rfl)) rfl rfl rfl ?_
 refine ah.v (rR (i:=0) (xs:=ab) Tryz.underlying67 (ad rfl) rfl rfl) rfl rfl rfl ?_
 refine ah.v (SK (i:=0) (xs:=ab) Tryz.underlying67 c6 (ad rfl) rfl (ad rfl) (ad rfl) (ad rfl) ⟨qZ,aF,Nat.le_refl _⟩) rfl rfl rfl ?_
 refine ah.nil ?_
 refine aj.next ?_
 refine ak.seq ?_
 refine ak.seq ?_
 refine ak.cU ?_
 refine ah.v (cZ (ad rfl)) rfl rfl rfl ?_
 refine ah.v (cZ (ad rfl)) rfl rfl rfl ?_
 refine ah.v (ir (ad rfl) (ad rfl)) rfl rfl rfl ?_
 refine ah.nil ?_
 refine aj.next ?_
 refine ak.cond (ad rfl) (fun ag=> ?_) (fun ag=> ?_)
 ·have HQ:m=n:=by simp only [beq_iff_eq] at ag; omega
  subst HQ
  rw [List.take_append_drop]
  refine ak.seq ?_
  refine ak.cU ?_
  refine ah.v (cZ (ad rfl)) rfl rfl rfl ?_
  refine ah.v (e5 (ad rfl)) rfl rfl rfl ?_
  refine ah.nil ?_
  refine aj.next ?_
  refine ak.ret ?_
  exact aj.gF (qK,fE) (.cons_cons _ (List.nil_sublist _)) rfl rfl (dG rfl)
 have bY:m < n:=by simp only [beq_eq_false_iff_ne] at ag; omega
 refine ak.skip ?_
 refine aj.next ?_
 refine ak.some (i:=0) (xs:=ab) rfl (by omega) fun p hp tV wc=> ?_
 subst hp
 refine ak.seq ?_
 refine ak.cU ?_
 refine ah.v (cZ (ad rfl)) rfl rfl rfl ?_
 refine ah.v (rR (i:=0) (xs:=ab) Tryz.underlying67 (ad rfl) rfl rfl) rfl rfl rfl ?_
 refine ah.v (e5 (ad rfl)) rfl rfl rfl ?_
 refine ah.nil ?_
 refine aj.next ?_
 have hlen:(ab.take m ++ ab.drop n ++ ab.drop (m + (ab.length - n))).length=ab.length:=by simp only [List.length_append,List.length_take,List.length_drop]; omega
 have x7:(ab.take m ++ ab.drop n).length=m + (ab.length - n):=by simp only [List.length_append,List.length_take,List.length_drop]; omega
 refine ak.seq ?_
 refine ak.le (E':= [(0,I.eq (bf (some p) ab.length fE)),(1,I.of (m:Int)),(2,I.of (n:Int)),(7,I.of (ab.length:Int))]) (.same rfl (.same rfl (.same rfl (.same rfl .nil)))) ?_
 refine ak.mE mixed (⟨some 20,[],[],[],fun _=>I.eq (bf (some p) ab.length fE),fun _ _=>⟨none,.dead⟩⟩ :: ⟨some 21,[],[],[],fun _=>I.of (m:Int),fun _ _=>⟨none,.dead⟩⟩ :: ⟨some 22,(0 :: 1 :: []),(0 :: []),[],fun _=>I.eq (hF (some p) 0 (m - 0) fE (ae.size aA)),fun _ _=>⟨none,.dead⟩⟩ :: ⟨some 23,[],[],[],fun _=>I.eq (bf (some p) ab.length fE),fun _ _=>⟨none,.dead⟩⟩ :: ⟨some 24,[],[],[],fun _=>I.of (n:Int),fun _ _=>⟨none,.dead⟩⟩ :: ⟨some 25,(3 :: 4 :: []),(0 :: []),[],fun _=>I.eq (hF (some p) n (ab.length - n) fE (ae.size aA)),fun _ _=>⟨none,.dead⟩⟩ :: ⟨some 26,(0 :: 1 :: 2 :: 3 :: 4 :: 5 :: []),(0 :: []),(0 :: []),fun _=>I.eq (bf (some p) (m + (ab.length - n)) fE),fun _ _=>⟨some p,.row 56 (ab.take m ++ ab.drop n ++ ab.drop (m + (ab.length - n))) fE⟩⟩ :: ⟨some 0,(0 :: 1 :: 2 :: 3 :: 4 :: 5 :: 6 :: []),[],[],fun _=>I.eq (bf (some p) (m + (ab.length - n)) fE),fun _ _=>⟨none,.dead⟩⟩ :: []) _ (0 :: 1 :: 2 :: 7 :: []) rfl rfl (by kernel_rfl) ⟨?_,?_,?_,?_,?_,?_,?_,?_,trivial⟩ fun hd=> ?_
 ·exact h7 rfl rfl rfl fun hd E' L' ay aq=>cZ (ad (ay _ _ rfl))
 ·exact h7 rfl rfl rfl fun hd E' L' ay aq=>cZ (ad (ay _ _ rfl))
 ·exact h7 rfl rfl rfl fun hd E' L' ay aq=>CO (i:=0) (xs:=ab) Tryz.underlying67 c6 (ad (ay _ _ rfl)) (aq 0 _ rfl rfl) .none (.some (ad (ay _ _ rfl))) rfl rfl ⟨Nat.zero_le _,by omega⟩
 ·exact h7 rfl rfl rfl fun hd E' L' ay aq=>cZ (ad (ay _ _ rfl))
 ·exact h7 rfl rfl rfl fun hd E' L' ay aq=>cZ (ad (ay _ _ rfl))
 ·exact h7 rfl rfl rfl fun hd E' L' ay aq=>CO (i:=0) (xs:=ab) Tryz.underlying67 c6 (ad (ay _ _ rfl)) (aq 0 _ rfl rfl) (.some (ad (ay _ _ rfl))) .none rfl rfl ⟨aF,Nat.le_refl _⟩
 ·intro hd E' L' ay aq
  have bA:=aq 0 _ rfl rfl
  refine ah.Ud (i:=0) (m:=m) (n:=n) (xs:=ab) Tryz.underlying67 c6 (ad (ay _ _ rfl)) (ad (ay _ _ rfl)) bA bY aF rfl ?_
  refine ah.nil ?_
  exact aj.fin (ek []) rfl rfl
 ·exact h7 rfl rfl rfl fun hd E' L' ay aq=>e5 (ad (ay _ _ rfl))
 refine aj.next ?_
 refine ak.seq ?_
 refine ak.cU ?_
 refine ah.v (cZ (ad rfl)) rfl rfl rfl ?_
 refine ah.v (cZ (ad rfl)) rfl rfl rfl ?_
 refine ah.v (Ue Tryz.underlying67 (ad rfl)) rfl rfl rfl ?_
 refine ah.v (cZ (ad rfl)) rfl rfl rfl ?_
 refine ah.v (rH (α:=aA) (m:=m + (ab.length - n)) (h:=ab.length) Tryz.underlying67 c6 (ad rfl) (.some (ad rfl)) (.some (ad rfl)) rfl rfl ⟨by omega,tV⟩) rfl rfl rfl ?_
 refine ah.clear (i:=0) (lo:=m + (ab.length - n)) (n:=ab.length - (m + (ab.length - n))) (xs:=ab.take m ++ ab.drop n ++ ab.drop (m + (ab.length - n))) Tryz.underlying67 c6 iv rfl (ad rfl) rfl (by rw [hlen]; omega) rfl ?_
 refine ah.nil ?_
 refine aj.next ?_
 refine ak.seq ?_
 refine ak.cU ?_
 refine ah.v (cZ (ad rfl)) rfl rfl rfl ?_
 refine ah.v (e5 (ad rfl)) rfl rfl rfl ?_
 refine ah.nil ?_
 refine aj.next ?_
 refine ak.ret ?_
 have N8:(qH (ab.take m ++ ab.drop n ++ ab.drop (m + (ab.length - n))) (m + (ab.length - n)) (ab.length - (m + (ab.length - n)))).take (m + (ab.length - n))=ab.take m ++ ab.drop n:=by
  unfold qH
  rw [List.append_assoc,List.take_append_of_le_length (by rw [List.length_take,hlen]; omega),List.take_take,Nat.min_self,List.take_append_of_le_length (by rw [x7]; exact Nat.le_refl _),← x7,List.take_length]
 refine aj.again (.row 56 (ab.take m ++ ab.drop n) fE) 0 rfl (fun A W o h=> ?_) (fun h=> ?_) ?_
 ·have eQ:=F1 (n:=m + (ab.length - n)) (by unfold qH; simp only [List.length_append,List.length_take,List.length_replicate,List.length_drop,hlen]; omega) h
  rwa [N8] at eQ
 ·exact⟨by rw [← N8,h.1]; simp,h.2⟩
 refine aj.gF ((some p,fE):Option Nat × Nat) (.cons_cons _ (List.nil_sublist _)) rfl ?_ (dG rfl)
 rw [x7]
theorem J5 {ab:BitVec 64} {r:Int} (h:xb ab=some r):cl Tryz.prog 145 [I.of (ab)] (I.of (r)):=by
 unfold xb at h
 refine cl.of Tryz.func145 rfl Tryz.ntmps145 rfl fun W A=> ?_
 refine aM ?_
 refine aW ?_
 refine cm ?_
 refine aM ?_
 refine aL ?_
 refine bp (Gq (ad rfl) (j3 4294967296 rfl)) ?_
 refine a0 ?_
 obtain⟨bq,cn,h⟩:=aC h
 refine lj (γ:=Unit) [4] (fun ax=> [(0,I.of (bq.1)),(2,I.of (bq.2))]) (fun ax=> []) (fun ax=> ?_) (fun hm ag=> ?_) fun hm ag=> ?_
 ·clear cn
  refine aj.next ?_
  refine ak.seq ?_
  refine aM ?_
  refine aL ?_
  refine bp (Gq (ad rfl) (j3 65536 rfl)) ?_
  refine a0 ?_
  obtain⟨cx,ed,h⟩:=aC h
  refine lj (γ:=Unit) [4,8] (fun a5=> [(0,I.of (cx.1)),(2,I.of (cx.2))]) (fun a5=> []) (fun a5=> ?_) (fun hm ag=> ?_) fun hm ag=> ?_
  ·clear ed
   refine aj.next ?_
   refine ak.seq ?_
   refine aM ?_
   refine aL ?_
   refine bp (Gq (ad rfl) (j3 256 rfl)) ?_
   refine a0 ?_
   obtain⟨eg,fh,h⟩:=aC h
   refine lj (γ:=Unit) [4,8,14] (fun bH=> [(0,I.of (eg.1)),(2,I.of (eg.2))]) (fun bH=> []) (fun bH=> ?_) (fun hm ag=> ?_) fun hm ag=> ?_
   ·clear fh
    refine aj.next ?_
    refine aM ?_
    refine aL ?_
    refine aL ?_
    refine bj (Tm Tryz.underlying46 Tryz.underlying5) ?_
    obtain⟨aG,bF,h⟩:=aC h
    refine bp (Tn Tryz.underlying9 (dy (ByteArray.mk (List.toArray (List.append (List.append [0,1,2,2,3,3,3,3,4,4,4,4,4,4,4,4,5,5,5,5,5,5,5,5,5,5,5,5,5,5,5,5,6,6,6,6,6,6,6,6,6,6,6,6,6,6,6,6,6,6,6,6,6,6,6,6,6,6,6,6,6,6,6,6] [7,7,7,7,7,7,7,7,7,7,7,7,7,7,7,7,7,7,7,7,7,7,7,7,7,7,7,7,7,7,7,7,7,7,7,7,7,7,7,7,7,7,7,7,7,7,7,7,7,7,7,7,7,7,7,7,7,7,7,7,7,7,7,7]) (List.append [8,8,8,8,8,8,8,8,8,8,8,8,8,8,8,8,8,8,8,8,8,8,8,8,8,8,8,8,8,8,8,8,8,8,8,8,8,8,8,8,8,8,8,8,8,8,8,8,8,8,8,8,8,8,8,8,8,8,8,8,8,8,8,8] [8,8,8,8,8,8,8,8,8,8,8,8,8,8,8,8,8,8,8,8,8,8,8,8,8,8,8,8,8,8,8,8,8,8,8,8,8,8,8,8,8,8,8,8,8,8,8,8,8,8,8,8,8,8,8,8,8,8,8,8,8,8,8,8]))))) (ad rfl) bF) ?_
    refine bj (MZ Tryz.underlying5 Tryz.underlying3) ?_
    refine bQ eR ?_
    refine aW ?_
    refine a0 ?_
    refine ak.ret ?_
    obtain rfl:=aT h
    exact ez
   ·have h:=hC ag fh
    refine aM ?_
    refine aL ?_
    refine bp (tt (ad rfl) (j3 8 rfl)) ?_
    refine aW ?_
    refine a0 ?_
    refine ak.cU ?_
    refine aL ?_
    refine bQ eR ?_
    refine aW ?_
    refine ah.nil ?_
    obtain rfl:=aT h
    exact dI 0 (hm ())
   ·have h:=hD ag fh
    refine ak.skip ?_
    obtain rfl:=aT h
    exact dI 0 (hm ())
  ·have h:=hC ag ed
   refine aM ?_
   refine aL ?_
   refine bp (tt (ad rfl) (j3 16 rfl)) ?_
   refine aW ?_
   refine a0 ?_
   refine ak.cU ?_
   refine aL ?_
   refine bQ eR ?_
   refine aW ?_
   refine ah.nil ?_
   obtain rfl:=aT h
   exact dI 0 (hm ())
  ·have h:=hD ag ed
   refine ak.skip ?_
   obtain rfl:=aT h
   exact dI 0 (hm ())
 ·have h:=hC ag cn
  refine aM ?_
  refine aL ?_
  refine bp (tt (ad rfl) (j3 32 rfl)) ?_
  refine aW ?_
  refine a0 ?_
  refine ak.cU ?_
  refine aW ?_
  refine ah.nil ?_
  obtain rfl:=aT h
  exact dI 0 (hm ())
 ·have h:=hD ag cn
  refine ak.skip ?_
  obtain rfl:=aT h
  exact dI 0 (hm ())
theorem PS (n:Nat):∀ (hp:aH Cell) (ab:Ref) (al:Ref) (aU:aw) (cE:Int) (hW:List da) (oF:Nat) (rK:Option Nat) (rL:Nat) (r:(List da)),uA n hp ab al aU cE hW=some r→bN Tryz.prog 223 [I.of (ab),I.of (al),I.of (aU),I.of (cE),I.of (⟨222,some [.pointer (some ⟨oF,0,none⟩)]⟩:Raw)] ([⟨some oF,.bZ ([]:List da) [(0,bf rK hW.length rL)]⟩,⟨rK,.row 315 (hW:List da) rL⟩] ++ aZ hp) (δ:=(Option Nat × Nat)) (fun d=>I.eA []) (fun d=> [⟨some oF,.bZ ([]:List da) [(0,bf d.1 (r).length d.2)]⟩,⟨d.1,.row 315 (r:List da) d.2⟩] ++ aZ hp):=by
 induction n with
 | zero=>intro hp ab al aU cE hW oF rK rL r h; simp [uA] at h
 | succ n bD=>
   intro hp ab al aU cE hW oF rK rL r h
   simp only [uA] at h
   refine bN.of Tryz.func223 rfl Tryz.ntmps223 rfl fun W A=> ?_
   refine aM ?_
   refine cM fun ba=> ?_
   refine cm ?_
   refine aM ?_
   refine aL ?_
   refine bp (mz Tryz.underlying299 (ad rfl)) ?_
   refine a0 ?_
   refine dz h (fun h=>?_) fun h=>?_
   ·refine ak.ret ?_
    refine aj.ret ?_
    refine aj.b2 2 rfl ?_
    refine aj.b2 2 rfl ?_
    obtain rfl:=aT h
    exact aj.lY (rK,rL) (.cons_cons _ (.cons_cons _ (.cons _ (.refl _)))) rfl rfl
   ·refine dT ?_
    refine aM ?_
    refine aL ?_
    refine aL ?_
    refine cV 0 cB ?_
    refine aL ?_
    refine ah.b2 2 rfl ?_
    refine ah.b2 2 rfl ?_
    obtain⟨aG,bF,h⟩:=aC h
    refine ah.sL (eO.HR (τs:= [I.of (al:Ref),I.of (aU:aw),I.of (cE:Int)]) 3 2 rfl VK (F2 (ad rfl)) (Qb bF) rfl rfl ⟨ad rfl,ad rfl,ad rfl,trivial⟩) rfl rfl rfl fun aN=> ?_
    refine ah.eH (L2:=(⟨some oF,.bZ ([]:List da) [(0,bf aN.1 aG.length aN.2)]⟩ :: ⟨aN.1,.row 315 (aG:List da) aN.2⟩ :: ⟨some ba,.var (aU:aw)⟩ :: aZ hp)) rfl ?_
    refine cm ?_
    obtain⟨bT,c7,h⟩:=aC h
    obtain⟨bw,di,h⟩:=aC h
    refine ak.draw mixed 10 [some 17,some 18,some 19,some 20,some 21,some 22,some 23,some 24,some 25,some 26] [[],[],[1],[2],[3],[4],[],[],[7],[]] [.val _,.val _,.val _,.val _,.val _,.val _,.val _,.val _,.val _,.val _] [false,false,false,false,false,false,false,false,false,false] (by kernel_rfl) rfl rfl rfl (fun eL=>⟨eE,eE,e7 fun L' aq=>dv (eb (ad rfl) c7),H1 (bc qE),e7 fun L' aq=>l3 (k:=0) r2 (ad rfl) (bG 0) ⟨by decide,rfl⟩,e7 fun L' aq=>fv (((aP.id dn).comp qp).comp (aP.idx (α:=Ref) 2 0 (⟨by decide,rfl⟩:0 < 2∧ (0:Int)=0).1)) (r:=bB bw.ct 0) dO (ad rfl) (j7 (fun i e q=>aq i e q rfl) (eK (n:=3) rfl (iO di) rfl)) rfl rfl,fY 2 cB,eE,mo eR,eE,trivial⟩) fun eL=> ?_
    obtain⟨aQ,cR,h⟩:=aC h
    refine ah.sL (eO.kM 3 2 rfl Hg (bD _ _ _ _ _ _ _ _ _ _ cR) rfl rfl ⟨ad rfl,ad rfl,ad rfl,ad rfl,ad rfl,trivial⟩) rfl rfl rfl fun dR=> ?_
    refine ah.eH (L2:=(⟨some oF,.bZ ([]:List da) [(0,bf dR.1 aQ.length dR.2)]⟩ :: ⟨dR.1,.row 315 (aQ:List da) dR.2⟩ :: ⟨some ba,.var (aU:aw)⟩ :: aZ hp)) rfl ?_
    refine a0 ?_
    obtain⟨bm,hh,h⟩:=aC h
    obtain⟨bU,eS,h⟩:=aC h
    obtain⟨b5,eW,h⟩:=aC h
    obtain⟨cD,h9,h⟩:=aC h
    obtain⟨c8,jS,h⟩:=aC h
    refine ak.draw mixed 20 ((some 28) :: (some 29) :: (some 30) :: (some 31) :: (some 32) :: (some 33) :: (some 34) :: (some 35) :: (some 36) :: (some 37) :: (some 38) :: (some 39) :: (some 40) :: (some 41) :: (some 42) :: (some 43) :: (some 44) :: (some 45) :: (some 46) :: (some 47) :: []) ([] :: [] :: [1] :: [2] :: [3] :: [4] :: [] :: [] :: [] :: [8] :: [9] :: [10] :: [11] :: [] :: [12,13] :: [7,14] :: [6,15] :: [] :: [17] :: [] :: []) (.val _ :: .val _ :: .val _ :: .val _ :: .val _ :: .val _ :: .val _ :: .val _ :: .val _ :: .val _ :: .val _ :: .val _ :: .val _ :: .val _ :: .val _ :: .val _ :: .val _ :: .val _ :: .val _ :: .val _ :: []) (false :: false :: false :: false :: false :: false :: false :: false :: false :: false :: false :: false :: false :: false :: false :: false :: false :: false :: false :: false :: []) (by kernel_rfl) rfl rfl rfl (fun ma=>⟨eE,eE,e7 fun L' aq=>dv (eb (ad rfl) c7),H1 (bc qE),e7 fun L' aq=>l3 (k:=1) r2 (ad rfl) (bG 1) ⟨by decide,rfl⟩,e7 fun L' aq=>fv (((aP.id dn).comp qp).comp (aP.idx (α:=Ref) 2 1 (⟨by decide,rfl⟩:1 < 2∧ (1:Int)=1).1)) (r:=bB bw.ct 1) dO (ad rfl) (j7 (fun i e q=>aq i e q rfl) (eK (n:=3) rfl (iO di) rfl)) rfl rfl,fY 2 cB,e7 fun L' aq=>k7 VL (RJ hh) ⟨j3 1 rfl,trivial⟩,eE,e7 fun L' aq=>dv (eb (ad rfl) eS),H1 (bc vb),e7 fun L' aq=>fv ((aP.id eJ).comp s6) (r:=b5.eu) cf (ad rfl) (j7 (fun i e q=>aq i e q rfl) (eK (n:=3) rfl (lU eW) rfl)) rfl rfl,mo la,eE,mo la,jg VM (Ri h9),jg VN (RK jS),eE,mo eR,eE,trivial⟩) fun ma=> ?_
    obtain⟨eU,kB,h⟩:=aC h
    refine ah.sL (eO.kM 3 2 rfl Hg (bD _ _ _ _ _ _ _ _ _ _ kB) rfl rfl ⟨ad rfl,ad rfl,ad rfl,ad rfl,ad rfl,trivial⟩) rfl rfl rfl fun hJ=> ?_
    refine ah.eH (L2:=(⟨some oF,.bZ ([]:List da) [(0,bf hJ.1 eU.length hJ.2)]⟩ :: ⟨hJ.1,.row 315 (eU:List da) hJ.2⟩ :: ⟨some ba,.var (aU:aw)⟩ :: aZ hp)) rfl ?_
    refine ah.nil ?_
    refine aj.oz ?_
    refine aj.b2 1 rfl ?_
    refine aj.b2 1 rfl ?_
    obtain rfl:=aT h
    exact aj.lY (hJ.1,hJ.2) (.cons_cons _ (.cons_cons _ (.cons _ (.refl _)))) rfl rfl
theorem PW {hp:aH Cell} {ab:Ref} {al:Ref} {aU:aw} {cE:Int} {hW:List da} {oF:Nat} {rK:Option Nat} {rL:Nat} {r:(List da)} (h:BU hp ab al aU cE hW=some r):bN Tryz.prog 223 [I.of (ab),I.of (al),I.of (aU),I.of (cE),I.of (⟨222,some [.pointer (some ⟨oF,0,none⟩)]⟩:Raw)] ([⟨some oF,.bZ ([]:List da) [(0,bf rK hW.length rL)]⟩,⟨rK,.row 315 (hW:List da) rL⟩] ++ aZ hp) (δ:=(Option Nat × Nat)) (fun d=>I.eA []) (fun d=> [⟨some oF,.bZ ([]:List da) [(0,bf d.1 (r).length d.2)]⟩,⟨d.1,.row 315 (r:List da) d.2⟩] ++ aZ hp):=PS fX hp ab al aU cE hW oF rK rL r h
theorem P5 {ab:ca} {al:Int} {cP:Nat} {hQ:Option Nat} {hR:Nat} {r:Int} (h:BZ ab al=some r):bN Tryz.prog 237 [I.eq (.pointer (some ⟨cP,0,none⟩)),I.of (al)] [⟨some cP,.bZ (({ ab with bP:= [] } :ca):ca) [(10,bf hQ ab.bP.length hR)]⟩,⟨hQ,.row 56 (ab.bP:List aA) hR⟩] (δ:=Unit) (fun d=>I.of (r)) (fun d=> [⟨some cP,.bZ (({ ab with bP:= [] } :ca):ca) [(10,bf hQ (ab.bP).length hR)]⟩,⟨hQ,.row 56 (ab.bP:List aA) hR⟩]):=by
 unfold BZ at h
 refine bN.of Tryz.func237 rfl Tryz.ntmps237 rfl fun W A=> ?_
 refine aM ?_
 refine cM fun ba=> ?_
 refine aW ?_
 refine cm ?_
 refine aM ?_
 refine aL ?_
 refine bp (Ds Tryz.underlying131 (ad rfl)) ?_
 refine a0 ?_
 refine ak.tI (ad rfl) rfl ?_
 refine dT ?_
 refine aM ?_
 refine aL ?_
 refine bj dv ?_
 refine bj (bc rM) ?_
 refine bp (il (i:=1) (q:=0) (β:=ca) (γ:=aA) qT (ad rfl) rfl rfl) ?_
 refine ah.share (α:=Int) 0 3 rfl rfl ?_
 refine bp (Dq (F:=(fun hy=>uC hy al)) (τs:= [I.ptr al]) M9 ⟨ad rfl,trivial⟩ (fun _ _ h=>JP h)) ?_
 obtain⟨aG,bF,h⟩:=aC h
 refine bp (bO.XL (α:=aA) 2 10 rfl rfl u3 (k7 N9 (JM bF) ⟨ad rfl,ad rfl,trivial⟩)) ?_
 refine aW ?_
 refine a0 ?_
 refine ak.ret ?_
 refine aj.b2 2 rfl ?_
 refine aj.b2 2 rfl ?_
 obtain rfl:=aT h
 exact l9 ()
theorem Ql {hp:aH Cell} {ab:jI} {al:Vector aw 4} {r:Int × Bool} (h:yF hp ab al=some r):bN Tryz.prog 193 [I.of (ab),I.of (al)] ([] ++ aZ hp) (δ:=Unit) (fun _=>I.eA [I.of (r.1),I.of (r.2)]) (fun _=> [] ++ aZ hp):=by
 unfold yF at h
 refine bN.of Tryz.func193 rfl Tryz.ntmps193 rfl fun W A=> ?_
 refine aM ?_
 refine cM fun ba=> ?_
 refine cM fun bh=> ?_
 refine aW ?_
 refine aW ?_
 refine cc ?_
 refine bj (bc C4) ?_
 refine dg 1 yP zX ?_
 refine cV 0 lz ?_
 obtain⟨aG,bF,h⟩:=aC h
 refine ah.iK (fr.iG 2 rfl Hb (Fv bF) ⟨ad rfl,ad rfl,trivial⟩) rfl rfl rfl ?_
 refine gZ ?_
 refine gZ ?_
 refine aW ?_
 refine aW ?_
 refine a0 ?_
 refine ak.ret ?_
 obtain rfl:=aT h
 exact aj.kL () (.cons _ (.cons _ (.refl _))) rfl rfl (dG rfl) (dG rfl)
theorem Rr {ab:aw} {r:Int} (h:Cw ab=some r):cl Tryz.prog 219 [I.of (ab)] (I.of (r)):=by
 unfold Cw at h
 refine cl.of Tryz.func219 rfl Tryz.ntmps219 rfl fun W A=> ?_
 refine aM ?_
 refine cM fun ba=> ?_
 refine aW ?_
 refine cm ?_
 refine aM ?_
 refine bj (bc mD) ?_
 refine dg 0 iM gT ?_
 refine bp (To (ad rfl) (j3 0 rfl)) ?_
 refine a0 ?_
 refine dz h (fun h=>?_) fun h=>?_
 ·refine aM ?_
  refine bj (bc mD) ?_
  refine dg 0 iM gT ?_
  obtain⟨aG,bF,h⟩:=aC h
  refine gY Na (J5 bF) ?_
  refine bQ eR ?_
  refine aW ?_
  refine a0 ?_
  refine ak.ret ?_
  refine aj.ret ?_
  obtain rfl:=aT h
  exact ez
 ·refine dT ?_
  refine aM ?_
  refine bj (bc oj) ?_
  refine dg 0 gD gT ?_
  obtain⟨aQ,cR,h⟩:=aC h
  refine gY Na (J5 cR) ?_
  refine aW ?_
  refine a0 ?_
  refine ak.ret ?_
  obtain rfl:=aT h
  exact ez
theorem nC {ab:b0} {cP:Nat} {r:Bool × b0} (h:lv ab=some r):bN Tryz.prog 28 [I.eq (.pointer (some ⟨cP,0,none⟩))] [⟨some cP,.var (ab:b0)⟩] (δ:=Unit) (fun d=>I.of (r.1)) (fun d=> [⟨some cP,.var (r.2:b0)⟩]):=by
 unfold lv at h
 refine bN.of Tryz.func28 rfl Tryz.ntmps28 rfl fun W A=> ?_
 refine aM ?_
 refine aW ?_
 refine cc ?_
 refine aL ?_
 refine ah.b2 0 rfl ?_
 obtain⟨aG,bF,h⟩:=aC h
 refine gz 1 jA (ju bF) fun aN=> ?_
 refine bQ ir ?_
 refine aW ?_
 refine a0 ?_
 refine ak.ret ?_
 refine aj.b2 0 rfl ?_
 obtain rfl:=aT h
 exact l9 ()
theorem Qu {ab:b0} {cP:Nat} {r:(List dB) × b0} (h:yJ ab=some r):bN Tryz.prog 49 [I.eq (.pointer (some ⟨cP,0,none⟩))] [⟨some cP,.var (ab:b0)⟩] (δ:=Unit) (fun d=>I.of (r.1)) (fun d=> [⟨some cP,.var (r.2:b0)⟩]):=by
 unfold yJ at h
 refine bN.of Tryz.func49 rfl Tryz.ntmps49 rfl fun W A=> ?_
 refine aM ?_
 refine bp (e5 (look_nil (α:=dB))) ?_
 refine cc ?_
 refine ia ([0,0,65535,3]:List Int) Tryz.underlying41 cf lk ?_
 refine aW ?_
 refine cc ?_
 refine aL ?_
 refine aL ?_
 refine ah.b2 0 rfl ?_
 obtain⟨aG,bF,h⟩:=aC h
 refine gz 1 jA (ju bF) fun aN=> ?_
 obtain⟨bn,dJ,h⟩:=aC h
 refine lh dJ Tryz.underlying41 cf ?_
 refine bj (fy cf) ?_
 refine bp (rG (b:=({ (default:dB) with bW:=1,h2:=1,nD:=4,g4:=aJ ([0,0,65535,3]:List Int) bn } :dB)) [3] L0 rfl Hh vr (.cons Fw rfl (bG 1) rfl (by rfl) (.cons Fc rfl (bG 1) rfl (by rfl) (.cons JT rfl (bG 4) rfl (by rfl) (.cons E8 rfl (ad rfl) rfl (by rfl) (.nil)))))) ?_
 refine ah.own (α:=gE) 171 ?_
 refine ah.o9 (z:=(default:dB)) [3] L0 vr rfl fun ba=> ?_
 refine ah.own (α:=gE) 171 ?_
 refine ah.rS (i:=1) vt (ad rfl) (ad rfl) rfl ?_
 refine cc ?_
 refine bp (c2 (b:=({ (default:aw) with cv:=1#64 } :aw)) rfl jf fw (.cons gD rfl (j3 1 rfl) rfl (.nil))) ?_
 refine bp (c2 (b:=({ (default:aw) with cv:=15#64 } :aw)) rfl jf fw (.cons gD rfl (j3 15 rfl) rfl (.nil))) ?_
 obtain⟨bJ,eC,h⟩:=aC h
 refine dU eC (c2 (b:= { cL:=({ (default:aw) with cv:=1#64 } :aw),iP:=({ (default:aw) with cv:=15#64 } :aw),pF:=2:gE }) rfl DG tJ (.cons Cf rfl (ad rfl) rfl (.cons Cp rfl (ad rfl) rfl (.cons Cq rfl (bG 2) rfl (.nil))))) ?_
 refine bp (c2 (b:=({ (default:aw) with cv:=2#64 } :aw)) rfl jf fw (.cons gD rfl (j3 2 rfl) rfl (.nil))) ?_
 refine bp (c2 (b:=({ (default:aw) with cv:=3#64 } :aw)) rfl jf fw (.cons gD rfl (j3 3 rfl) rfl (.nil))) ?_
 obtain⟨en,kA,h⟩:=aC h
 refine dU kA (c2 (b:= { cL:=({ (default:aw) with cv:=2#64 } :aw),iP:=({ (default:aw) with cv:=3#64 } :aw),pF:=3:gE }) rfl DG tJ (.cons Cf rfl (ad rfl) rfl (.cons Cp rfl (ad rfl) rfl (.cons Cq rfl (bG 3) rfl (.nil))))) ?_
 refine ah.pM (α:=gE) (r:= [bJ,en]) Tryz.underlying167 DH tJ rfl rfl (.cons (by simp) (ad rfl) (.cons (by simp) (ad rfl) (.nil))) rfl fun h6=> ?_
 refine bj (bc C5) ?_
 refine ah.kq (i:=2) (γ:=gE) (b':=(({ ({ (default:dB) with bW:=1,h2:=1,nD:=4,g4:=aJ ([0,0,65535,3]:List Int) bn } :dB) with o3:= [] } :dB):dB)) (os':= [(3,bf h6 [bJ,en].length 2)]) ((aP.id dB).comp B7) z0 (ad rfl) (ad rfl) jy rfl rfl rfl rfl ?_
 refine cm ?_
 refine aM ?_
 refine aL ?_
 refine ah.b2 4 rfl ?_
 obtain⟨aQ,cR,h⟩:=aC h
 refine gz 1 nV (nC cR) fun dR=> ?_
 refine a0 ?_
 obtain⟨bq,cn,h⟩:=aC h
 refine lj (γ:=(Option Nat × Nat)) [0,2,3,4,23] (fun ax=> []) (fun ax=> [(0,⟨some cP,.var (bq.1:b0)⟩),(1,⟨ax.1,.row 171 (bq.2:List gE) ax.2⟩),(3,⟨some ba,.bZ (({ ({ (default:dB) with bW:=1,h2:=1,nD:=4,g4:=aJ ([0,0,65535,3]:List Int) bn } :dB) with o3:= [] } :dB):dB) [(3,bf ax.1 bq.2.length ax.2)]⟩)]) (fun ax=> ?_) (fun hm ag=> ?_) fun hm ag=> ?_
 ·clear cn
  refine aj.next ?_
  refine aM ?_
  refine aL ?_
  refine aL ?_
  refine ah.b2 0 rfl ?_
  obtain⟨bm,hh,h⟩:=aC h
  refine gz 1 jA (ju hh) fun hJ=> ?_
  obtain⟨c3,dj,h⟩:=aC h
  refine lh dj Tryz.underlying41 cf ?_
  refine bj (fy cf) ?_
  obtain⟨fP,nf,h⟩:=aC h
  refine dU nf (c2 (b:=({ (default:dB) with bW:=2,h2:=2,g4:=aJ ([0,0,65535,3]:List Int) c3 } :dB)) rfl Hh vr (.cons Fw rfl (bG 2) rfl (.cons Fc rfl (bG 2) rfl (.cons E8 rfl (ad rfl) rfl (.nil))))) ?_
  refine dL vr fun bh=> ?_
  refine dh 0 vt ?_
  refine cc ?_
  obtain⟨hz,pX,h⟩:=aC h
  refine dU pX (c2 (b:=({ (default:dB) with bW:=3,h2:=3,nD:=9,g4:=0 } :dB)) rfl Hh vr (.cons Fw rfl (bG 3) rfl (.cons Fc rfl (bG 3) rfl (.cons JT rfl (bG 9) rfl (.cons E8 rfl (bG 0) rfl (.nil)))))) ?_
  refine dL vr fun cH=> ?_
  refine dh 0 vt ?_
  refine cm ?_
  refine aM ?_
  refine aL ?_
  refine ah.b2 2 rfl ?_
  obtain⟨cD,h9,h⟩:=aC h
  refine gz 1 jA (ju h9) fun uq=> ?_
  refine bQ ir ?_
  refine a0 ?_
  obtain⟨cx,ed,h⟩:=aC h
  refine lj (γ:=Unit) [0,2,3,4,5,6,23,50] (fun a5=> []) (fun a5=> [(0,⟨some cP,.var (cx.1:b0)⟩),(1,⟨some cH,.var (cx.2:dB)⟩)]) (fun a5=> ?_) (fun hm ag=> ?_) fun hm ag=> ?_
  ·clear ed
   refine aj.next ?_
   refine aM ?_
   refine ah.l6 (β:=dB) (γ:=gE) (b':=(({ ({ (default:dB) with bW:=1,h2:=1,nD:=4,g4:=aJ ([0,0,65535,3]:List Int) bn } :dB) with o3:=bq.2 } :dB):dB)) ((aP.id dB).comp B7) 5 3 0 rfl rfl rfl rfl rfl rfl ?_
   refine ah.ov 5 rfl ?_
   obtain⟨gJ,pY,h⟩:=aC h
   refine dU pY (fl (i:=5) (aP.id dB) (r:=({ ({ (default:dB) with bW:=1,h2:=1,nD:=4,g4:=aJ ([0,0,65535,3]:List Int) bn } :dB) with o3:=bq.2 } :dB)) vt (ad rfl) rfl rfl rfl) ?_
   refine cV 2 vt ?_
   refine cV 1 vt ?_
   refine ia [gJ,fP,cx.2] Tryz.underlying25 vt vr ?_
   refine aW ?_
   refine a0 ?_
   refine ak.ret ?_
   refine aj.b2 0 rfl ?_
   obtain rfl:=aT h
   exact l9 ()
  ·have h:=hC ag ed
   refine ak.cU ?_
   refine bp (c2 (b:=({ (default:aw) with cv:=5#64 } :aw)) rfl jf fw (.cons gD rfl (j3 5 rfl) rfl (.nil))) ?_
   refine bp (c2 (b:=({ (default:aw) with cv:=15#64 } :aw)) rfl jf fw (.cons gD rfl (j3 15 rfl) rfl (.nil))) ?_
   refine aL ?_
   refine ah.b2 0 rfl ?_
   obtain⟨c8,jS,h⟩:=aC h
   refine gz 1 jA (ju jS) fun iX=> ?_
   refine bQ eR ?_
   obtain⟨iB,sj,h⟩:=aC h
   refine dU sj (c2 (b:= { cL:=({ (default:aw) with cv:=5#64 } :aw),iP:=({ (default:aw) with cv:=15#64 } :aw),pF:=bE (1 + c8.1):gE }) rfl DG tJ (.cons Cf rfl (ad rfl) rfl (.cons Cp rfl (ad rfl) rfl (.cons Cq rfl (ad rfl) rfl (.nil))))) ?_
   refine ia [iB] Tryz.underlying167 DH tJ ?_
   refine bj (bc C5) ?_
   refine si 1 B7 z0 ?_
   refine ah.nil ?_
   obtain rfl:=aT h
   exact dI 0 (hm ())
  ·have h:=hD ag ed
   refine ak.skip ?_
   obtain rfl:=aT h
   exact dI 0 (hm ())
 ·have h:=hC ag cn
  obtain⟨eU,kB,h⟩:=aC h
  obtain⟨hX,sk,h⟩:=aC h
  obtain⟨e9,sl,h⟩:=aC h
  obtain⟨eI,kd,h⟩:=aC h
  obtain⟨hY,sm,h⟩:=aC h
  obtain⟨gm,sn,h⟩:=aC h
  refine kc [0,2,3,4,7,8,9,10,11,12,13,14,15,16,17,18,19,20,21,22,23] ?_
  refine ak.mE mixed (bk 24 [] [] _ :: bk 25 (0 :: []) (3 :: []) _ :: bk 26 [] [] _ :: ⟨some 27,(2 :: []),(0 :: []),(0 :: []),fun _=>I.of (eU.1),fun hd _=>⟨some cP,.var (eU.2:b0)⟩⟩ :: bk 28 (3 :: []) [] _ :: bk 29 (4 :: []) [] _ :: bk 30 (5 :: []) [] _ :: bk 31 [] [] _ :: bk 32 [] [] _ :: bk 33 [] [] _ :: ⟨some 34,(3 :: 9 :: []),(0 :: []),(0 :: []),fun _=>I.of (e9.1),fun hd _=>⟨some cP,.var (e9.2:b0)⟩⟩ :: bk 35 (8 :: 10 :: []) [] _ :: bk 36 (11 :: []) [] _ :: bk 37 (6 :: 7 :: 12 :: []) [] _ :: bk 38 (13 :: []) [] _ :: ⟨some 39,(1 :: 14 :: []),(1 :: []),(1 :: []),fun hd=>I.eq (bf (hd 15 0) gm.length ((hd 15 1).getD 0)),fun hd _=>⟨(hd 15 0),.row 171 (gm:List gE) ((hd 15 1).getD 0)⟩⟩ :: bk 40 [] [] _ :: ⟨none,(1 :: 15 :: 16 :: []),(3 :: []),(3 :: []),fun _=>I.any,fun hd _=>⟨some ba,.bZ (({ ({ (default:dB) with bW:=1,h2:=1,nD:=4,g4:=aJ ([0,0,65535,3]:List Int) bn } :dB) with o3:= [] } :dB):dB) [(3,bf (hd 15 0) gm.length ((hd 15 1).getD 0))]⟩⟩ :: []) _ (0 :: 2 :: 3 :: 4 :: 7 :: 8 :: 9 :: 10 :: 11 :: 12 :: 13 :: 14 :: 15 :: 16 :: 17 :: 18 :: 19 :: 20 :: 21 :: 22 :: 23 :: []) rfl rfl (by kernel_rfl) ⟨g8 (bc C5),cr fun hd E' L' ay aq=>il (i:=3) (q:=0) (β:=dB) (γ:=gE) z0 (ad (ay _ _ rfl)) (aq 3 _ rfl rfl) rfl,gb,?_,ym VO,g8 (o7 Tryz.underlying3 Tryz.underlying46),cr fun hd E' L' ay aq=>(c2 (b:=({ (default:aw) with cv:=BitVec.ofInt 64 (bE (8 * eU.1)) } :aw)) rfl jf fw (.cons gD rfl (ad (ay _ _ rfl)) rfl (.nil))).as (aT sk),cr fun hd E' L' ay aq=>c2 (b:=({ (default:aw) with cv:=8#64 } :aw)) rfl jf fw (.cons gD rfl (j3 8 rfl) rfl (.nil)),gb,gb,?_,cr fun hd E' L' ay aq=>r1 (k:=eI) Tryz.underlying41 cf (ad (ay _ _ rfl)) (ad (ay _ _ rfl)) (eh kd),g8 (fy cf),cr fun hd E' L' ay aq=>(c2 (b:= { cL:=hX,iP:=({ (default:aw) with cv:=8#64 } :aw),pF:=aJ ([0,0,65535,3]:List Int) eI:gE }) rfl DG tJ (.cons Cf rfl (ad (ay _ _ rfl)) rfl (.cons Cp rfl (ad (ay _ _ rfl)) rfl (.cons Cq rfl (ad (ay _ _ rfl)) rfl (.nil))))).as (aT sm),cr fun hd E' L' ay aq=>j5 (r:= [hY]) Tryz.underlying167 DH tJ rfl rfl (.cons (by simp) (ad (ay _ _ rfl)) (.nil)),?_,g8 (bc C5),?_,trivial⟩ fun fG=> ?_
  ·intro hd E' L' ay aq
   refine ah.b2 0 (aq 0 _ rfl rfl) ?_
   refine ah.pH (Lin:= [⟨some cP,.var (aQ.2:b0)⟩]) (Lr:=L'.eraseIdx 0) jA (ju kB) ⟨ad (ay _ _ rfl),bG 2,trivial⟩ rfl fun mY=> ?_
   refine ah.nil ?_
   refine aj.back 0 (aq 0 _ rfl rfl) ?_
   exact aj.fin (ek []) rfl rfl
  ·intro hd E' L' ay aq
   refine ah.b2 0 (aq 0 _ rfl rfl) ?_
   refine ah.pH (Lin:= [⟨some cP,.var (eU.2:b0)⟩]) (Lr:=L'.eraseIdx 0) jA (ju sl) ⟨ad (ay _ _ rfl),bG 4,trivial⟩ rfl fun BA=> ?_
   refine ah.nil ?_
   refine aj.back 0 (aq 0 _ rfl rfl) ?_
   exact aj.fin (ek []) rfl rfl
  ·intro hd E' L' ay aq
   refine ah.app (i:=1) Tryz.underlying167 DH tJ (bytes:=40) (by kernel_rfl) (ad (ay _ _ rfl)) (aq 1 _ rfl rfl) (ad (ay _ _ rfl)) sn rfl fun mM gj=> ?_
   refine ah.nil ?_
   exact aj.fin (ek [mM,some gj]) rfl rfl
  ·intro hd E' L' ay aq
   refine ah.kq (i:=3) (γ:=gE) (b':=(({ ({ (default:dB) with bW:=1,h2:=1,nD:=4,g4:=aJ ([0,0,65535,3]:List Int) bn } :dB) with o3:= [] } :dB):dB)) (os':= [(3,bf (hd 15 0) gm.length ((hd 15 1).getD 0))]) ((aP.id dB).comp B7) z0 (ad (ay _ _ rfl)) (ad (ay _ _ rfl)) jy (aq 3 _ rfl rfl) rfl rfl rfl ?_
   refine ah.nil ?_
   exact aj.fin (ek []) rfl rfl
  refine aj.eH (L2:= [⟨some cP,.var (e9.2:b0)⟩,⟨(fG 15 0),.row 171 (gm:List gE) ((fG 15 1).getD 0)⟩,⟨none,.row 171 (([]:List gE):List gE) 0⟩,⟨some ba,.bZ (({ ({ (default:dB) with bW:=1,h2:=1,nD:=4,g4:=aJ ([0,0,65535,3]:List Int) bn } :dB) with o3:= [] } :dB):dB) [(3,bf (fG 15 0) gm.length ((fG 15 1).getD 0))]⟩,⟨none,.row 171 (([]:List gE):List gE) 0⟩]) rfl ?_
  refine lF [0,2,3,4,7,8,9,10,11,12,13,14,15,16,17,18,19,21,22,23,24,26,27,28,29,30,31,32,33,34,35,36,37,38,39,40] ?_
  obtain rfl:=aT h
  exact dI 0 (hm ((fG 15 0),((fG 15 1).getD 0)))
 ·have h:=hD ag cn
  refine ak.skip ?_
  obtain rfl:=aT h
  exact dI 0 (hm (h6,2))
theorem Qm {ab:b0} {cP:Nat} {r:(List ee) × b0} (h:yG ab=some r):bN Tryz.prog 50 [I.eq (.pointer (some ⟨cP,0,none⟩))] [⟨some cP,.var (ab:b0)⟩] (δ:=Unit) (fun d=>I.of (r.1)) (fun d=> [⟨some cP,.var (r.2:b0)⟩]):=by
 unfold yG at h
 refine bN.of Tryz.func50 rfl Tryz.ntmps50 rfl fun W A=> ?_
 refine aM ?_
 refine bp (e5 (look_nil (α:=ee))) ?_
 refine cc ?_
 refine jQ DI z1 ({ (default:fC) with du:=3 } :fC) (kT B6 .nil) ?_
 refine dL z1 fun ba=> ?_
 refine dh 0 DJ ?_
 refine cm ?_
 obtain⟨bJ,eC,h⟩:=aC h
 obtain⟨en,kA,h⟩:=aC h
 obtain⟨fP,nf,h⟩:=aC h
 obtain⟨hz,pX,h⟩:=aC h
 obtain⟨gJ,pY,h⟩:=aC h
 obtain⟨iB,sj,h⟩:=aC h
 obtain⟨hX,sk,h⟩:=aC h
 obtain⟨hY,sm,h⟩:=aC h
 obtain⟨lN,we,h⟩:=aC h
 obtain⟨jh,vL,h⟩:=aC h
 obtain⟨kC,vM,h⟩:=aC h
 obtain⟨mb,vN,h⟩:=aC h
 obtain⟨kU,Al,h⟩:=aC h
 obtain⟨aG,bF,h⟩:=aC h
 obtain⟨ll,Am,h⟩:=aC h
 obtain⟨aQ,cR,h⟩:=aC h
 obtain⟨oG,An,h⟩:=aC h
 obtain⟨pk,Ao,h⟩:=aC h
 obtain⟨ng,HS,h⟩:=aC h
 refine ak.nW 1 ?_
 refine kc [0,2,3,5] ?_
 refine ak.mE mixed (bk 6 [] [] _ :: bk 7 [] [] _ :: bk 8 (1 :: []) [] _ :: bk 9 (2 :: []) [] _ :: bk 10 [] [] _ :: bk 11 (4 :: []) [] _ :: bk 12 [] (0 :: []) _ :: bk 13 (6 :: []) [] _ :: bk 14 (7 :: []) [] _ :: bk 15 (5 :: 8 :: []) [] _ :: bk 16 [] [] _ :: bk 17 (10 :: []) [] _ :: bk 18 [] (0 :: []) _ :: bk 19 (12 :: []) [] _ :: bk 20 [] [] _ :: bk 21 (14 :: []) [] _ :: bk 22 (13 :: 15 :: []) [] _ :: bk 23 (11 :: 16 :: []) [] _ :: bk 24 [] [] _ :: bk 25 [] [] _ :: bk 26 (18 :: 19 :: []) [] _ :: bk 27 [] [] _ :: bk 28 [] (0 :: []) _ :: bk 29 (22 :: []) [] _ :: bk 30 [] [] _ :: bk 31 (24 :: []) [] _ :: bk 32 (21 :: 23 :: 25 :: []) [] _ :: bk 33 (20 :: 26 :: []) [] _ :: bk 34 [] [] _ :: ⟨some 35,(28 :: []),(1 :: []),(1 :: []),fun _=>I.of (aG.1),fun hd _=>⟨some cP,.var (aG.2:b0)⟩⟩ :: bk 36 (29 :: []) [] _ :: bk 37 (30 :: []) [] _ :: bk 38 [] [] _ :: ⟨some 39,(29 :: 32 :: []),(1 :: []),(1 :: []),fun _=>I.of (aQ.1),fun hd _=>⟨some cP,.var (aQ.2:b0)⟩⟩ :: bk 40 (33 :: []) [] _ :: bk 41 (34 :: []) [] _ :: bk 42 (35 :: []) [] _ :: bk 43 (36 :: []) [] _ :: bk 44 (31 :: 37 :: []) [] _ :: bk 45 (38 :: []) [] _ :: ⟨some 46,(0 :: 3 :: 9 :: 17 :: 27 :: 39 :: []),(2 :: []),(2 :: []),fun hd=>I.eq (bf (hd 40 0) [bJ,en,gJ,hY,kU,ng].length 6),fun hd _=>⟨(hd 40 0),.row 153 ([bJ,en,gJ,hY,kU,ng]:List ee) 6⟩⟩ :: ⟨some 4,(40 :: []),[],[],fun hd=>I.eq (bf (hd 40 0) [bJ,en,gJ,hY,kU,ng].length 6),fun _ _=>⟨none,.dead⟩⟩ :: []) _ (0 :: 2 :: 3 :: 5 :: []) rfl rfl (by kernel_rfl) ⟨cr fun hd E' L' ay aq=>(c2 (b:=({ (default:ee) with bW:=1,b6:=ByteArray.mk #[110,111,112] } :ee)) rfl xH vu (.cons w9 rfl (bG 1) rfl (.cons w6 rfl (dy (ByteArray.mk #[110,111,112])) rfl (.nil)))).as (aT eC),cr fun hd E' L' ay aq=>c2 (b:=({ (default:e2) with h8:=6 } :e2)) rfl r3 nP (.cons rv rfl (bG 6) rfl (.nil)),cr fun hd E' L' ay aq=>j5 (r:= [({ (default:e2) with h8:=6 } :e2)]) Tryz.underlying151 z2 nP rfl rfl (.cons (by simp) (ad (ay _ _ rfl)) (.nil)),cr fun hd E' L' ay aq=>(c2 (b:=({ (default:ee) with bW:=2,b6:=ByteArray.mk #[100,114,111,112],om:= [({ (default:e2) with h8:=6 } :e2)] } :ee)) rfl xH vu (.cons w9 rfl (bG 2) rfl (.cons w6 rfl (dy (ByteArray.mk #[100,114,111,112])) rfl (.cons yK rfl (ad (ay _ _ rfl)) rfl (.nil))))).as (aT kA),cr fun hd E' L' ay aq=>(c2 (b:= { b6:=ByteArray.mk #[112,111,114,116],fz:=16:jb }) rfl DK vv (.cons Cg rfl (dy (ByteArray.mk #[112,111,114,116])) rfl (.cons Ch rfl (bG 16) rfl (.nil)))).as (aT nf),cr fun hd E' L' ay aq=>j5 (r:= [fP]) Tryz.underlying150 Hi vv rfl rfl (.cons (by simp) (ad (ay _ _ rfl)) (.nil)),mO 0 DJ,cr fun hd E' L' ay aq=>(c2 (b:=({ (default:e2) with h8:=7,kN:=({ (default:fC) with du:=3 } :fC) } :e2)) rfl r3 nP (.cons rv rfl (bG 7) rfl (.cons xc rfl (ad (ay _ _ rfl)) rfl (.nil)))).as (aT pX),cr fun hd E' L' ay aq=>j5 (r:= [hz]) Tryz.underlying151 z2 nP rfl rfl (.cons (by simp) (ad (ay _ _ rfl)) (.nil)),cr fun hd E' L' ay aq=>(c2 (b:=({ (default:ee) with bW:=3,b6:=ByteArray.mk #[102,111,114,119,97,114,100],qB:= [fP],om:= [hz] } :ee)) rfl xH vu (.cons w9 rfl (bG 3) rfl (.cons w6 rfl (dy (ByteArray.mk #[102,111,114,119,97,114,100])) rfl (.cons E9 rfl (ad (ay _ _ rfl)) rfl (.cons yK rfl (ad (ay _ _ rfl)) rfl (.nil)))))).as (aT pY),cr fun hd E' L' ay aq=>c2 (b:= { b6:=ByteArray.mk #[120],fz:=4:jb }) rfl DK vv (.cons Cg rfl (dy (ByteArray.mk #[120])) rfl (.cons Ch rfl (bG 4) rfl (.nil))),cr fun hd E' L' ay aq=>j5 (r:= [{ b6:=ByteArray.mk #[120],fz:=4:jb }]) Tryz.underlying150 Hi vv rfl rfl (.cons (by simp) (ad (ay _ _ rfl)) (.nil)),mO 0 DJ,cr fun hd E' L' ay aq=>(c2 (b:= { h8:=1,jM:=5,kN:=({ (default:fC) with du:=3 } :fC):e2 }) rfl r3 nP (.cons rv rfl (bG 1) rfl (.cons uQ rfl (bG 5) rfl (.cons xc rfl (ad (ay _ _ rfl)) rfl (.nil))))).as (aT sj),cr fun hd E' L' ay aq=>(c2 (b:=({ (default:fC) with du:=2,wg:=5 } :fC)) rfl DI z1 (.cons B6 rfl (bG 2) rfl (.cons J1 rfl (bG 5) rfl (.nil)))).as (aT sk),cr fun hd E' L' ay aq=>c2 (b:= { h8:=2,jM:=3,kN:=hX:e2 }) rfl r3 nP (.cons rv rfl (bG 2) rfl (.cons uQ rfl (bG 3) rfl (.cons xc rfl (ad (ay _ _ rfl)) rfl (.nil)))),cr fun hd E' L' ay aq=>j5 (r:= [iB,{ h8:=2,jM:=3,kN:=hX:e2 }]) Tryz.underlying151 z2 nP rfl rfl (.cons (by simp) (ad (ay _ _ rfl)) (.cons (by simp) (ad (ay _ _ rfl)) (.nil))),cr fun hd E' L' ay aq=>(c2 (b:=({ (default:ee) with bW:=4,b6:=ByteArray.mk #[116,97,103],qB:= [{ b6:=ByteArray.mk #[120],fz:=4:jb }],om:= [iB,{ h8:=2,jM:=3,kN:=hX:e2 }] } :ee)) rfl xH vu (.cons w9 rfl (bG 4) rfl (.cons w6 rfl (dy (ByteArray.mk #[116,97,103])) rfl (.cons E9 rfl (ad (ay _ _ rfl)) rfl (.cons yK rfl (ad (ay _ _ rfl)) rfl (.nil)))))).as (aT sm),cr fun hd E' L' ay aq=>c2 (b:= { b6:=ByteArray.mk #[120],fz:=4:jb }) rfl DK vv (.cons Cg rfl (dy (ByteArray.mk #[120])) rfl (.cons Ch rfl (bG 4) rfl (.nil))),cr fun hd E' L' ay aq=>c2 (b:= { b6:=ByteArray.mk #[121],fz:=12:jb }) rfl DK vv (.cons Cg rfl (dy (ByteArray.mk #[121])) rfl (.cons Ch rfl (bG 12) rfl (.nil))),cr fun hd E' L' ay aq=>(j5 (r:= [{ b6:=ByteArray.mk #[120],fz:=4:jb },{ b6:=ByteArray.mk #[121],fz:=12:jb }]) Tryz.underlying150 Hi vv rfl rfl (.cons (by simp) (ad (ay _ _ rfl)) (.cons (by simp) (ad (ay _ _ rfl)) (.nil)))).as (aT we),cr fun hd E' L' ay aq=>c2 (b:=({ (default:e2) with h8:=4,jM:=3 } :e2)) rfl r3 nP (.cons rv rfl (bG 4) rfl (.cons uQ rfl (bG 3) rfl (.nil))),mO 0 DJ,cr fun hd E' L' ay aq=>(c2 (b:= { h8:=1,jM:=9,kN:=({ (default:fC) with du:=3 } :fC):e2 }) rfl r3 nP (.cons rv rfl (bG 1) rfl (.cons uQ rfl (bG 9) rfl (.cons xc rfl (ad (ay _ _ rfl)) rfl (.nil))))).as (aT vL),cr fun hd E' L' ay aq=>(c2 (b:=({ (default:fC) with du:=3,wg:=1 } :fC)) rfl DI z1 (.cons B6 rfl (bG 3) rfl (.cons J1 rfl (bG 1) rfl (.nil)))).as (aT vM),cr fun hd E' L' ay aq=>c2 (b:= { h8:=3,jM:=8,kN:=kC:e2 }) rfl r3 nP (.cons rv rfl (bG 3) rfl (.cons uQ rfl (bG 8) rfl (.cons xc rfl (ad (ay _ _ rfl)) rfl (.nil)))),cr fun hd E' L' ay aq=>(j5 (r:= [({ (default:e2) with h8:=4,jM:=3 } :e2),jh,{ h8:=3,jM:=8,kN:=kC:e2 }]) Tryz.underlying151 z2 nP rfl rfl (.cons (by simp) (ad (ay _ _ rfl)) (.cons (by simp) (ad (ay _ _ rfl)) (.cons (by simp) (ad (ay _ _ rfl)) (.nil))))).as (aT vN),cr fun hd E' L' ay aq=>(c2 (b:=({ (default:ee) with bW:=5,b6:=ByteArray.mk #[119,114,97,112],qB:=lN,om:=mb } :ee)) rfl xH vu (.cons w9 rfl (bG 5) rfl (.cons w6 rfl (dy (ByteArray.mk #[119,114,97,112])) rfl (.cons E9 rfl (ad (ay _ _ rfl)) rfl (.cons yK rfl (ad (ay _ _ rfl)) rfl (.nil)))))).as (aT Al),gb,?_,ym eR,cr fun hd E' L' ay aq=>(c2 (b:=({ (default:e2) with h8:=5,jM:=bE (2 + aG.1) } :e2)) rfl r3 nP (.cons rv rfl (bG 5) rfl (.cons uQ rfl (ad (ay _ _ rfl)) rfl (.nil)))).as (aT Am),gb,?_,g8 (o7 Tryz.underlying3 Tryz.underlying46),cr fun hd E' L' ay aq=>(c2 (b:=({ (default:aw) with cv:=BitVec.ofInt 64 aQ.1 } :aw)) rfl jf fw (.cons gD rfl (ad (ay _ _ rfl)) rfl (.nil))).as (aT An),cr fun hd E' L' ay aq=>(c2 (b:=({ (default:fC) with du:=1,cL:=oG } :fC)) rfl DI z1 (.cons B6 rfl (bG 1) rfl (.cons Qd rfl (ad (ay _ _ rfl)) rfl (.nil)))).as (aT Ao),cr fun hd E' L' ay aq=>c2 (b:= { h8:=2,jM:=6,kN:=pk:e2 }) rfl r3 nP (.cons rv rfl (bG 2) rfl (.cons uQ rfl (bG 6) rfl (.cons xc rfl (ad (ay _ _ rfl)) rfl (.nil)))),cr fun hd E' L' ay aq=>j5 (r:= [ll,{ h8:=2,jM:=6,kN:=pk:e2 }]) Tryz.underlying151 z2 nP rfl rfl (.cons (by simp) (ad (ay _ _ rfl)) (.cons (by simp) (ad (ay _ _ rfl)) (.nil))),cr fun hd E' L' ay aq=>(c2 (b:=({ (default:ee) with bW:=6,b6:=ByteArray.mk #[115,116,114,105,112],om:= [ll,{ h8:=2,jM:=6,kN:=pk:e2 }] } :ee)) rfl xH vu (.cons w9 rfl (bG 6) rfl (.cons w6 rfl (dy (ByteArray.mk #[115,116,114,105,112])) rfl (.cons yK rfl (ad (ay _ _ rfl)) rfl (.nil))))).as (aT HS),?_,?_,trivial⟩ fun fG=> ?_
 ·intro hd E' L' ay aq
  refine ah.b2 1 (aq 1 _ rfl rfl) ?_
  refine ah.pH (Lin:= [⟨some cP,.var (ab:b0)⟩]) (Lr:=L'.eraseIdx 1) jA (ju bF) ⟨ad (ay _ _ rfl),bG 2,trivial⟩ rfl fun aN=> ?_
  refine ah.nil ?_
  refine aj.back 1 (aq 1 _ rfl rfl) ?_
  exact aj.fin (ek []) rfl rfl
 ·intro hd E' L' ay aq
  refine ah.b2 1 (aq 1 _ rfl rfl) ?_
  refine ah.pH (Lin:= [⟨some cP,.var (aG.2:b0)⟩]) (Lr:=L'.eraseIdx 1) jA (ju cR) ⟨ad (ay _ _ rfl),bG 256,trivial⟩ rfl fun dR=> ?_
  refine ah.nil ?_
  refine aj.back 1 (aq 1 _ rfl rfl) ?_
  exact aj.fin (ek []) rfl rfl
 ·intro hd E' L' ay aq
  refine ah.pM (α:=ee) (r:= [bJ,en,gJ,hY,kU,ng]) Tryz.underlying26 Hj vu rfl rfl (.cons (by simp) (ad (ay _ _ rfl)) (.cons (by simp) (ad (ay _ _ rfl)) (.cons (by simp) (ad (ay _ _ rfl)) (.cons (by simp) (ad (ay _ _ rfl)) (.cons (by simp) (ad (ay _ _ rfl)) (.cons (by simp) (ad (ay _ _ rfl)) (.nil))))))) rfl fun h6=> ?_
  refine ah.nil ?_
  refine aj.place 2 (aq 2 _ rfl rfl) ?_
  exact aj.fin (ek [h6]) rfl rfl
 ·intro hd E' L' ay aq
  refine bp (e5 (ad (ay _ _ rfl))) ?_
  refine ah.nil ?_
  exact aj.fin (ek []) rfl rfl
 refine aj.eH (L2:= [⟨some ba,.var (({ (default:fC) with du:=3 } :fC):fC)⟩,⟨some cP,.var (aQ.2:b0)⟩,⟨(fG 40 0),.row 153 ([bJ,en,gJ,hY,kU,ng]:List ee) 6⟩]) rfl ?_
 refine lF [0,2,3,4,5,6,7,8,9,10,11,12,13,14,15,16,17,18,19,20,21,22,23,24,25,26,27,28,29,30,31,32,33,34,35,36,37,38,39,40,41,42,43,44,45,46] ?_
 refine aj.b2 2 rfl ?_
 refine aj.next ?_
 refine ak.seq ?_
 refine aM ?_
 refine aL ?_
 refine ah.b2 2 rfl ?_
 obtain⟨bm,hh,h⟩:=aC h
 refine gz 1 nV (nC hh) fun hJ=> ?_
 refine a0 ?_
 obtain⟨bq,cn,h⟩:=aC h
 refine lj (γ:=(Option Nat × Nat)) [0,2,3,48] (fun ax=> [(4,I.eq (bf ax.1 bq.length ax.2))]) (fun ax=> [(1,⟨ax.1,.row 153 (bq:List ee) ax.2⟩)]) (fun ax=> ?_) (fun hm ag=> ?_) fun hm ag=> ?_
 ·clear cn
  refine aj.next ?_
  refine ak.seq ?_
  refine aM ?_
  refine aL ?_
  refine ah.b2 0 rfl ?_
  obtain⟨cD,h9,h⟩:=aC h
  refine gz 1 nV (nC h9) fun uq=> ?_
  refine a0 ?_
  obtain⟨cx,ed,h⟩:=aC h
  refine lj (γ:=(Option Nat × Nat)) [0,2,3,48,53] (fun a5=> [(4,I.eq (bf a5.1 cx.length a5.2))]) (fun a5=> [(1,⟨a5.1,.row 153 (cx:List ee) a5.2⟩)]) (fun a5=> ?_) (fun hm ag=> ?_) fun hm ag=> ?_
  ·clear ed
   refine aj.next ?_
   refine aM ?_
   refine aL ?_
   refine aW ?_
   refine a0 ?_
   refine ak.ret ?_
   refine aj.oh (α:=ee) 1 [2,4,57] ⟨rfl,rfl,rfl,trivial⟩ rfl ?_
   refine aj.b2 0 rfl ?_
   obtain rfl:=aT h
   exact l9 ()
  ·have h:=hC ag ed
   refine ak.cU ?_
   refine aL ?_
   obtain⟨bn,dJ,h⟩:=aC h
   refine bp (ow (i:=1) (k:=bn) (xs:=(bq:List ee)) Tryz.underlying26 Hj (ad rfl) (bG 4) rfl (eh dJ)) ?_
   refine bj (bc L1) ?_
   obtain⟨so,Ap,h⟩:=aC h
   refine ah.xw (i:=1) (k:=bn) ((aP.id ee).comp JN) (v:=(ByteArray.mk #[120,32,60,32,121,32,124,124,32,120,32,61,61,32,49,53]:ByteArray)) (r:=(so:List ee)) pZ (ad rfl) (dy (ByteArray.mk #[120,32,60,32,121,32,124,124,32,120,32,61,61,32,49,53])) rfl (eh dJ).1 rfl (aT Ap) ?_
   refine ah.nQ (m:=so.length) 4 rfl (nE (aT Ap)) ?_
   refine ah.nQ (m:=so.length) 54 rfl (nE (aT Ap)) ?_
   refine ah.nil ?_
   obtain rfl:=aT h
   exact dI 0 (hm (ax.1,ax.2))
  ·have h:=hD ag ed
   refine ak.skip ?_
   obtain rfl:=aT h
   exact dI 0 (hm (ax.1,ax.2))
 ·have h:=hC ag cn
  refine ak.cU ?_
  refine aL ?_
  obtain⟨c3,dj,h⟩:=aC h
  refine bp (ow (i:=1) (k:=c3) (xs:=([bJ,en,gJ,hY,kU,ng]:List ee)) Tryz.underlying26 Hj (ad rfl) (bG 2) rfl (eh dj)) ?_
  refine bj (bc L1) ?_
  obtain⟨q0,xR,h⟩:=aC h
  refine ah.xw (i:=1) (k:=c3) ((aP.id ee).comp JN) (v:=(ByteArray.mk #[112,111,114,116,32,33,61,32,48]:ByteArray)) (r:=(q0:List ee)) pZ (ad rfl) (dy (ByteArray.mk #[112,111,114,116,32,33,61,32,48])) rfl (eh dj).1 rfl (aT xR) ?_
  refine ah.nQ (m:=q0.length) 4 rfl (nE (aT xR)) ?_
  refine ah.nQ (m:=q0.length) 46 rfl (nE (aT xR)) ?_
  refine ah.nQ (m:=q0.length) 49 rfl (nE (aT xR)) ?_
  refine ah.nil ?_
  obtain rfl:=aT h
  exact dI 0 (hm ((fG 40 0),6))
 ·have h:=hD ag cn
  refine ak.skip ?_
  obtain rfl:=aT h
  exact dI 0 (hm ((fG 40 0),6))
theorem Qv {ab:b0} {cP:Nat} {r:(List bx) × b0} (h:yL ab=some r):bN Tryz.prog 51 [I.eq (.pointer (some ⟨cP,0,none⟩))] [⟨some cP,.var (ab:b0)⟩] (δ:=Unit) (fun d=>I.of (r.1)) (fun d=> [⟨some cP,.var (r.2:b0)⟩]):=by
 unfold yL at h
 refine bN.of Tryz.func51 rfl Tryz.ntmps51 rfl fun W A=> ?_
 refine aM ?_
 refine bp (e5 (look_nil (α:=bx))) ?_
 refine cc ?_
 obtain⟨bJ,eC,h⟩:=aC h
 refine dU eC (c2 (b:= { b6:=ByteArray.mk #[97],gf:=4,du:=1:cJ }) rfl qU jN (.cons qv rfl (dy (ByteArray.mk #[97])) rfl (.cons oZ rfl (bG 4) rfl (.cons oc rfl (bG 1) rfl (.nil))))) ?_
 refine ia [bJ] Tryz.underlying40 ku jN ?_
 refine ia ([1,2,4]:List Int) Tryz.underlying41 cf lk ?_
 refine aL ?_
 refine ah.b2 0 rfl ?_
 obtain⟨aG,bF,h⟩:=aC h
 refine gz 1 jA (ju bF) fun aN=> ?_
 refine bQ eR ?_
 refine aL ?_
 refine ah.b2 0 rfl ?_
 obtain⟨aQ,cR,h⟩:=aC h
 refine gz 1 jA (ju cR) fun dR=> ?_
 refine bQ eR ?_
 obtain⟨en,kA,h⟩:=aC h
 refine dU kA (c2 (b:=({ (default:bx) with bW:=1,b6:=ByteArray.mk #[112,111,114,116,115],cj:= [bJ],fu:=([1,2,4]:List Int),g4:=bE (1 + aG.1),iQ:=bE (2 + aQ.1) } :bx)) rfl Aq l4 (.cons ta rfl (bG 1) rfl (.cons Ci rfl (dy (ByteArray.mk #[112,111,114,116,115])) rfl (.cons kJ rfl (ad rfl) rfl (.cons B2 rfl (ad rfl) rfl (.cons B3 rfl (ad rfl) rfl (.cons Cj rfl (ad rfl) rfl (.nil)))))))) ?_
 refine dL l4 fun ba=> ?_
 refine dh 0 hv ?_
 refine cc ?_
 obtain⟨fP,nf,h⟩:=aC h
 refine dU nf (c2 (b:= { b6:=ByteArray.mk #[100],gf:=7,du:=2:cJ }) rfl qU jN (.cons qv rfl (dy (ByteArray.mk #[100])) rfl (.cons oZ rfl (bG 7) rfl (.cons oc rfl (bG 2) rfl (.nil))))) ?_
 refine ah.pM (α:=cJ) (r:= [fP]) Tryz.underlying40 ku jN rfl rfl (.cons (by simp) (ad rfl) (.nil)) rfl fun h6=> ?_
 refine ia ([1,2,3,4]:List Int) Tryz.underlying41 cf lk ?_
 refine aL ?_
 refine ah.b2 2 rfl ?_
 obtain⟨bm,hh,h⟩:=aC h
 refine gz 1 jA (ju hh) fun hJ=> ?_
 refine bQ eR ?_
 refine bp (rG (b:=({ (default:bx) with bW:=2,b6:=ByteArray.mk #[114,111,117,116,101,115],fu:=([1,2,3,4]:List Int),g4:=2,iQ:=bE (3 + bm.1) } :bx)) [] GP rfl Aq l4 (.cons ta rfl (bG 2) rfl (by rfl) (.cons Ci rfl (dy (ByteArray.mk #[114,111,117,116,101,115])) rfl (by rfl) (.hole kJ rfl (ad rfl) jy rfl rfl (.cons B2 rfl (ad rfl) rfl (by rfl) (.cons B3 rfl (bG 2) rfl (by rfl) (.cons Cj rfl (ad rfl) rfl (by rfl) (.nil)))))))) ?_
 refine ah.o9 (z:=(default:bx)) [2] GQ l4 rfl fun bh=> ?_
 refine ah.own (α:=cJ) 39 ?_
 refine ah.rS (i:=1) hv (ad rfl) (ad rfl) rfl ?_
 refine cm ?_
 refine aM ?_
 refine aL ?_
 refine ah.b2 2 rfl ?_
 obtain⟨cD,h9,h⟩:=aC h
 refine gz 1 nV (nC h9) fun uq=> ?_
 refine a0 ?_
 obtain⟨bq,cn,h⟩:=aC h
 refine lj (γ:=(Option Nat × Nat)) [0,2,3,4,28] (fun ax=> []) (fun ax=> [(2,⟨some bh,.bZ (bq.1:bx) [(2,bf ax.1 bq.2.length ax.2)]⟩),(3,⟨ax.1,.row 39 (bq.2:List cJ) ax.2⟩)]) (fun ax=> ?_) (fun hm ag=> ?_) fun hm ag=> ?_
 ·clear cn
  refine aj.next ?_
  refine aM ?_
  obtain⟨hz,pX,h⟩:=aC h
  refine dU pX (c2 (b:= { b6:=ByteArray.mk #[101],gf:=6,du:=3:cJ }) rfl qU jN (.cons qv rfl (dy (ByteArray.mk #[101])) rfl (.cons oZ rfl (bG 6) rfl (.cons oc rfl (bG 3) rfl (.nil))))) ?_
  obtain⟨gJ,pY,h⟩:=aC h
  refine dU pY (c2 (b:= { b6:=ByteArray.mk #[97],gf:=4,du:=3:cJ }) rfl qU jN (.cons qv rfl (dy (ByteArray.mk #[97])) rfl (.cons oZ rfl (bG 4) rfl (.cons oc rfl (bG 3) rfl (.nil))))) ?_
  refine ah.pM (α:=cJ) (r:= [hz,gJ]) Tryz.underlying40 ku jN rfl rfl (.cons (by simp) (ad rfl) (.cons (by simp) (ad rfl) (.nil))) rfl fun mM=> ?_
  refine ia ([1,2,3,5,6]:List Int) Tryz.underlying41 cf lk ?_
  refine aL ?_
  refine ah.b2 1 rfl ?_
  obtain⟨c8,jS,h⟩:=aC h
  refine gz 1 jA (ju jS) fun iX=> ?_
  refine bQ eR ?_
  refine bp (rG (b:=({ (default:bx) with bW:=3,b6:=ByteArray.mk #[97,99,108],fu:=([1,2,3,5,6]:List Int),g4:=1,iQ:=bE (4 + c8.1) } :bx)) [] GP rfl Aq l4 (.cons ta rfl (bG 3) rfl (by rfl) (.cons Ci rfl (dy (ByteArray.mk #[97,99,108])) rfl (by rfl) (.hole kJ rfl (ad rfl) jy rfl rfl (.cons B2 rfl (ad rfl) rfl (by rfl) (.cons B3 rfl (bG 1) rfl (by rfl) (.cons Cj rfl (ad rfl) rfl (by rfl) (.nil)))))))) ?_
  refine ah.o9 (z:=(default:bx)) [2] GQ l4 rfl fun cH=> ?_
  refine ah.own (α:=cJ) 39 ?_
  refine ah.rS (i:=1) hv (ad rfl) (ad rfl) rfl ?_
  refine cm ?_
  refine aM ?_
  refine aL ?_
  refine ah.b2 2 rfl ?_
  obtain⟨eU,kB,h⟩:=aC h
  refine gz 1 nV (nC kB) fun mY=> ?_
  refine a0 ?_
  obtain⟨cx,ed,h⟩:=aC h
  refine lj (γ:=(Option Nat × Nat)) [0,2,3,4,5,28,44] (fun a5=> []) (fun a5=> [(2,⟨some cH,.bZ (cx.1:bx) [(2,bf a5.1 cx.2.length a5.2)]⟩),(3,⟨a5.1,.row 39 (cx.2:List cJ) a5.2⟩)]) (fun a5=> ?_) (fun hm ag=> ?_) fun hm ag=> ?_
  ·clear ed
   refine aj.next ?_
   refine aM ?_
   obtain⟨iB,sj,h⟩:=aC h
   refine dU sj (c2 (b:= { b6:=ByteArray.mk #[102],gf:=8,du:=4:cJ }) rfl qU jN (.cons qv rfl (dy (ByteArray.mk #[102])) rfl (.cons oZ rfl (bG 8) rfl (.cons oc rfl (bG 4) rfl (.nil))))) ?_
   refine ah.pM (α:=cJ) (r:= [iB]) Tryz.underlying40 ku jN rfl rfl (.cons (by simp) (ad rfl) (.nil)) rfl fun oB=> ?_
   refine ia ([1,3,5]:List Int) Tryz.underlying41 cf lk ?_
   refine bp (c2 (b:=({ (default:aw) with cv:=7#64 } :aw)) rfl jf fw (.cons gD rfl (j3 7 rfl) rfl (.nil))) ?_
   refine ia [({ (default:aw) with cv:=7#64 } :aw)] Tryz.underlying42 cB fw ?_
   refine aL ?_
   refine ah.b2 1 rfl ?_
   obtain⟨e9,sl,h⟩:=aC h
   refine gz 1 jA (ju sl) fun BA=> ?_
   refine bQ eR ?_
   refine bp (rG (b:=({ (default:bx) with bW:=4,b6:=ByteArray.mk #[115,112,97,110,115],fu:=([1,3,5]:List Int),g4:=3,uT:= [({ (default:aw) with cv:=7#64 } :aw)],iQ:=bE (3 + e9.1) } :bx)) [] GP rfl Aq l4 (.cons ta rfl (bG 4) rfl (by rfl) (.cons Ci rfl (dy (ByteArray.mk #[115,112,97,110,115])) rfl (by rfl) (.hole kJ rfl (ad rfl) jy rfl rfl (.cons B2 rfl (ad rfl) rfl (by rfl) (.cons B3 rfl (bG 3) rfl (by rfl) (.cons PT rfl (ad rfl) rfl (by rfl) (.cons Cj rfl (ad rfl) rfl (by rfl) (.nil))))))))) ?_
   refine ah.o9 (z:=(default:bx)) [2] GQ l4 rfl fun fa=> ?_
   refine ah.own (α:=cJ) 39 ?_
   refine ah.rS (i:=1) hv (ad rfl) (ad rfl) rfl ?_
   refine cm ?_
   refine aM ?_
   refine aL ?_
   refine ah.b2 2 rfl ?_
   obtain⟨gm,sn,h⟩:=aC h
   refine gz 1 nV (nC sn) fun jm=> ?_
   refine a0 ?_
   obtain⟨eg,fh,h⟩:=aC h
   refine lj (γ:=(Option Nat × Nat)) [0,2,3,4,5,6,28,44,61] (fun bH=> []) (fun bH=> [(2,⟨some fa,.bZ (eg.1:bx) [(2,bf bH.1 eg.2.length bH.2)]⟩),(3,⟨bH.1,.row 39 (eg.2:List cJ) bH.2⟩)]) (fun bH=> ?_) (fun hm ag=> ?_) fun hm ag=> ?_
   ·clear fh
    refine aj.next ?_
    refine aM ?_
    refine cV 10 hv ?_
    refine ah.l6 (β:=bx) (γ:=cJ) (b':=(({ bq.1 with cj:=bq.2 } :bx):bx)) ((aP.id bx).comp kJ) 8 9 0 rfl rfl rfl rfl rfl rfl ?_
    refine ah.ov 8 rfl ?_
    refine cV 8 hv ?_
    refine ah.l6 (β:=bx) (γ:=cJ) (b':=(({ cx.1 with cj:=cx.2 } :bx):bx)) ((aP.id bx).comp kJ) 5 6 0 rfl rfl rfl rfl rfl rfl ?_
    refine ah.ov 5 rfl ?_
    refine cV 5 hv ?_
    refine ah.l6 (β:=bx) (γ:=cJ) (b':=(({ eg.1 with cj:=eg.2 } :bx):bx)) ((aP.id bx).comp kJ) 2 3 0 rfl rfl rfl rfl rfl rfl ?_
    refine ah.ov 2 rfl ?_
    refine cV 2 hv ?_
    obtain⟨hX,sk,h⟩:=aC h
    refine ah.Oa (α:=bx) (r0:= [en,({ bq.1 with cj:=bq.2 } :bx),({ cx.1 with cj:=cx.2 } :bx),({ eg.1 with cj:=eg.2 } :bx)]) (r:=hX) Tryz.underlying27 hv l4 rfl rfl (.cons (by simp) (ad rfl) (.cons (by simp) (ad rfl) (.cons (by simp) (ad rfl) (.cons (by simp) (ad rfl) (.nil))))) (aT sk) rfl fun xS=> ?_
    refine aW ?_
    refine cc ?_
    obtain⟨hY,sm,h⟩:=aC h
    refine dU sm (j5 (r:= [ByteArray.mk #[],ByteArray.mk #[97,32,33,61,32,48],ByteArray.mk #[97,32,60,32,49,52,32,38,38,32,97,32,33,61,32,51]]) Tryz.underlying176 pZ El rfl rfl (.cons (by simp) (dy (ByteArray.mk #[])) (.cons (by simp) (dy (ByteArray.mk #[97,32,33,61,32,48])) (.cons (by simp) (dy (ByteArray.mk #[97,32,60,32,49,52,32,38,38,32,97,32,33,61,32,51])) (.nil))))) ?_
    obtain⟨lN,we,h⟩:=aC h
    refine dU we (j5 (r:= [ByteArray.mk #[],ByteArray.mk #[100,58,58,112,114,101,102,105,120,95,108,101,110,103,116,104,32,62,61,32,56],ByteArray.mk #[100,58,58,112,114,101,102,105,120,95,108,101,110,103,116,104,32,61,61,32,51,50,32,45,62,32,100,58,58,118,97,108,117,101,32,62,32,48,120,102,102]]) Tryz.underlying176 pZ El rfl rfl (.cons (by simp) (dy (ByteArray.mk #[])) (.cons (by simp) (dy (ByteArray.mk #[100,58,58,112,114,101,102,105,120,95,108,101,110,103,116,104,32,62,61,32,56])) (.cons (by simp) (dy (ByteArray.mk #[100,58,58,112,114,101,102,105,120,95,108,101,110,103,116,104,32,61,61,32,51,50,32,45,62,32,100,58,58,118,97,108,117,101,32,62,32,48,120,102,102])) (.nil))))) ?_
    obtain⟨jh,vL,h⟩:=aC h
    refine dU vL (j5 (r:= [ByteArray.mk #[],ByteArray.mk #[112,114,105,111,114,105,116,121,32,60,32,49,48,48,32,38,38,32,40,101,58,58,109,97,115,107,32,33,61,32,48,32,124,124,32,97,58,58,109,97,115,107,32,33,61,32,48,41],ByteArray.mk #[101,58,58,109,97,115,107,32,61,61,32,48,32,45,62,32,112,114,105,111,114,105,116,121,32,62,32,53]]) Tryz.underlying176 pZ El rfl rfl (.cons (by simp) (dy (ByteArray.mk #[])) (.cons (by simp) (dy (ByteArray.mk #[112,114,105,111,114,105,116,121,32,60,32,49,48,48,32,38,38,32,40,101,58,58,109,97,115,107,32,33,61,32,48,32,124,124,32,97,58,58,109,97,115,107,32,33,61,32,48,41])) (.cons (by simp) (dy (ByteArray.mk #[101,58,58,109,97,115,107,32,61,61,32,48,32,45,62,32,112,114,105,111,114,105,116,121,32,62,32,53])) (.nil))))) ?_
    obtain⟨kC,vM,h⟩:=aC h
    refine dU vM (j5 (r:= [ByteArray.mk #[],ByteArray.mk #[102,58,58,104,105,103,104,32,45,32,102,58,58,108,111,119,32,60,61,32,48,120,49,48,48],ByteArray.mk #[33,40,102,58,58,108,111,119,32,61,61,32,48,32,38,38,32,102,58,58,104,105,103,104,32,62,32,49,48,48,48,41]]) Tryz.underlying176 pZ El rfl rfl (.cons (by simp) (dy (ByteArray.mk #[])) (.cons (by simp) (dy (ByteArray.mk #[102,58,58,104,105,103,104,32,45,32,102,58,58,108,111,119,32,60,61,32,48,120,49,48,48])) (.cons (by simp) (dy (ByteArray.mk #[33,40,102,58,58,108,111,119,32,61,61,32,48,32,38,38,32,102,58,58,104,105,103,104,32,62,32,49,48,48,48,41])) (.nil))))) ?_
    refine ia [hY,lN,jh,kC] Tryz.underlying177 Hk VP ?_
    refine aW ?_
    refine cm ?_
    refine aM ?_
    refine aL ?_
    refine bp (rR (i:=0) Tryz.underlying27 (ad rfl) rfl rfl) ?_
    refine aL ?_
    refine a0 ?_
    refine ak.block ?_
    obtain⟨az,an,h⟩:=aC h
    refine nZ (γ:=(Option Nat × Nat)) (δ:=(Option Nat × Nat)) an [0,2,3,4,5,6,8,28,44,61,80] (fun s1 c9=> [(7,I.eq (bf c9.1 s1.2.1.length c9.2)),(81,I.of (s1.1))]) (fun s1 c9=> [(0,⟨c9.1,.row 44 (s1.2.1:List bx) c9.2⟩),(1,⟨some cP,.var (s1.2.2:b0)⟩)]) (fun iC=>Exit.exit 0) (fun iC c9=> [(7,I.eq (bf c9.1 iC.2.2.1.length c9.2)),(81,I.of (iC.1)),(82,I.of (iC.2.1))]) (fun iC c9=> [(0,⟨c9.1,.row 44 (iC.2.2.1:List bx) c9.2⟩),(1,⟨some cP,.var (iC.2.2.2:b0)⟩)]) (xS,4) (fun s1 r h c9=> ?_) fun c9=> ?_
    ·clear an
     refine aM ?_
     refine bQ hf ?_
     refine cm ?_
     refine dz h (fun h=>?_) fun h=>?_
     ·refine dT ?_
      refine ak.seq ?_
      refine ak.block ?_
      refine aM ?_
      refine aL ?_
      refine aW ?_
      refine a0 ?_
      obtain⟨bn,dJ,h⟩:=aC h
      obtain⟨iD,wh,h⟩:=aC h
      obtain⟨c3,dj,h⟩:=aC h
      obtain⟨eI,kd,h⟩:=aC h
      obtain⟨mb,vN,h⟩:=aC h
      refine kc [0,2,3,4,5,6,7,8,9,28,44,61,80,81,82,83] ?_
      refine ak.mE mixed (bk 84 [] [] _ :: bk 85 [] [] _ :: bk 86 [] [] _ :: bk 87 [] [] _ :: bk 88 (2 :: 3 :: []) [] _ :: bk 89 (4 :: []) [] _ :: bk 90 [] [] _ :: ⟨some 91,(6 :: []),(1 :: []),(1 :: []),fun _=>I.of (iD.1),fun hd _=>⟨some cP,.var (iD.2:b0)⟩⟩ :: bk 92 (5 :: 7 :: []) [] _ :: bk 93 (8 :: []) [] _ :: bk 94 (0 :: 1 :: []) (0 :: []) _ :: bk 95 (10 :: []) [] _ :: ⟨none,(9 :: 10 :: 11 :: []),(0 :: []),(0 :: []),fun _=>I.any,fun hd _=>⟨c9.1,.row 44 (mb:List bx) c9.2⟩⟩ :: []) _ (0 :: 2 :: 3 :: 4 :: 5 :: 6 :: 7 :: 8 :: 9 :: 28 :: 44 :: 61 :: 80 :: 81 :: 82 :: 83 :: []) rfl rfl (by kernel_rfl) ⟨gb,gb,gb,gb,cr fun hd E' L' ay aq=>r1 (k:=bn) Tryz.underlying177 Hk (ad (ay _ _ rfl)) (ad (ay _ _ rfl)) (eh dJ),g8 (fy Hk),gb,?_,cr fun hd E' L' ay aq=>r1 (k:=c3) Tryz.underlying176 pZ (ad (ay _ _ rfl)) (ad (ay _ _ rfl)) (eh dj),g8 (fy pZ),cr fun hd E' L' ay aq=>ow (i:=0) (k:=eI) (xs:=(s1.2.1:List bx)) Tryz.underlying27 hv (ad (ay _ _ rfl)) (ad (ay _ _ rfl)) (aq 0 _ rfl rfl) (eh kd),g8 (bc Uf),?_,trivial⟩ fun fG=> ?_
      ·intro hd E' L' ay aq
       refine ah.b2 1 (aq 1 _ rfl rfl) ?_
       refine ah.pH (Lin:= [⟨some cP,.var (s1.2.2:b0)⟩]) (Lr:=L'.eraseIdx 1) jA (ju wh) ⟨ad (ay _ _ rfl),bG 3,trivial⟩ rfl fun Ik=> ?_
       refine ah.nil ?_
       refine aj.back 1 (aq 1 _ rfl rfl) ?_
       exact aj.fin (ek []) rfl rfl
      ·intro hd E' L' ay aq
       refine ah.xw (i:=0) (k:=eI) ((aP.id bx).comp PU) (v:=(aJ (aJ [hY,lN,jh,kC] bn) c3:ByteArray)) (r:=(mb:List bx)) pZ (ad (ay _ _ rfl)) (ad (ay _ _ rfl)) (aq 0 _ rfl rfl) (eh kd).1 rfl (aT vN) ?_
       refine ah.nil ?_
       exact aj.fin (ek []) rfl rfl
      refine aj.eH (L2:= [⟨c9.1,.row 44 (mb:List bx) c9.2⟩,⟨some cP,.var (iD.2:b0)⟩,⟨none,.row 39 (([]:List cJ):List cJ) 0⟩,⟨some fa,.var (({ eg.1 with cj:=eg.2 } :bx):bx)⟩,⟨none,.dead⟩,⟨none,.row 39 (([]:List cJ):List cJ) 0⟩,⟨some cH,.var (({ cx.1 with cj:=cx.2 } :bx):bx)⟩,⟨none,.dead⟩,⟨none,.row 39 (([]:List cJ):List cJ) 0⟩,⟨some bh,.var (({ bq.1 with cj:=bq.2 } :bx):bx)⟩,⟨none,.dead⟩,⟨some ba,.var (en:bx)⟩]) rfl ?_
      refine aj.nQ (m:=mb.length) 7 rfl (nE (aT vN)) ?_
      refine aj.nQ (m:=mb.length) 84 rfl (nE (aT vN)) ?_
      refine lF [0,2,3,4,5,6,7,8,9,28,44,61,80,81,82,83,84,85,86,87,88,89,90,91,92,93,94,95] ?_
      refine aj.fV ?_
      refine aj.next ?_
      refine ak.cU ?_
      refine bQ eR ?_
      refine aL ?_
      refine ah.nil ?_
      obtain rfl:=aT h
      exact kb (c9.1,c9.2) 0
     ·refine ak.exit ?_
      refine aj.exit ?_
      obtain rfl:=aT h
      exact hg (c9.1,c9.2) 0
    ·clear an
     refine aj.jd ?_
     refine aj.next ?_
     refine aM ?_
     refine aL ?_
     refine aW ?_
     refine a0 ?_
     refine ak.ret ?_
     refine aj.oh (α:=bx) 0 [2,7,97] ⟨rfl,rfl,rfl,trivial⟩ rfl ?_
     refine aj.b2 1 rfl ?_
     obtain rfl:=aT h
     exact l9 ()
   ·have h:=hC ag fh
    refine ak.cU ?_
    refine bj (bc mC) ?_
    refine bp (il (i:=2) (q:=0) (β:=bx) (γ:=cJ) l2 (ad rfl) rfl rfl) ?_
    obtain⟨kU,Al,h⟩:=aC h
    refine dU Al (c2 (b:= { b6:=ByteArray.mk #[103],gf:=9,du:=1:cJ }) rfl qU jN (.cons qv rfl (dy (ByteArray.mk #[103])) rfl (.cons oZ rfl (bG 9) rfl (.cons oc rfl (bG 1) rfl (.nil))))) ?_
    obtain⟨ll,Am,h⟩:=aC h
    refine dU Am (c2 (b:= { b6:=ByteArray.mk #[100],gf:=7,du:=2:cJ }) rfl qU jN (.cons qv rfl (dy (ByteArray.mk #[100])) rfl (.cons oZ rfl (bG 7) rfl (.cons oc rfl (bG 2) rfl (.nil))))) ?_
    refine ia [kU,ll] Tryz.underlying40 ku jN ?_
    obtain⟨ib,r9,h⟩:=aC h
    refine oE 3 Tryz.underlying40 ku jN r9 fun vO gj=> ?_
    refine bj (bc mC) ?_
    refine ah.kq (i:=2) (γ:=cJ) (b':=(({ ({ (default:bx) with bW:=4,b6:=ByteArray.mk #[115,112,97,110,115],fu:=([1,3,5]:List Int),g4:=3,uT:= [({ (default:aw) with cv:=7#64 } :aw)],iQ:=bE (3 + e9.1) } :bx) with cj:= [] } :bx):bx)) (os':= [(2,bf vO ib.length gj)]) ((aP.id bx).comp kJ) l2 (ad rfl) (ad rfl) jy rfl rfl rfl rfl ?_
    refine ah.nil ?_
    obtain rfl:=aT h
    exact dI 0 (hm (vO,gj))
   ·have h:=hD ag fh
    refine ak.skip ?_
    obtain rfl:=aT h
    exact dI 0 (hm (oB,1))
  ·have h:=hC ag ed
   refine ak.cU ?_
   refine bj (bc mC) ?_
   refine bp (il (i:=2) (q:=0) (β:=bx) (γ:=cJ) l2 (ad rfl) rfl rfl) ?_
   obtain⟨oG,An,h⟩:=aC h
   refine dU An (c2 (b:= { b6:=ByteArray.mk #[98],gf:=5,du:=1:cJ }) rfl qU jN (.cons qv rfl (dy (ByteArray.mk #[98])) rfl (.cons oZ rfl (bG 5) rfl (.cons oc rfl (bG 1) rfl (.nil))))) ?_
   refine ia [oG] Tryz.underlying40 ku jN ?_
   obtain⟨hU,Ar,h⟩:=aC h
   refine oE 3 Tryz.underlying40 ku jN Ar fun Ob sa=> ?_
   refine bj (bc mC) ?_
   refine ah.kq (i:=2) (γ:=cJ) (b':=(({ ({ (default:bx) with bW:=3,b6:=ByteArray.mk #[97,99,108],fu:=([1,2,3,5,6]:List Int),g4:=1,iQ:=bE (4 + c8.1) } :bx) with cj:= [] } :bx):bx)) (os':= [(2,bf Ob hU.length sa)]) ((aP.id bx).comp kJ) l2 (ad rfl) (ad rfl) jy rfl rfl rfl rfl ?_
   refine ah.nil ?_
   obtain rfl:=aT h
   exact dI 0 (hm (Ob,sa))
  ·have h:=hD ag ed
   refine ak.skip ?_
   obtain rfl:=aT h
   exact dI 0 (hm (mM,2))
 ·have h:=hC ag cn
  refine ak.cU ?_
  refine bj (bc mC) ?_
  refine bp (il (i:=2) (q:=0) (β:=bx) (γ:=cJ) l2 (ad rfl) rfl rfl) ?_
  obtain⟨pk,Ao,h⟩:=aC h
  refine dU Ao (c2 (b:= { b6:=ByteArray.mk #[109],gf:=3,du:=1:cJ }) rfl qU jN (.cons qv rfl (dy (ByteArray.mk #[109])) rfl (.cons oZ rfl (bG 3) rfl (.cons oc rfl (bG 1) rfl (.nil))))) ?_
  refine ia [pk] Tryz.underlying40 ku jN ?_
  obtain⟨e6,vP,h⟩:=aC h
  refine oE 3 Tryz.underlying40 ku jN vP fun Oc vQ=> ?_
  refine bj (bc mC) ?_
  refine ah.kq (i:=2) (γ:=cJ) (b':=(({ ({ (default:bx) with bW:=2,b6:=ByteArray.mk #[114,111,117,116,101,115],fu:=([1,2,3,4]:List Int),g4:=2,iQ:=bE (3 + bm.1) } :bx) with cj:= [] } :bx):bx)) (os':= [(2,bf Oc e6.length vQ)]) ((aP.id bx).comp kJ) l2 (ad rfl) (ad rfl) jy rfl rfl rfl rfl ?_
  refine ah.nil ?_
  obtain rfl:=aT h
  exact dI 0 (hm (Oc,vQ))
 ·have h:=hD ag cn
  refine ak.skip ?_
  obtain rfl:=aT h
  exact dI 0 (hm (h6,1))
theorem QE {ab:b0} {al:List bx} {cP:Nat} {r:(List cG) × b0} (h:yR ab al=some r):bN Tryz.prog 52 [I.eq (.pointer (some ⟨cP,0,none⟩)),I.of (al)] [⟨some cP,.var (ab:b0)⟩] (δ:=Unit) (fun d=>I.of (r.1)) (fun d=> [⟨some cP,.var (r.2:b0)⟩]):=by
 unfold yR at h
 refine bN.of Tryz.func52 rfl Tryz.ntmps52 rfl fun W A=> ?_
 refine aM ?_
 refine bp (e5 (look_nil (α:=cG))) ?_
 refine cc ?_
 refine ia ([1,2,3,4,5,6]:List Int) Tryz.underlying41 cf lk ?_
 refine bp (rG (b:=({ (default:cG) with bW:=1,b6:=ByteArray.mk #[97,108,108],fu:=([1,2,3,4,5,6]:List Int),rN:=40,zw:=true } :cG)) [2] xp rfl Hl vw (.cons Fy rfl (bG 1) rfl (by rfl) (.cons Fs rfl (dy (ByteArray.mk #[97,108,108])) rfl (by rfl) (.cons Fe rfl (ad rfl) rfl (by rfl) (.cons Fl rfl (bG 40) rfl (by rfl) (.cons QF rfl (fQ true) rfl (by rfl) (.nil))))))) ?_
 refine ah.own (α:=dr) 183 ?_
 refine ah.o9 (z:=(default:cG)) [2] xp vw rfl fun ba=> ?_
 refine ah.own (α:=dr) 183 ?_
 refine ah.rS (i:=1) vx (ad rfl) (ad rfl) rfl ?_
 refine cc ?_
 refine aL ?_
 refine ah.b2 3 rfl ?_
 obtain⟨aG,bF,h⟩:=aC h
 refine gz 1 jA (ju bF) fun aN=> ?_
 refine bQ eR ?_
 refine ia ([1,2,bE (3 + aG.1)]:List Int) Tryz.underlying41 cf lk ?_
 refine aL ?_
 refine ah.b2 0 rfl ?_
 obtain⟨aQ,cR,h⟩:=aC h
 refine gz 1 jA (ju cR) fun dR=> ?_
 refine bQ eR ?_
 refine bp (rG (b:=({ (default:cG) with bW:=2,b6:=ByteArray.mk #[115,111,109,101],fu:=([1,2,bE (3 + aG.1)]:List Int),rN:=bE (1 + aQ.1) } :cG)) [2] xp rfl Hl vw (.cons Fy rfl (bG 2) rfl (by rfl) (.cons Fs rfl (dy (ByteArray.mk #[115,111,109,101])) rfl (by rfl) (.cons Fe rfl (ad rfl) rfl (by rfl) (.cons Fl rfl (ad rfl) rfl (by rfl) (.nil)))))) ?_
 refine ah.own (α:=dr) 183 ?_
 refine ah.o9 (z:=(default:cG)) [2] xp vw rfl fun bh=> ?_
 refine ah.own (α:=dr) 183 ?_
 refine ah.rS (i:=1) vx (ad rfl) (ad rfl) rfl ?_
 refine cc ?_
 refine aL ?_
 refine ah.b2 3 rfl ?_
 obtain⟨bm,hh,h⟩:=aC h
 refine gz 1 jA (ju hh) fun hJ=> ?_
 refine bQ eR ?_
 refine ia [bE (1 + bm.1)] Tryz.underlying41 cf lk ?_
 refine aL ?_
 refine ah.b2 0 rfl ?_
 obtain⟨cD,h9,h⟩:=aC h
 refine gz 1 jA (ju h9) fun uq=> ?_
 refine bp (rG (b:=({ (default:cG) with bW:=7,b6:=ByteArray.mk #[102,101,119],fu:= [bE (1 + bm.1)],rN:=cD.1 } :cG)) [2] xp rfl Hl vw (.cons Fy rfl (bG 7) rfl (by rfl) (.cons Fs rfl (dy (ByteArray.mk #[102,101,119])) rfl (by rfl) (.cons Fe rfl (ad rfl) rfl (by rfl) (.cons Fl rfl (ad rfl) rfl (by rfl) (.nil)))))) ?_
 refine ah.own (α:=dr) 183 ?_
 refine ah.o9 (z:=(default:cG)) [2] xp vw rfl fun cH=> ?_
 refine ah.own (α:=dr) 183 ?_
 refine ah.rS (i:=1) vx (ad rfl) (ad rfl) rfl ?_
 refine cm ?_
 refine aM ?_
 refine aL ?_
 refine bj (iq Tryz.underlying27) ?_
 refine aL ?_
 refine a0 ?_
 refine ak.block ?_
 obtain⟨az,an,h⟩:=aC h
 refine nZ (γ:=(Option Nat × Nat) × (Option Nat × Nat) × (Option Nat × Nat)) (δ:=(Option Nat × Nat) × (Option Nat × Nat) × (Option Nat × Nat)) an [0,1,4,5,6,7,30,31] (fun s1 ax=> [(32,I.of (s1.1))]) (fun s1 ax=> [(1,⟨some cH,.bZ (s1.2.1:cG) [(2,bf ax.1.1 s1.2.2.1.length ax.1.2)]⟩),(2,⟨ax.1.1,.row 183 (s1.2.2.1:List dr) ax.1.2⟩),(3,⟨some cP,.var (s1.2.2.2.1:b0)⟩),(5,⟨some bh,.bZ (s1.2.2.2.2.1:cG) [(2,bf ax.2.1.1 s1.2.2.2.2.2.1.length ax.2.1.2)]⟩),(6,⟨ax.2.1.1,.row 183 (s1.2.2.2.2.2.1:List dr) ax.2.1.2⟩),(8,⟨some ba,.bZ (s1.2.2.2.2.2.2.1:cG) [(2,bf ax.2.2.1 s1.2.2.2.2.2.2.2.length ax.2.2.2)]⟩),(9,⟨ax.2.2.1,.row 183 (s1.2.2.2.2.2.2.2:List dr) ax.2.2.2⟩)]) (fun iX=>Exit.exit 0) (fun iX ax=> [(32,I.of (iX.1)),(33,I.of (iX.2.1))]) (fun iX ax=> [(1,⟨some cH,.bZ (iX.2.2.1:cG) [(2,bf ax.1.1 iX.2.2.2.1.length ax.1.2)]⟩),(2,⟨ax.1.1,.row 183 (iX.2.2.2.1:List dr) ax.1.2⟩),(3,⟨some cP,.var (iX.2.2.2.2.1:b0)⟩),(5,⟨some bh,.bZ (iX.2.2.2.2.2.1:cG) [(2,bf ax.2.1.1 iX.2.2.2.2.2.2.1.length ax.2.1.2)]⟩),(6,⟨ax.2.1.1,.row 183 (iX.2.2.2.2.2.2.1:List dr) ax.2.1.2⟩),(8,⟨some ba,.bZ (iX.2.2.2.2.2.2.2.1:cG) [(2,bf ax.2.2.1 iX.2.2.2.2.2.2.2.2.length ax.2.2.2)]⟩),(9,⟨ax.2.2.1,.row 183 (iX.2.2.2.2.2.2.2.2:List dr) ax.2.2.2⟩)]) ((none,0),(none,0),(none,0)) (fun s1 r h ax=> ?_) fun ax=> ?_
 ·clear an
  refine aM ?_
  refine bQ hf ?_
  refine cm ?_
  refine dz h (fun h=>?_) fun h=>?_
  ·refine dT ?_
   refine ak.seq ?_
   refine ak.block ?_
   refine aM ?_
   obtain⟨bn,dJ,h⟩:=aC h
   refine lh dJ Tryz.underlying27 hv ?_
   refine bj (fy hv) ?_
   refine dL l4 fun fa=> ?_
   refine dh 0 hv ?_
   refine cc ?_
   refine bj (bc mC) ?_
   refine dg 0 kJ l2 ?_
   refine bj (iq Tryz.underlying40) ?_
   obtain⟨c8,jS,h⟩:=aC h
   refine ah.OK Tryz.underlying181 ix Em rfl (by kernel_rfl) (ad rfl) (ad rfl) jS rfl fun h6=> ?_
   refine aW ?_
   refine cc ?_
   refine bj (bc mC) ?_
   refine dg 1 kJ l2 ?_
   refine bj (iq Tryz.underlying40) ?_
   obtain⟨eU,kB,h⟩:=aC h
   refine ah.OK Tryz.underlying181 ix Em rfl (by kernel_rfl) (ad rfl) (ad rfl) kB rfl fun mM=> ?_
   refine aW ?_
   refine cm ?_
   refine aM ?_
   refine aL ?_
   refine bp (rR (i:=1) Tryz.underlying181 (ad rfl) rfl rfl) ?_
   refine aL ?_
   refine a0 ?_
   refine ak.block ?_
   obtain⟨aX,an,h⟩:=aC h
   refine nZ (γ:=(Option Nat × Nat) × (Option Nat × Nat)) (δ:=(Option Nat × Nat) × (Option Nat × Nat)) an [0,1,4,5,6,7,9,30,31,32,33,45] (fun s2 a5=> [(10,I.eq (bf a5.2.1 s2.2.2.1.length a5.2.2)),(11,I.eq (bf a5.1.1 s2.2.1.length a5.1.2)),(46,I.of (s2.1))]) (fun s2 a5=> [(0,⟨a5.1.1,.row 4 (s2.2.1:List Bool) a5.1.2⟩),(1,⟨a5.2.1,.row 4 (s2.2.2.1:List Bool) a5.2.2⟩),(6,⟨some cP,.var (s2.2.2.2:b0)⟩)]) (fun mY=>Exit.exit 2) (fun mY a5=> [(10,I.eq (bf a5.2.1 mY.2.2.2.1.length a5.2.2)),(11,I.eq (bf a5.1.1 mY.2.2.1.length a5.1.2)),(46,I.of (mY.1)),(47,I.of (mY.2.1))]) (fun mY a5=> [(0,⟨a5.1.1,.row 4 (mY.2.2.1:List Bool) a5.1.2⟩),(1,⟨a5.2.1,.row 4 (mY.2.2.2.1:List Bool) a5.2.2⟩),(6,⟨some cP,.var (mY.2.2.2.2:b0)⟩)]) ((mM,eU.length),(h6,c8.length)) (fun s2 r h a5=> ?_) fun a5=> ?_
   ·clear an
    refine aM ?_
    refine bQ hf ?_
    refine cm ?_
    refine dz h (fun h=>?_) fun h=>?_
    ·refine dT ?_
     refine ak.seq ?_
     refine ak.block ?_
     refine aM ?_
     refine aL ?_
     refine aW ?_
     refine a0 ?_
     refine ak.cU ?_
     refine aL ?_
     refine aL ?_
     refine aL ?_
     refine aL ?_
     refine aL ?_
     refine ah.b2 6 rfl ?_
     obtain⟨e9,sl,h⟩:=aC h
     refine gz 1 jA (ju sl) fun BA=> ?_
     refine bQ xI ?_
     obtain⟨c3,dj,h⟩:=aC h
     refine bp (ow (i:=2) (k:=c3) (xs:=(s2.2.2.1:List Bool)) Tryz.underlying181 ix (ad rfl) (ad rfl) rfl (eh dj)) ?_
     refine ah.xw (i:=2) (k:=c3) (aP.id Bool) (v:=(true:Bool)) (r:=(gv s2.2.2.1 c3 true:List Bool)) ix (ad rfl) (fQ true) rfl (eh dj).1 rfl rfl ?_
     refine ah.nQ (m:=(gv s2.2.2.1 c3 true).length) 10 rfl (nE rfl) ?_
     refine ah.nQ (m:=(gv s2.2.2.1 c3 true).length) 49 rfl (nE rfl) ?_
     obtain⟨eI,kd,h⟩:=aC h
     refine bp (ow (i:=1) (k:=eI) (xs:=(s2.2.1:List Bool)) Tryz.underlying181 ix (ad rfl) (ad rfl) rfl (eh kd)) ?_
     refine ah.xw (i:=1) (k:=eI) (aP.id Bool) (v:=(decide (e9.1 > 0):Bool)) (r:=(gv s2.2.1 eI (decide (e9.1 > 0)):List Bool)) ix (ad rfl) (ad rfl) rfl (eh kd).1 rfl rfl ?_
     refine ah.nQ (m:=(gv s2.2.1 eI (decide (e9.1 > 0))).length) 11 rfl (nE rfl) ?_
     refine ah.nQ (m:=(gv s2.2.1 eI (decide (e9.1 > 0))).length) 51 rfl (nE rfl) ?_
     refine ah.nil ?_
     refine aj.fV ?_
     refine aj.next ?_
     refine ak.cU ?_
     refine bQ eR ?_
     refine aL ?_
     refine ah.nil ?_
     refine aj.b2 6 rfl ?_
     refine aj.b2 6 rfl ?_
     refine aj.b2 6 rfl ?_
     refine aj.b2 6 rfl ?_
     refine aj.b2 6 rfl ?_
     refine aj.b2 6 rfl ?_
     obtain rfl:=aT h
     exact kb ((a5.1.1,a5.1.2),(a5.2.1,a5.2.2)) 0
    ·refine ak.exit ?_
     refine aj.exit ?_
     obtain rfl:=aT h
     exact hg ((a5.1.1,a5.1.2),(a5.2.1,a5.2.2)) 0
   ·clear an
    refine aj.jd ?_
    refine aj.next ?_
    refine aM ?_
    refine bj (bc xq) ?_
    refine bp (il (i:=11) (q:=0) (β:=cG) (γ:=dr) vy (ad rfl) rfl rfl) ?_
    refine bj (bc Dn) ?_
    refine dg 2 ta cf ?_
    refine aL ?_
    refine ah.oh (α:=Bool) 1 [63,10] ⟨rfl,rfl,trivial⟩ rfl ?_
    obtain⟨bJ,eC,h⟩:=aC h
    refine dU eC (c2 (b:= { et:=(aJ al bn).bW,rT:=true,rO:=true,cj:=aX.2.2.2.1:dr }) rfl Hm r4 (.cons Fi rfl (ad rfl) rfl (.cons Fm rfl (fQ true) rfl (.cons Fj rfl (fQ true) rfl (.cons Fo rfl (ad rfl) rfl (.nil)))))) ?_
    refine ia [bJ] Tryz.underlying178 xJ r4 ?_
    obtain⟨gm,sn,h⟩:=aC h
    refine oE 12 Tryz.underlying178 xJ r4 sn fun oB gj=> ?_
    refine bj (bc xq) ?_
    refine ah.kq (i:=11) (γ:=dr) (b':=(({ s1.2.2.2.2.2.2.1 with jw:= [] } :cG):cG)) (os':= [(2,bf oB gm.length gj)]) ((aP.id cG).comp w7) vy (ad rfl) (ad rfl) jy rfl rfl rfl rfl ?_
    refine cm ?_
    refine aM ?_
    refine aL ?_
    refine ah.b2 6 rfl ?_
    obtain⟨iD,wh,h⟩:=aC h
    refine gz 1 jA (ju wh) fun jm=> ?_
    refine bQ xI ?_
    refine a0 ?_
    refine ak.freeze (α:=Bool) 1 11 rfl rfl ?_
    obtain⟨bq,cn,h⟩:=aC h
    refine lj (γ:=(Option Nat × Nat)) [0,1,4,5,6,7,9,10,11,30,31,32,33,45,46,47,70] (fun bH=> []) (fun bH=> [(0,⟨some cP,.var (bq.1:b0)⟩),(8,⟨some bh,.bZ (bq.2.1:cG) [(2,bf bH.1 bq.2.2.length bH.2)]⟩),(9,⟨bH.1,.row 183 (bq.2.2:List dr) bH.2⟩)]) (fun bH=> ?_) (fun hm ag=> ?_) fun hm ag=> ?_
    ·clear cn
     refine aj.next ?_
     refine aM ?_
     refine aL ?_
     refine ah.b2 0 rfl ?_
     obtain⟨ib,r9,h⟩:=aC h
     refine gz 1 nV (nC r9) fun iC=> ?_
     refine a0 ?_
     obtain⟨cx,ed,h⟩:=aC h
     refine lj (γ:=(Option Nat × Nat)) [0,1,4,5,6,7,9,10,11,30,31,32,33,45,46,47,70,86] (fun c9=> []) (fun c9=> [(0,⟨some cP,.var (cx.1:b0)⟩),(5,⟨some cH,.bZ (cx.2.1:cG) [(2,bf c9.1 cx.2.2.length c9.2)]⟩),(6,⟨c9.1,.row 183 (cx.2.2:List dr) c9.2⟩)]) (fun c9=> ?_) (fun hm ag=> ?_) fun hm ag=> ?_
     ·clear ed
      refine aj.fV ?_
      refine aj.next ?_
      refine ak.cU ?_
      refine bQ eR ?_
      refine aL ?_
      refine ah.nil ?_
      refine aj.b2 6 rfl ?_
      refine aj.b2 6 rfl ?_
      refine aj.b2 6 rfl ?_
      refine aj.b2 6 rfl ?_
      refine aj.b2 6 rfl ?_
      refine aj.b2 6 rfl ?_
      obtain rfl:=aT h
      exact kb ((c9.1,c9.2),(bH.1,bH.2),(oB,gj)) 3
     ·have h:=hC ag ed
      obtain⟨hU,Ar,h⟩:=aC h
      obtain⟨e6,vP,h⟩:=aC h
      obtain⟨en,kA,h⟩:=aC h
      obtain⟨fx,vR,h⟩:=aC h
      refine kc [0,1,4,5,6,7,9,10,11,30,31,32,33,45,46,47,70,85,86] ?_
      refine ak.mE mixed (bk 87 [] [] _ :: bk 88 (0 :: []) (5 :: []) _ :: bk 89 [] [] _ :: bk 90 (2 :: []) (3 :: []) _ :: bk 91 [] [] _ :: ⟨some 92,(4 :: []),(0 :: []),(0 :: []),fun _=>I.of (hU.1),fun hd _=>⟨some cP,.var (hU.2:b0)⟩⟩ :: bk 93 [] [] _ :: ⟨some 94,(5 :: 6 :: []),(0 :: []),(0 :: []),fun _=>I.of (e6.1),fun hd _=>⟨some cP,.var (e6.2:b0)⟩⟩ :: bk 95 [] [] _ :: bk 96 (3 :: 5 :: 7 :: 8 :: []) [] _ :: bk 97 (9 :: []) [] _ :: ⟨some 98,(1 :: 10 :: []),(6 :: []),(6 :: []),fun hd=>I.eq (bf (hd 11 0) fx.length ((hd 11 1).getD 0)),fun hd _=>⟨(hd 11 0),.row 183 (fx:List dr) ((hd 11 1).getD 0)⟩⟩ :: bk 99 [] [] _ :: ⟨none,(1 :: 11 :: 12 :: []),(5 :: []),(5 :: []),fun _=>I.any,fun hd _=>⟨some cH,.bZ (({ s1.2.1 with jw:= [] } :cG):cG) [(2,bf (hd 11 0) fx.length ((hd 11 1).getD 0))]⟩⟩ :: []) _ (0 :: 1 :: 4 :: 5 :: 6 :: 7 :: 9 :: 10 :: 11 :: 30 :: 31 :: 32 :: 33 :: 45 :: 46 :: 47 :: 70 :: 85 :: 86 :: []) rfl rfl (by kernel_rfl) ⟨g8 (bc xq),cr fun hd E' L' ay aq=>il (i:=5) (q:=0) (β:=cG) (γ:=dr) vy (ad (ay _ _ rfl)) (aq 5 _ rfl rfl) rfl,g8 (bc Dn),uf 3 ta cf,gb,?_,gb,?_,gb,cr fun hd E' L' ay aq=>(c2 (b:= { et:=(aJ al bn).bW,rT:=hU.1,rO:=e6.1,cj:=aX.2.2.2.1:dr }) rfl Hm r4 (.cons Fi rfl (ad (ay _ _ rfl)) rfl (.cons Fm rfl (ad (ay _ _ rfl)) rfl (.cons Fj rfl (ad (ay _ _ rfl)) rfl (.cons Fo rfl (ad (ay _ _ rfl)) rfl (.nil)))))).as (aT kA),cr fun hd E' L' ay aq=>j5 (r:= [en]) Tryz.underlying178 xJ r4 rfl rfl (.cons (by simp) (ad (ay _ _ rfl)) (.nil)),?_,g8 (bc xq),?_,trivial⟩ fun fG=> ?_
      ·intro hd E' L' ay aq
       refine ah.b2 0 (aq 0 _ rfl rfl) ?_
       refine ah.pH (Lin:= [⟨some cP,.var (ib.2:b0)⟩]) (Lr:=L'.eraseIdx 0) nV (nC Ar) ⟨ad (ay _ _ rfl),trivial⟩ rfl fun Ik=> ?_
       refine ah.nil ?_
       refine aj.back 0 (aq 0 _ rfl rfl) ?_
       exact aj.fin (ek []) rfl rfl
      ·intro hd E' L' ay aq
       refine ah.b2 0 (aq 0 _ rfl rfl) ?_
       refine ah.pH (Lin:= [⟨some cP,.var (hU.2:b0)⟩]) (Lr:=L'.eraseIdx 0) nV (nC vP) ⟨ad (ay _ _ rfl),trivial⟩ rfl fun aaL=> ?_
       refine ah.nil ?_
       refine aj.back 0 (aq 0 _ rfl rfl) ?_
       exact aj.fin (ek []) rfl rfl
      ·intro hd E' L' ay aq
       refine ah.app (i:=6) Tryz.underlying178 xJ r4 (bytes:=40) (by kernel_rfl) (ad (ay _ _ rfl)) (aq 6 _ rfl rfl) (ad (ay _ _ rfl)) vR rfl fun xS sa=> ?_
       refine ah.nil ?_
       exact aj.fin (ek [xS,some sa]) rfl rfl
      ·intro hd E' L' ay aq
       refine ah.kq (i:=5) (γ:=dr) (b':=(({ s1.2.1 with jw:= [] } :cG):cG)) (os':= [(2,bf (hd 11 0) fx.length ((hd 11 1).getD 0))]) ((aP.id cG).comp w7) vy (ad (ay _ _ rfl)) (ad (ay _ _ rfl)) jy (aq 5 _ rfl rfl) rfl rfl rfl ?_
       refine ah.nil ?_
       exact aj.fin (ek []) rfl rfl
      refine aj.eH (L2:= [⟨some cP,.var (e6.2:b0)⟩,⟨none,.dead⟩,⟨none,.dead⟩,⟨some fa,.var (aJ al bn:bx)⟩,⟨none,.row 183 (([]:List dr):List dr) 0⟩,⟨some cH,.bZ (({ s1.2.1 with jw:= [] } :cG):cG) [(2,bf (fG 11 0) fx.length ((fG 11 1).getD 0))]⟩,⟨(fG 11 0),.row 183 (fx:List dr) ((fG 11 1).getD 0)⟩,⟨none,.row 183 (([]:List dr):List dr) 0⟩,⟨some bh,.bZ (bq.2.1:cG) [(2,bf bH.1 bq.2.2.length bH.2)]⟩,⟨bH.1,.row 183 (bq.2.2:List dr) bH.2⟩,⟨none,.row 183 (([]:List dr):List dr) 0⟩,⟨some ba,.bZ (({ s1.2.2.2.2.2.2.1 with jw:= [] } :cG):cG) [(2,bf oB gm.length gj)]⟩,⟨oB,.row 183 (gm:List dr) gj⟩]) rfl ?_
      refine lF [0,1,4,5,6,7,9,10,11,30,31,32,33,45,46,47,70,85,86,87,89,90,91,92,93,94,95,96,97,98,99] ?_
      obtain rfl:=aT h
      exact dI 0 (hm ((fG 11 0),((fG 11 1).getD 0)))
     ·have h:=hD ag ed
      refine ak.skip ?_
      obtain rfl:=aT h
      exact dI 0 (hm (ax.1.1,ax.1.2))
    ·have h:=hC ag cn
     obtain⟨ke,As,h⟩:=aC h
     obtain⟨oH,HT,h⟩:=aC h
     obtain⟨fP,nf,h⟩:=aC h
     obtain⟨mR,XM,h⟩:=aC h
     refine kc [0,1,4,5,6,7,9,10,11,30,31,32,33,45,46,47,59,61,62,63,64,65,66,67,68,69,70] ?_
     refine ak.mE mixed (bk 71 [] [] _ :: bk 72 (0 :: []) (8 :: []) _ :: bk 73 [] [] _ :: bk 74 (2 :: []) (3 :: []) _ :: bk 75 [] [] _ :: ⟨some 76,(4 :: []),(0 :: []),(0 :: []),fun _=>I.of (ke.1),fun hd _=>⟨some cP,.var (ke.2:b0)⟩⟩ :: bk 77 (5 :: []) [] _ :: bk 78 [] [] _ :: ⟨some 79,(5 :: 7 :: []),(0 :: []),(0 :: []),fun _=>I.of (oH.1),fun hd _=>⟨some cP,.var (oH.2:b0)⟩⟩ :: bk 80 [] [] _ :: bk 81 (3 :: 6 :: 8 :: 9 :: []) [] _ :: bk 82 (10 :: []) [] _ :: ⟨some 83,(1 :: 11 :: []),(9 :: []),(9 :: []),fun hd=>I.eq (bf (hd 12 0) mR.length ((hd 12 1).getD 0)),fun hd _=>⟨(hd 12 0),.row 183 (mR:List dr) ((hd 12 1).getD 0)⟩⟩ :: bk 84 [] [] _ :: ⟨none,(1 :: 12 :: 13 :: []),(8 :: []),(8 :: []),fun _=>I.any,fun hd _=>⟨some bh,.bZ (({ s1.2.2.2.2.1 with jw:= [] } :cG):cG) [(2,bf (hd 12 0) mR.length ((hd 12 1).getD 0))]⟩⟩ :: []) _ (0 :: 1 :: 4 :: 5 :: 6 :: 7 :: 9 :: 10 :: 11 :: 30 :: 31 :: 32 :: 33 :: 45 :: 46 :: 47 :: 59 :: 61 :: 62 :: 63 :: 64 :: 65 :: 66 :: 67 :: 68 :: 69 :: 70 :: []) rfl rfl (by kernel_rfl) ⟨g8 (bc xq),cr fun hd E' L' ay aq=>il (i:=8) (q:=0) (β:=cG) (γ:=dr) vy (ad (ay _ _ rfl)) (aq 8 _ rfl rfl) rfl,g8 (bc Dn),uf 3 ta cf,gb,?_,ym xI,gb,?_,gb,cr fun hd E' L' ay aq=>(c2 (b:= { et:=(aJ al bn).bW,rT:=decide (ke.1 > 0),rO:=oH.1,cj:=aX.2.2.1:dr }) rfl Hm r4 (.cons Fi rfl (ad (ay _ _ rfl)) rfl (.cons Fm rfl (ad (ay _ _ rfl)) rfl (.cons Fj rfl (ad (ay _ _ rfl)) rfl (.cons Fo rfl (ad (ay _ _ rfl)) rfl (.nil)))))).as (aT nf),cr fun hd E' L' ay aq=>j5 (r:= [fP]) Tryz.underlying178 xJ r4 rfl rfl (.cons (by simp) (ad (ay _ _ rfl)) (.nil)),?_,g8 (bc xq),?_,trivial⟩ fun hi=> ?_
     ·intro hd E' L' ay aq
      refine ah.b2 0 (aq 0 _ rfl rfl) ?_
      refine ah.pH (Lin:= [⟨some cP,.var (iD.2:b0)⟩]) (Lr:=L'.eraseIdx 0) jA (ju As) ⟨ad (ay _ _ rfl),bG 4,trivial⟩ rfl fun aaM=> ?_
      refine ah.nil ?_
      refine aj.back 0 (aq 0 _ rfl rfl) ?_
      exact aj.fin (ek []) rfl rfl
     ·intro hd E' L' ay aq
      refine ah.b2 0 (aq 0 _ rfl rfl) ?_
      refine ah.pH (Lin:= [⟨some cP,.var (ke.2:b0)⟩]) (Lr:=L'.eraseIdx 0) nV (nC HT) ⟨ad (ay _ _ rfl),trivial⟩ rfl fun aaN=> ?_
      refine ah.nil ?_
      refine aj.back 0 (aq 0 _ rfl rfl) ?_
      exact aj.fin (ek []) rfl rfl
     ·intro hd E' L' ay aq
      refine ah.app (i:=9) Tryz.underlying178 xJ r4 (bytes:=40) (by kernel_rfl) (ad (ay _ _ rfl)) (aq 9 _ rfl rfl) (ad (ay _ _ rfl)) XM rfl fun vO vQ=> ?_
      refine ah.nil ?_
      exact aj.fin (ek [vO,some vQ]) rfl rfl
     ·intro hd E' L' ay aq
      refine ah.kq (i:=8) (γ:=dr) (b':=(({ s1.2.2.2.2.1 with jw:= [] } :cG):cG)) (os':= [(2,bf (hd 12 0) mR.length ((hd 12 1).getD 0))]) ((aP.id cG).comp w7) vy (ad (ay _ _ rfl)) (ad (ay _ _ rfl)) jy (aq 8 _ rfl rfl) rfl rfl rfl ?_
      refine ah.nil ?_
      exact aj.fin (ek []) rfl rfl
     refine aj.eH (L2:= [⟨some cP,.var (oH.2:b0)⟩,⟨none,.dead⟩,⟨none,.dead⟩,⟨some fa,.var (aJ al bn:bx)⟩,⟨none,.row 183 (([]:List dr):List dr) 0⟩,⟨some cH,.bZ (s1.2.1:cG) [(2,bf ax.1.1 s1.2.2.1.length ax.1.2)]⟩,⟨ax.1.1,.row 183 (s1.2.2.1:List dr) ax.1.2⟩,⟨none,.row 183 (([]:List dr):List dr) 0⟩,⟨some bh,.bZ (({ s1.2.2.2.2.1 with jw:= [] } :cG):cG) [(2,bf (hi 12 0) mR.length ((hi 12 1).getD 0))]⟩,⟨(hi 12 0),.row 183 (mR:List dr) ((hi 12 1).getD 0)⟩,⟨none,.row 183 (([]:List dr):List dr) 0⟩,⟨some ba,.bZ (({ s1.2.2.2.2.2.2.1 with jw:= [] } :cG):cG) [(2,bf oB gm.length gj)]⟩,⟨oB,.row 183 (gm:List dr) gj⟩]) rfl ?_
     refine lF [0,1,4,5,6,7,9,10,11,30,31,32,33,45,46,47,59,61,62,63,64,65,66,67,68,69,70,71,73,74,75,76,77,78,79,80,81,82,83,84] ?_
     obtain rfl:=aT h
     exact dI 0 (hm ((hi 12 0),((hi 12 1).getD 0)))
    ·have h:=hD ag cn
     refine ak.skip ?_
     obtain rfl:=aT h
     exact dI 0 (hm (ax.2.1.1,ax.2.1.2))
  ·refine ak.exit ?_
   refine aj.exit ?_
   obtain rfl:=aT h
   exact hg ((ax.1.1,ax.1.2),(ax.2.1.1,ax.2.1.2),(ax.2.2.1,ax.2.2.2)) 0
 ·clear an
  refine aj.jd ?_
  refine aj.next ?_
  refine aM ?_
  refine ah.l6 (β:=cG) (γ:=dr) (b':=(({ az.2.2.2.2.2.2.2.1 with jw:=az.2.2.2.2.2.2.2.2 } :cG):cG)) ((aP.id cG).comp w7) 8 9 0 rfl rfl rfl rfl rfl rfl ?_
  refine ah.ov 8 rfl ?_
  obtain⟨hz,pX,h⟩:=aC h
  refine dU pX (fl (i:=8) (aP.id cG) (r:=({ az.2.2.2.2.2.2.2.1 with jw:=az.2.2.2.2.2.2.2.2 } :cG)) vx (ad rfl) rfl rfl rfl) ?_
  refine ah.l6 (β:=cG) (γ:=dr) (b':=(({ az.2.2.2.2.2.1 with jw:=az.2.2.2.2.2.2.1 } :cG):cG)) ((aP.id cG).comp w7) 5 6 0 rfl rfl rfl rfl rfl rfl ?_
  refine ah.ov 5 rfl ?_
  refine cV 5 vx ?_
  refine ah.l6 (β:=cG) (γ:=dr) (b':=(({ az.2.2.1 with jw:=az.2.2.2.1 } :cG):cG)) ((aP.id cG).comp w7) 1 2 0 rfl rfl rfl rfl rfl rfl ?_
  refine ah.ov 1 rfl ?_
  refine cV 1 vx ?_
  obtain⟨gJ,pY,h⟩:=aC h
  refine dU pY (j5 (r:= [hz,({ az.2.2.2.2.2.1 with jw:=az.2.2.2.2.2.2.1 } :cG),({ az.2.2.1 with jw:=az.2.2.2.1 } :cG)]) Tryz.underlying29 vx vw rfl rfl (.cons (by simp) (ad rfl) (.cons (by simp) (ad rfl) (.cons (by simp) (ad rfl) (.nil))))) ?_
  refine aW ?_
  refine a0 ?_
  refine ak.ret ?_
  refine aj.b2 3 rfl ?_
  obtain rfl:=aT h
  exact l9 ()
theorem JU {ab:b0} {cP:Nat} {r:a2 × b0} (h:s5 ab=some r):bN Tryz.prog 8 [I.eq (.pointer (some ⟨cP,0,none⟩))] [⟨some cP,.var (ab:b0)⟩] (δ:=Unit) (fun d=>I.of (r.1)) (fun d=> [⟨some cP,.var (r.2:b0)⟩]):=by
 unfold s5 at h
 refine bN.of Tryz.func8 rfl Tryz.ntmps8 rfl fun W A=> ?_
 refine aM ?_
 refine dL xT fun ba=> ?_
 refine cc ?_
 refine aL ?_
 refine ah.b2 1 rfl ?_
 obtain⟨aG,bF,h⟩:=aC h
 refine gz 1 jA (ju bF) fun aN=> ?_
 refine bQ eR ?_
 refine aL ?_
 refine ah.b2 0 rfl ?_
 obtain⟨aQ,cR,h⟩:=aC h
 refine gz 1 jA (ju cR) fun dR=> ?_
 refine bQ eR ?_
 refine bp (rG (b:=({ (default:a2) with ze:=bE (2 + aG.1),zp:=bE (12 + aQ.1) } :a2)) [5,7] Lu rfl XN xT (.cons P2 rfl (ad rfl) rfl (by rfl) (.cons Qe rfl (ad rfl) rfl (by rfl) (.nil)))) ?_
 refine ah.own (α:=fD) 113 ?_
 refine ah.own (α:=e3) 115 ?_
 refine ah.o9 (z:=(default:a2)) [5,7] Lu xT rfl fun bh=> ?_
 refine ah.own (α:=fD) 113 ?_
 refine ah.own (α:=e3) 115 ?_
 refine ah.rS (i:=2) h5 (ad rfl) (ad rfl) rfl ?_
 refine cc ?_
 obtain⟨bJ,eC,h⟩:=aC h
 refine dU eC (c2 (b:= { bW:=1,b6:=ByteArray.mk #[105,110,103,114,101,115,115],fz:=16:fm }) rfl r5 qL (.cons qu rfl (bG 1) rfl (.cons rn rfl (dy (ByteArray.mk #[105,110,103,114,101,115,115])) rfl (.cons pz rfl (bG 16) rfl (.nil))))) ?_
 obtain⟨en,kA,h⟩:=aC h
 refine dU kA (c2 (b:= { bW:=2,b6:=ByteArray.mk #[101,103,114,101,115,115],fz:=16:fm }) rfl r5 qL (.cons qu rfl (bG 2) rfl (.cons rn rfl (dy (ByteArray.mk #[101,103,114,101,115,115])) rfl (.cons pz rfl (bG 16) rfl (.nil))))) ?_
 obtain⟨fP,nf,h⟩:=aC h
 refine dU nf (c2 (b:= { bW:=3,b6:=ByteArray.mk #[109,101,116,97],fz:=8:fm }) rfl r5 qL (.cons qu rfl (bG 3) rfl (.cons rn rfl (dy (ByteArray.mk #[109,101,116,97])) rfl (.cons pz rfl (bG 8) rfl (.nil))))) ?_
 refine jQ r5 qL { bW:=4,b6:=ByteArray.mk #[97],fz:=4:fm } (kT qu (kT rn (kT pz .nil))) ?_
 refine jQ r5 qL { bW:=5,b6:=ByteArray.mk #[98],fz:=4:fm } (kT qu (kT rn (kT pz .nil))) ?_
 obtain⟨hz,pX,h⟩:=aC h
 refine dU pX (c2 (b:= { bW:=6,b6:=ByteArray.mk #[101],fz:=8:fm }) rfl r5 qL (.cons qu rfl (bG 6) rfl (.cons rn rfl (dy (ByteArray.mk #[101])) rfl (.cons pz rfl (bG 8) rfl (.nil))))) ?_
 obtain⟨gJ,pY,h⟩:=aC h
 refine dU pY (c2 (b:= { bW:=7,b6:=ByteArray.mk #[100],fz:=32:fm }) rfl r5 qL (.cons qu rfl (bG 7) rfl (.cons rn rfl (dy (ByteArray.mk #[100])) rfl (.cons pz rfl (bG 32) rfl (.nil))))) ?_
 obtain⟨iB,sj,h⟩:=aC h
 refine dU sj (c2 (b:= { bW:=8,b6:=ByteArray.mk #[102],fz:=12:fm }) rfl r5 qL (.cons qu rfl (bG 8) rfl (.cons rn rfl (dy (ByteArray.mk #[102])) rfl (.cons pz rfl (bG 12) rfl (.nil))))) ?_
 obtain⟨hX,sk,h⟩:=aC h
 refine dU sk (c2 (b:= { bW:=9,b6:=ByteArray.mk #[103],fz:=4:fm }) rfl r5 qL (.cons qu rfl (bG 9) rfl (.cons rn rfl (dy (ByteArray.mk #[103])) rfl (.cons pz rfl (bG 4) rfl (.nil))))) ?_
 obtain⟨hY,sm,h⟩:=aC h
 refine dU sm (j5 (r:= [bJ,en,fP,{ bW:=4,b6:=ByteArray.mk #[97],fz:=4:fm },{ bW:=5,b6:=ByteArray.mk #[98],fz:=4:fm },hz,gJ,iB,hX]) Tryz.underlying23 zT qL rfl rfl (.cons (by simp) (ad rfl) (.cons (by simp) (ad rfl) (.cons (by simp) (ad rfl) (.cons (by simp) (ad rfl) (.cons (by simp) (ad rfl) (.cons (by simp) (ad rfl) (.cons (by simp) (ad rfl) (.cons (by simp) (ad rfl) (.cons (by simp) (ad rfl) (.nil))))))))))) ?_
 refine bj (bc Dr) ?_
 obtain⟨lN,we,h⟩:=aC h
 refine ah.xx (i:=2) ((aP.id a2).comp B0) (v:=(hY:List fm)) (b':=(lN:a2)) Aj (ad rfl) (ad rfl) rfl rfl (aT we) (by rfl) ?_
 refine cc ?_
 refine ia ([4,5,6]:List Int) Tryz.underlying41 cf lk ?_
 obtain⟨jh,vL,h⟩:=aC h
 refine dU vL (c2 (b:= { bW:=1,b6:=ByteArray.mk #[111,110,101],hP:=([4,5,6]:List Int):jJ }) rfl Hn DL (.cons Ft rfl (bG 1) rfl (.cons Fk rfl (dy (ByteArray.mk #[111,110,101])) rfl (.cons Fa rfl (ad rfl) rfl (.nil))))) ?_
 refine ia ([7]:List Int) Tryz.underlying41 cf lk ?_
 obtain⟨kC,vM,h⟩:=aC h
 refine dU vM (c2 (b:= { bW:=2,b6:=ByteArray.mk #[116,119,111],hP:=([7]:List Int):jJ }) rfl Hn DL (.cons Ft rfl (bG 2) rfl (.cons Fk rfl (dy (ByteArray.mk #[116,119,111])) rfl (.cons Fa rfl (ad rfl) rfl (.nil))))) ?_
 refine ia ([8,9]:List Int) Tryz.underlying41 cf lk ?_
 obtain⟨mb,vN,h⟩:=aC h
 refine dU vN (c2 (b:= { bW:=3,b6:=ByteArray.mk #[116,104,114,101,101],hP:=([8,9]:List Int):jJ }) rfl Hn DL (.cons Ft rfl (bG 3) rfl (.cons Fk rfl (dy (ByteArray.mk #[116,104,114,101,101])) rfl (.cons Fa rfl (ad rfl) rfl (.nil))))) ?_
 refine ia [jh,kC,mb] Tryz.underlying24 VQ DL ?_
 refine bj (bc Ug) ?_
 refine ah.xx (i:=2) ((aP.id a2).comp P6) (v:=([jh,kC,mb]:List jJ)) (b':=(({ lN with tp:= [jh,kC,mb] } :a2):a2)) Od (ad rfl) (ad rfl) rfl rfl rfl (by rfl) ?_
 refine cc ?_
 refine aL ?_
 refine ah.b2 5 rfl ?_
 obtain⟨bm,hh,h⟩:=aC h
 refine gz 1 XO (Qu hh) fun hJ=> ?_
 refine aL ?_
 refine ah.b2 0 rfl ?_
 obtain⟨cD,h9,h⟩:=aC h
 refine gz 1 XP (Qm h9) fun uq=> ?_
 refine aL ?_
 refine ah.b2 0 rfl ?_
 obtain⟨c8,jS,h⟩:=aC h
 refine gz 1 XQ (Qv jS) fun iX=> ?_
 refine bj (bc Uh) ?_
 obtain⟨kU,Al,h⟩:=aC h
 refine ah.xx (i:=3) ((aP.id a2).comp Qf) (v:=(bm.1:List dB)) (b':=(kU:a2)) Oe (ad rfl) (ad rfl) rfl rfl (aT Al) (by rfl) ?_
 refine bj (bc Ui) ?_
 refine ah.xx (i:=3) ((aP.id a2).comp P7) (v:=(cD.1:List ee)) (b':=(({ kU with fu:=cD.1 } :a2):a2)) Of (ad rfl) (ad rfl) rfl rfl rfl (by rfl) ?_
 refine bj (bc qG) ?_
 obtain⟨ll,Am,h⟩:=aC h
 refine ah.xx (i:=3) ((aP.id a2).comp qq) (v:=(c8.1:List bx)) (b':=(ll:a2)) pL (ad rfl) (ad rfl) rfl rfl (aT Am) (by rfl) ?_
 refine cc ?_
 refine aL ?_
 refine bj (bc qG) ?_
 refine YS 3 qq pL ?_
 refine ah.b2 0 rfl ?_
 obtain⟨eU,kB,h⟩:=aC h
 refine gz 1 XR (QE kB) fun mY=> ?_
 refine bj (bc Uj) ?_
 refine ah.xx (i:=3) ((aP.id a2).comp Qn) (v:=(eU.1:List cG)) (b':=(({ ll with oi:=eU.1 } :a2):a2)) Og (ad rfl) (ad rfl) rfl rfl rfl (by rfl) ?_
 refine cc ?_
 refine jQ z3 tK { et:=1,h2:=1:fD } (kT yM (kT Ff .nil)) ?_
 refine jQ z3 tK { et:=2,h2:=2:fD } (kT yM (kT Ff .nil)) ?_
 refine jQ z3 tK ({ (default:fD) with et:=3 } :fD) (kT yM .nil) ?_
 refine jQ z3 tK { et:=4,h2:=3:fD } (kT yM (kT Ff .nil)) ?_
 obtain⟨oG,An,h⟩:=aC h
 refine ah.Oa (α:=fD) (r0:= [{ et:=1,h2:=1:fD },{ et:=2,h2:=2:fD },({ (default:fD) with et:=3 } :fD),{ et:=4,h2:=3:fD }]) (r:=oG) Tryz.underlying28 Ho tK rfl rfl (.cons (by simp) (ad rfl) (.cons (by simp) (ad rfl) (.cons (by simp) (ad rfl) (.cons (by simp) (ad rfl) (.nil))))) (aT An) rfl fun h6=> ?_
 refine bj (bc GR) ?_
 refine ah.kq (i:=4) (γ:=fD) (b':=(({ ({ ll with oi:=eU.1 } :a2) with nF:= [] } :a2):a2)) (os':= [(5,bf h6 oG.length 4),(7,bf none ([]:List e3).length 0)]) ((aP.id a2).comp Fb) DY (ad rfl) (ad rfl) jy rfl rfl rfl rfl ?_
 refine cm ?_
 refine aM ?_
 refine aL ?_
 refine ah.b2 1 rfl ?_
 obtain⟨e9,sl,h⟩:=aC h
 refine gz 1 nV (nC sl) fun BA=> ?_
 refine a0 ?_
 obtain⟨bq,cn,h⟩:=aC h
 refine lj (γ:=(Option Nat × Nat)) [0,2,3,51] (fun ax=> []) (fun ax=> [(1,⟨ax.1,.row 113 (bq:List fD) ax.2⟩),(4,⟨some bh,.bZ (({ ({ ll with oi:=eU.1 } :a2) with nF:= [] } :a2):a2) [(5,bf ax.1 bq.length ax.2),(7,bf none ([]:List e3).length 0)]⟩)]) (fun ax=> ?_) (fun hm ag=> ?_) fun hm ag=> ?_
 ·clear cn
  refine aj.next ?_
  refine ak.seq ?_
  refine aM ?_
  refine aL ?_
  refine ah.b2 0 rfl ?_
  obtain⟨gm,sn,h⟩:=aC h
  refine gz 1 nV (nC sn) fun jm=> ?_
  refine a0 ?_
  obtain⟨cx,ed,h⟩:=aC h
  refine lj (γ:=(Option Nat × Nat)) [0,2,3,51,59] (fun a5=> []) (fun a5=> [(4,⟨some bh,.bZ (cx.1:a2) [(5,bf ax.1 bq.length ax.2),(7,bf a5.1 cx.2.length a5.2)]⟩),(5,⟨a5.1,.row 115 (cx.2:List e3) a5.2⟩)]) (fun a5=> ?_) (fun hm ag=> ?_) fun hm ag=> ?_
  ·clear ed
   refine aj.next ?_
   refine ak.seq ?_
   refine aM ?_
   refine aL ?_
   refine ah.b2 0 rfl ?_
   obtain⟨iD,wh,h⟩:=aC h
   refine gz 1 nV (nC wh) fun iC=> ?_
   refine aL ?_
   refine gH (bc qG) ?_
   refine fB (fun hb=>C6 (i:=4) ((aP.id a2).comp qq) (r:=cx.1.cA) pL (cy rfl hb) rfl rfl rfl (by rfl)) ?_
   obtain⟨bn,dJ,h⟩:=aC h
   refine fB (fun hb=>r1 (k:=bn) Tryz.underlying27 hv (cy rfl hb) (bG 2) (eh (gr dJ hb))) ?_
   refine fB (fun hb=>DM kJ mC (cy rfl hb) rfl rfl) ?_
   refine gH (fy l2) ?_
   refine gH (iq Tryz.underlying40) ?_
   refine mP ir ?_
   refine lE ?_
   refine a0 ?_
   obtain⟨eg,fh,h⟩:=aC h
   refine lj (γ:=(Option Nat × Nat)) [0,2,3,51,59,76] (fun bH=> []) (fun bH=> [(4,⟨some bh,.bZ (eg.1:a2) [(5,bf ax.1 bq.length ax.2),(7,bf bH.1 eg.2.length bH.2)]⟩),(5,⟨bH.1,.row 115 (eg.2:List e3) bH.2⟩)]) (fun bH=> ?_) (fun hm ag=> ?_) fun hm ag=> ?_
   ·clear fh
    refine aj.next ?_
    refine ak.seq ?_
    refine aM ?_
    refine aL ?_
    refine ah.b2 0 rfl ?_
    obtain⟨ib,r9,h⟩:=aC h
    refine gz 1 nV (nC r9) fun Ik=> ?_
    refine aL ?_
    refine gH (bc qG) ?_
    refine fB (fun hb=>C6 (i:=4) ((aP.id a2).comp qq) (r:=eg.1.cA) pL (cy rfl hb) rfl rfl rfl (by rfl)) ?_
    obtain⟨c3,dj,h⟩:=aC h
    refine fB (fun hb=>r1 (k:=c3) Tryz.underlying27 hv (cy rfl hb) (bG 3) (eh (gr dj hb))) ?_
    refine fB (fun hb=>DM kJ mC (cy rfl hb) rfl rfl) ?_
    refine gH (fy l2) ?_
    refine gH (iq Tryz.underlying40) ?_
    refine mP ir ?_
    refine lE ?_
    refine a0 ?_
    obtain⟨pv,AM,h⟩:=aC h
    refine lj (γ:=(Option Nat × Nat)) [0,2,3,51,59,76,93] (fun c9=> []) (fun c9=> [(4,⟨some bh,.bZ (pv.1:a2) [(5,bf ax.1 bq.length ax.2),(7,bf c9.1 pv.2.length c9.2)]⟩),(5,⟨c9.1,.row 115 (pv.2:List e3) c9.2⟩)]) (fun c9=> ?_) (fun hm ag=> ?_) fun hm ag=> ?_
    ·clear AM
     refine aj.next ?_
     refine aM ?_
     refine ah.l6 (β:=a2) (γ:=fD) (b':=(({ pv.1 with nF:=bq } :a2):a2)) ((aP.id a2).comp Fb) 4 1 0 rfl rfl rfl rfl rfl rfl ?_
     refine ah.l6 (β:=a2) (γ:=e3) (b':=(({ ({ pv.1 with nF:=bq } :a2) with oo:=pv.2 } :a2):a2)) ((aP.id a2).comp B8) 4 5 0 rfl rfl rfl rfl rfl rfl ?_
     refine ah.ov 4 rfl ?_
     obtain⟨pk,Ao,h⟩:=aC h
     refine dU Ao (fl (i:=4) (aP.id a2) (r:=({ ({ pv.1 with nF:=bq } :a2) with oo:=pv.2 } :a2)) h5 (ad rfl) rfl rfl rfl) ?_
     refine dh 7 h5 ?_
     refine a0 ?_
     refine ak.ret ?_
     refine aj.b2 0 rfl ?_
     obtain rfl:=aT h
     exact aj.gF () (.cons_cons _ (List.nil_sublist _)) rfl rfl (nc (i:=7) h5 rfl rfl)
    ·have h:=hC ag AM
     refine ak.cU ?_
     refine bj (bc xy) ?_
     refine bp (il (i:=4) (q:=1) (β:=a2) (γ:=e3) vS (ad rfl) rfl rfl) ?_
     obtain⟨ng,HS,h⟩:=aC h
     refine dU HS (c2 (b:=({ (default:e3) with et:=4,vz:=1,pC:=1 } :e3)) rfl DN qM (.cons Cr rfl (bG 4) rfl (.cons J6 rfl (bG 1) rfl (.cons B9 rfl (bG 1) rfl (.nil))))) ?_
     obtain⟨so,Ap,h⟩:=aC h
     refine dU Ap (c2 (b:=({ (default:e3) with et:=4,m6:=5,pC:=1 } :e3)) rfl DN qM (.cons Cr rfl (bG 4) rfl (.cons JX rfl (bG 5) rfl (.cons B9 rfl (bG 1) rfl (.nil))))) ?_
     refine ia [ng,so] Tryz.underlying30 xK qM ?_
     obtain⟨hU,Ar,h⟩:=aC h
     refine oE 5 Tryz.underlying30 xK qM Ar fun mM gj=> ?_
     refine bj (bc xy) ?_
     refine ah.kq (i:=4) (γ:=e3) (b':=(({ eg.1 with oo:= [] } :a2):a2)) (os':= [(5,bf ax.1 bq.length ax.2),(7,bf mM hU.length gj)]) ((aP.id a2).comp B8) vS (ad rfl) (ad rfl) jy rfl rfl rfl rfl ?_
     refine ah.nil ?_
     obtain rfl:=aT h
     exact dI 0 (hm (mM,gj))
    ·have h:=hD ag AM
     refine ak.skip ?_
     obtain rfl:=aT h
     exact dI 0 (hm (bH.1,bH.2))
   ·have h:=hC ag fh
    refine ak.cU ?_
    refine bj (bc xy) ?_
    refine bp (il (i:=4) (q:=1) (β:=a2) (γ:=e3) vS (ad rfl) rfl rfl) ?_
    obtain⟨q0,xR,h⟩:=aC h
    refine dU xR (c2 (b:=({ (default:e3) with et:=3,vz:=2,pC:=1 } :e3)) rfl DN qM (.cons Cr rfl (bG 3) rfl (.cons J6 rfl (bG 2) rfl (.cons B9 rfl (bG 1) rfl (.nil))))) ?_
    refine ia [q0] Tryz.underlying30 xK qM ?_
    obtain⟨e6,vP,h⟩:=aC h
    refine oE 5 Tryz.underlying30 xK qM vP fun oB sa=> ?_
    refine bj (bc xy) ?_
    refine ah.kq (i:=4) (γ:=e3) (b':=(({ cx.1 with oo:= [] } :a2):a2)) (os':= [(5,bf ax.1 bq.length ax.2),(7,bf oB e6.length sa)]) ((aP.id a2).comp B8) vS (ad rfl) (ad rfl) jy rfl rfl rfl rfl ?_
    refine ah.nil ?_
    obtain rfl:=aT h
    exact dI 0 (hm (oB,sa))
   ·have h:=hD ag fh
    refine ak.skip ?_
    obtain rfl:=aT h
    exact dI 0 (hm (a5.1,a5.2))
  ·have h:=hC ag ed
   refine ak.cU ?_
   refine bj (bc xy) ?_
   refine bp (il (i:=4) (q:=1) (β:=a2) (γ:=e3) vS (ad rfl) rfl rfl) ?_
   obtain⟨Il,XS,h⟩:=aC h
   refine dU XS (c2 (b:=({ (default:e3) with et:=2,m6:=4,pC:=1 } :e3)) rfl DN qM (.cons Cr rfl (bG 2) rfl (.cons JX rfl (bG 4) rfl (.cons B9 rfl (bG 1) rfl (.nil))))) ?_
   refine ia [Il] Tryz.underlying30 xK qM ?_
   obtain⟨fx,vR,h⟩:=aC h
   refine oE 5 Tryz.underlying30 xK qM vR fun xS vQ=> ?_
   refine bj (bc xy) ?_
   refine ah.kq (i:=4) (γ:=e3) (b':=(({ ({ ({ ll with oi:=eU.1 } :a2) with nF:= [] } :a2) with oo:= [] } :a2):a2)) (os':= [(5,bf ax.1 bq.length ax.2),(7,bf xS fx.length vQ)]) ((aP.id a2).comp B8) vS (ad rfl) (ad rfl) jy rfl rfl rfl rfl ?_
   refine ah.nil ?_
   obtain rfl:=aT h
   exact dI 0 (hm (xS,vQ))
  ·have h:=hD ag ed
   refine ak.skip ?_
   obtain rfl:=aT h
   exact dI 0 (hm (none,0))
 ·have h:=hC ag cn
  refine ak.cU ?_
  refine bj (bc GR) ?_
  refine bp (il (i:=4) (q:=0) (β:=a2) (γ:=fD) DY (ad rfl) rfl rfl) ?_
  refine jQ z3 tK ({ (default:fD) with et:=1 } :fD) (kT yM .nil) ?_
  refine ia [({ (default:fD) with et:=1 } :fD)] Tryz.underlying28 Ho tK ?_
  obtain⟨ke,As,h⟩:=aC h
  refine oE 1 Tryz.underlying28 Ho tK As fun vO Oh=> ?_
  refine bj (bc GR) ?_
  refine ah.kq (i:=4) (γ:=fD) (b':=(({ ({ ll with oi:=eU.1 } :a2) with nF:= [] } :a2):a2)) (os':= [(5,bf vO ke.length Oh),(7,bf none ([]:List e3).length 0)]) ((aP.id a2).comp Fb) DY (ad rfl) (ad rfl) jy rfl rfl rfl rfl ?_
  refine ah.nil ?_
  obtain rfl:=aT h
  exact dI 0 (hm (vO,Oh))
 ·have h:=hD ag cn
  refine ak.skip ?_
  obtain rfl:=aT h
  exact dI 0 (hm (h6,4))
theorem Rs {ab:b1} {r:b1} (h:Cx ab=some r):cl Tryz.prog 86 [I.of (ab)] (I.of (r)):=by
 unfold Cx at h
 refine cl.of Tryz.func86 rfl Tryz.ntmps86 rfl fun W A=> ?_
 refine aM ?_
 refine cM fun ba=> ?_
 refine dL HU fun bh=> ?_
 refine cm ?_
 obtain⟨aG,bF,h⟩:=aC h
 obtain⟨aQ,cR,h⟩:=aC h
 refine ak.draw mixed 7 [some 3,some 4,some 5,some 6,some 7,some 8,some 9] [[],[0],[1],[],[3],[4],[]] [.val _,.val _,.val _,.val _,.val _,.val _,.val _] [false,false,false,false,false,false,false] (by kernel_rfl) rfl rfl rfl (fun eL=>⟨H1 (bc o6),hT 1 ob oA,jg VR (PZ bF),H1 (bc Ms),hT 1 JY HV,jg VS (P0 cR),H1 (bc o6),trivial⟩) fun eL=> ?_
 refine si 1 ob oA ?_
 refine bj (bc Ms) ?_
 obtain⟨bJ,eC,h⟩:=aC h
 refine YT 1 JY HV (hb:=by exact eC) ?_
 refine cc ?_
 refine cV 1 iS ?_
 refine dh 0 iS ?_
 refine a0 ?_
 refine ak.ret ?_
 obtain rfl:=aT h
 exact aj.mL rfl (jR 0 iS)
theorem QY {ab:b1} {al:b1} {r:Bool} (h:yW ab al=some r):cl Tryz.prog 230 [I.of (ab),I.of (al)] (I.of (r)):=by
 unfold yW at h
 refine cl.of Tryz.func230 rfl Tryz.ntmps230 rfl fun W A=> ?_
 refine aM ?_
 refine cM fun ba=> ?_
 refine cM fun bh=> ?_
 refine aW ?_
 refine cc ?_
 refine bj (bc GS) ?_
 refine dg 1 Ca cf ?_
 refine bj (bc GS) ?_
 refine dg 0 Ca cf ?_
 refine bQ ir ?_
 refine aL ?_
 refine gH (bc o6) ?_
 refine fB (fun hb=>fl (i:=1) ((aP.id b1).comp ob) (r:=ab.cd) oA (cy rfl hb) rfl rfl rfl) ?_
 refine gH (bc o6) ?_
 refine fB (fun hb=>fl (i:=0) ((aP.id b1).comp ob) (r:=al.cd) oA (cy rfl hb) rfl rfl rfl) ?_
 obtain⟨aG,bF,h⟩:=aC h
 refine fB (fun hb=>k7 VT (P1 (gr bF hb)) ⟨cy rfl hb,cy rfl hb,trivial⟩) ?_
 refine lE ?_
 refine aL ?_
 refine gH (bc zH) ?_
 refine fB (fun hb=>fl (i:=1) ((aP.id b1).comp yE) (r:=ab.jv) cf (cy rfl hb) rfl rfl rfl) ?_
 refine gH (bc zH) ?_
 refine fB (fun hb=>fl (i:=0) ((aP.id b1).comp yE) (r:=al.jv) cf (cy rfl hb) rfl rfl rfl) ?_
 refine mP ir ?_
 refine lE ?_
 refine aW ?_
 refine a0 ?_
 refine ak.ret ?_
 obtain rfl:=aT h
 exact ez
theorem QM {hp:aH Cell} {ab:jI} {al:aA} {r:(aH Cell)} (h:yS hp ab al=some r):bN Tryz.prog 194 [I.of (ab),I.of (al)] ([] ++ aZ hp) (δ:=Unit) (fun d=>I.eA []) (fun d=> [] ++ aZ r):=by
 unfold yS at h
 refine bN.of Tryz.func194 rfl Tryz.ntmps194 rfl fun W A=> ?_
 refine aM ?_
 refine cM fun ba=> ?_
 refine cM fun bh=> ?_
 refine a0 ?_
 obtain⟨aG,bF,h⟩:=aC h
 refine ak.draw mixed 7 [some 4,some 5,some 6,some 7,some 8,some 9,some 10] [[],[0],[],[2],[3],[],[5]] [.val _,.val _,.val _,.val _,.val _,.val _,.val _] [false,false,false,false,false,false,false] (by kernel_rfl) rfl rfl rfl (fun eL=>⟨H1 (bc C4),hT 1 yP zX,H1 (bc oq),hT 0 nB iS,jg DF (Cu bF),H1 (bc nM),hT 0 m3 cf,trivial⟩) fun eL=> ?_
 obtain⟨aQ,cR,h⟩:=aC h
 refine ah.kM 2 0 rfl VU (QS cR) rfl rfl ⟨ad rfl,ad rfl,ad rfl,trivial⟩ rfl fun aN=> ?_
 refine ah.eH (L2:=(⟨some bh,.var (al:aA)⟩ :: ⟨some ba,.var (ab:jI)⟩ :: aZ aQ.2)) rfl ?_
 refine ah.nil ?_
 refine aj.oz ?_
 obtain rfl:=aT h
 exact aj.lY () (.cons _ (.cons _ (.refl _))) rfl rfl
theorem Qo {ab:ca} {al:Int} {r:Int} (h:Fg ab al=some r):cl Tryz.prog 237 [I.ptr ab,I.of (al)] (I.of (r)):=by
 unfold Fg at h
 refine cl.of Tryz.func237 rfl Tryz.ntmps237 rfl fun W A=> ?_
 refine aM ?_
 refine cM fun ba=> ?_
 refine aW ?_
 refine cm ?_
 refine aM ?_
 refine aL ?_
 refine bp (Tp Tryz.underlying131 (ad rfl)) ?_
 refine a0 ?_
 refine ak.tI (ad rfl) rfl ?_
 refine dT ?_
 refine aM ?_
 refine aL ?_
 refine bj GU ?_
 refine Ej w8 rM ?_
 refine bj (fy qT) ?_
 refine ah.share (α:=Int) 0 3 rfl rfl ?_
 refine bp (Dq (F:=(fun hy=>uC hy al)) (τs:= [I.ptr al]) M9 ⟨ad rfl,trivial⟩ (fun _ _ h=>JP h)) ?_
 obtain⟨aG,bF,h⟩:=aC h
 refine gY N9 (JM bF) ?_
 refine aW ?_
 refine a0 ?_
 refine ak.ret ?_
 obtain rfl:=aT h
 exact ez
theorem Fx {ab:Int} {al:Int} {r:Int} (h:uR ab al=some r):cl Tryz.prog 106 [I.of (ab),I.of (al)] (I.of (r)):=by
 unfold uR at h
 refine cl.of Tryz.func106 rfl Tryz.ntmps106 rfl fun W A=> ?_
 refine aM ?_
 refine aW ?_
 refine cc ?_
 refine aL ?_
 obtain⟨aG,bF,h⟩:=aC h
 refine gY Nb (Kd bF) ?_
 refine aW ?_
 refine cc ?_
 refine aL ?_
 obtain⟨aQ,cR,h⟩:=aC h
 refine gY Nb (Kd cR) ?_
 refine aW ?_
 refine cm ?_
 refine aM ?_
 refine aL ?_
 refine a0 ?_
 refine dz h (fun h=>?_) fun h=>?_
 ·refine ak.seq ?_
  refine aM ?_
  refine aL ?_
  refine a0 ?_
  refine dz h (fun h=>?_) fun h=>?_
  ·refine aM ?_
   refine aW ?_
   refine a0 ?_
   refine ak.ret ?_
   refine aj.ret ?_
   refine aj.ret ?_
   obtain rfl:=aT h
   exact ez
  ·refine dT ?_
   refine aM ?_
   refine aW ?_
   refine a0 ?_
   refine ak.ret ?_
   refine aj.ret ?_
   obtain rfl:=aT h
   exact ez
 ·refine dT ?_
  refine ak.seq ?_
  refine aM ?_
  refine aL ?_
  refine a0 ?_
  refine dz h (fun h=>?_) fun h=>?_
  ·refine aM ?_
   refine aW ?_
   refine a0 ?_
   refine ak.ret ?_
   refine aj.ret ?_
   obtain rfl:=aT h
   exact ez
  ·refine dT ?_
   refine ak.seq ?_
   refine aM ?_
   refine aL ?_
   refine aL ?_
   refine bQ hf ?_
   refine a0 ?_
   refine dz h (fun h=>?_) fun h=>?_
   ·refine aM ?_
    refine aW ?_
    refine a0 ?_
    refine ak.ret ?_
    refine aj.ret ?_
    obtain rfl:=aT h
    exact ez
   ·refine dT ?_
    refine ak.seq ?_
    refine aM ?_
    refine aL ?_
    refine aL ?_
    refine bQ xI ?_
    refine a0 ?_
    refine dz h (fun h=>?_) fun h=>?_
    ·refine aM ?_
     refine aW ?_
     refine a0 ?_
     refine ak.ret ?_
     refine aj.ret ?_
     obtain rfl:=aT h
     exact ez
    ·refine dT ?_
     refine aM ?_
     refine aW ?_
     refine a0 ?_
     refine ak.ret ?_
     obtain rfl:=aT h
     exact ez
theorem Qw {hp:aH Cell} {ab:Ref} {al:Vector aw 4} {r:Bool × (aH Cell)} (h:Cb hp ab al=some r):bN Tryz.prog 199 [I.of (ab),I.of (al)] ([] ++ aZ hp) (δ:=Unit) (fun d=>I.of (r.1)) (fun d=> [] ++ aZ r.2):=by
 unfold Cb at h
 refine bN.of Tryz.func199 rfl Tryz.ntmps199 rfl fun W A=> ?_
 refine aM ?_
 refine cM fun ba=> ?_
 refine aW ?_
 refine cm ?_
 refine aM ?_
 refine aL ?_
 refine cV 0 lz ?_
 obtain⟨aG,bF,h⟩:=aC h
 refine ah.iK (fr.iG 1 rfl Hb (Fv bF) ⟨ad rfl,ad rfl,trivial⟩) rfl rfl rfl ?_
 refine aL ?_
 refine gZ ?_
 refine gZ ?_
 refine aW ?_
 refine aW ?_
 refine cc ?_
 refine aL ?_
 refine bj kt ?_
 refine a0 ?_
 refine dz h (fun h=>?_) fun h=>?_
 ·refine aM ?_
  refine aW ?_
  refine a0 ?_
  refine ak.ret ?_
  refine aj.ret ?_
  obtain rfl:=aT h
  exact aj.gF () (.cons _ (.refl _)) rfl rfl (dG rfl)
 ·refine dT ?_
  refine ak.seq ?_
  obtain⟨bT,c7,h⟩:=aC h
  obtain⟨bw,di,h⟩:=aC h
  refine ak.draw mixed 5 [some 15,some 16,some 17,some 18,some 19] [[],[0],[1],[2],[]] [.val _,.val _,.val _,.val _,.val _] [false,false,false,false,false] (by kernel_rfl) rfl rfl rfl (fun eL=>⟨eE,e7 fun L' aq=>dv (eb (ad rfl) c7),H1 (bc C1),e7 fun L' aq=>fv ((aP.id m5).comp yI) (r:=bw.ou) zW (ad rfl) (j7 (fun i e q=>aq i e q rfl) (eK (n:=1) rfl (tA di) rfl)) rfl rfl,fY 0 lz,trivial⟩) fun eL=> ?_
  obtain⟨bU,eS,h⟩:=aC h
  obtain⟨b5,eW,h⟩:=aC h
  obtain⟨b9,kv,h⟩:=aC h
  refine ah.Hp (k':=Cell.nU (gW b5 al)) 1 rfl Tryz.underlying186 DE (lQ (ad rfl) eS) (ad rfl) (qF eW) rfl rfl rfl (aT kv) ?_
  refine cc ?_
  refine aW ?_
  refine a0 ?_
  refine ak.ret ?_
  obtain rfl:=aT h
  exact aj.gF () (.cons _ (.refl _)) rfl rfl (dG rfl)
theorem Qx {al:Int} {aU:aw} {cE:Ref} :zI Tryz.prog 220 [I.ptr al,I.ptr aU,I.ptr cE] (fun v:Int=>I.of v) (fun {σ ε} hq step bX=>qs (σ:=σ) (ε:=ε) al aU cE hq step bX):=by
 refine zI.of Tryz.func220 rfl Tryz.ntmps220 rfl ?_
 intro σ ε γ Ls Lx hq jW nh step bX g0 R h W A u ur
 replace h:qs al aU cE hq step bX R:=h
 unfold qs at h
 refine aM ?_
 refine bj (fy cf) ?_
 refine aL ?_
 refine a0 ?_
 refine ak.block ?_
 refine ak.GV (σ:=Int × (σ)) (ε:=(Int × Bool × (σ)) ⊕ (Int × Int × Int × Bool × Bool × Bool × (ε))) (γ:=γ) (δ:=γ) h (fun s1 ax=> [(0,I.eq u),(1,I.ptr al),(2,I.ptr aU),(3,I.ptr cE),(7,I.of (al)),(8,I.of (s1.1))]) (fun s1 ax=>(Ls s1.2 ax)) (fun aN=>Sum.elim (fun aN=>Exit.exit 0) (fun aN=>Exit.ret) aN) (fun aN ax=>Sum.elim (fun aN=> [(0,I.eq u),(1,I.ptr al),(2,I.ptr aU),(3,I.ptr cE),(7,I.of (al)),(8,I.of (aN.1)),(9,I.of (aN.2.1))]) (fun aN=> [(0,I.eq u),(1,I.ptr al),(2,I.ptr aU),(3,I.ptr cE),(5,I.of (aN.1)),(6,I.of (aN.2.1)),(7,I.of (al)),(8,I.of (aN.2.2.1)),(9,I.of (aN.2.2.2.1)),(19,I.of (aN.2.2.2.2.1)),(23,I.of (aN.2.2.2.2.2.1))]) aN) (fun aN ax=>Sum.elim (fun aN=>(Ls aN.2.2 ax)) (fun aN=>(Lx aN.2.2.2.2.2.2 ax)) aN) g0 rfl (.same rfl (.same rfl (.same rfl (.same rfl (.same rfl (.same rfl .nil)))))) (fun s1 R h ax=> ?_) (fun az h ax=> ?_)
 ·refine aM ?_
  refine bQ hf ?_
  refine cm ?_
  refine ak.cond (ad rfl) (fun ag=> ?_) (fun ag=> ?_)
  ·replace h:=rI ag h
   refine dT ?_
   refine ak.seq ?_
   refine ak.block ?_
   refine aM ?_
   refine aL ?_
   refine aW ?_
   refine cc ?_
   refine aW ?_
   refine cm ?_
   refine ak.seq ?_
   obtain⟨bT,c7,h⟩:=au.cu h
   obtain⟨bw,di,h⟩:=au.cu h
   obtain⟨aG,bF,h⟩:=au.cu h
   refine ak.draw mixed 9 [some 11,some 12,some 13,some 14,some 15,some 16,some 17,some 18,some 19] [[],[],[1],[2],[3],[4],[],[5,6],[0,7]] [.val _,.val _,.val _,.val _,.val _,.val _,.val _,.val _,.val _] [false,false,false,false,false,false,false,false,false] (by kernel_rfl) rfl rfl rfl (fun eL=>⟨H1 (fy cB),H1 (fy Nc),e7 fun L' aq=>dv (eb (ad rfl) c7),H1 (bc vb),e7 fun L' aq=>fv ((aP.id eJ).comp s6) (r:=bw.eu) cf (ad rfl) (j7 (fun i e q=>aq i e q rfl) (Nd (Ls:=Ls) (s:=s1.2) (g:=ax) 0 rfl nh (lU di) rfl)) rfl rfl,mo la,eE,mo la,jg Nf (Kx bF),trivial⟩) fun eL=> ?_
   refine a0 ?_
   obtain⟨bq,cn,h⟩:=au.cu h
   refine ak.cb (γ:=Unit) (fun a5=> [(0,I.eq u),(1,I.ptr al),(2,I.ptr aU),(3,I.ptr cE),(5,I.of (s1.1)),(6,I.of (bq)),(7,I.of (al)),(8,I.of (s1.1)),(9,I.of (decide (s1.1 < al))),(19,I.of (aG))]) (fun a5=>(Ls s1.2 ax)) (ad rfl) (fun a5=> ?_) (fun hm ag=> ?_) (fun hm ag=> ?_)
   ·clear cn
    refine aj.next ?_
    refine aM ?_
    refine aL ?_
    refine aL ?_
    refine ah.Uk (Lin:= []) (Ls:=Ls) (Lx:=Lx) (step:=step) (s:=s1.2) (gg:=ax) rfl ur rfl (ad rfl) h rfl (fun s2 h bH=> ?_) (fun dR h bH=> ?_)
    ·simp only [Sum.elim_inl] at h
     refine ah.eH (L2:=(Ls s2 bH)) rfl ?_
     refine bj kt ?_
     refine a0 ?_
     refine ak.tI (ad rfl) (by first | rfl | (rw [hb]; rfl)) ?_
     refine ak.skip ?_
     refine aj.fV ?_
     refine aj.next ?_
     refine ak.cU ?_
     refine bQ eR ?_
     refine aL ?_
     refine ah.nil ?_
     exact aj.GW h bH 0 rfl (.same rfl (.same rfl (.same rfl (.same rfl (.same rfl (.same rfl .nil))))))
    ·simp only [Sum.elim_inr] at h
     refine ah.eH (L2:=(Lx dR bH)) rfl ?_
     refine bj kt ?_
     refine a0 ?_
     refine ak.Hq (ad rfl) (by first | rfl | (rw [hb]; rfl)) ?_
     refine ak.ret ?_
     refine aj.fS ?_
     refine aj.ret ?_
     exact aj.Dt h bH 0 rfl (by simp) rfl (.same rfl (.same rfl (.same rfl (.same rfl (.same rfl (.same rfl (.same rfl (.same rfl (.same rfl (.same rfl (.same rfl .nil)))))))))))
   ·have h:=hC ag cn
    refine ak.cU ?_
    refine aW ?_
    refine ah.nil ?_
    obtain rfl:=aT h
    exact dI 0 (hm ())
   ·have h:=hD ag cn
    refine ak.skip ?_
    obtain rfl:=aT h
    exact dI 0 (hm ())
  ·replace h:=rJ ag h
   refine ak.exit ?_
   refine aj.exit ?_
   exact aj.Dt h ax 0 rfl (by simp) rfl (.same rfl (.same rfl (.same rfl (.same rfl (.same rfl (.same rfl (.same rfl .nil)))))))
 ·rcases az with az | az
  ·simp only [Sum.elim_inl] at h
   refine aj.jd ?_
   refine aj.oz ?_
   exact aj.lY (⟨⟨(.inl az.2.2:σ ⊕ ε),h⟩,ax⟩: {r // _} × _) (.refl _) rfl rfl
  ·simp only [Sum.elim_inr] at h
   refine aj.fS ?_
   exact aj.lY (⟨⟨(.inr az.2.2.2.2.2.2:σ ⊕ ε),h⟩,ax⟩: {r // _} × _) (.refl _) rfl rfl
theorem Fh {hp:aH Cell} {al:Int} {aU:aw} {cE:Ref} :zJ Tryz.prog 220 [I.ptr al,I.ptr aU,I.ptr cE] hp (fun v:Int=>I.of v) (fun {σ ε} =>mw (σ:=σ) (ε:=ε) hp al aU cE):=by
 refine zJ.of Tryz.func220 rfl Tryz.ntmps220 rfl ?_
 intro σ ε γ Ls Lx jW nh step bX g0 r h W A u ur
 replace h:mw hp al aU cE step bX=some r:=h
 unfold mw at h
 refine aM ?_
 refine bj (fy cf) ?_
 refine aL ?_
 refine a0 ?_
 refine ak.block ?_
 obtain⟨az,an,h⟩:=aC h
 refine ak.tL (σ:=Int × (σ)) (ε:=(Int × Bool × (σ)) ⊕ (Int × Int × Int × Bool × Bool × Bool × (ε))) (γ:=γ) (δ:=γ) an (fun s1 ax=> [(0,I.eq u),(1,I.ptr al),(2,I.ptr aU),(3,I.ptr cE),(7,I.of (al)),(8,I.of (s1.1))]) (fun s1 ax=>(Ls s1.2 ax)) (fun aN=>Sum.elim (fun aN=>Exit.exit 0) (fun aN=>Exit.ret) aN) (fun aN ax=>Sum.elim (fun aN=> [(0,I.eq u),(1,I.ptr al),(2,I.ptr aU),(3,I.ptr cE),(7,I.of (al)),(8,I.of (aN.1)),(9,I.of (aN.2.1))]) (fun aN=> [(0,I.eq u),(1,I.ptr al),(2,I.ptr aU),(3,I.ptr cE),(5,I.of (aN.1)),(6,I.of (aN.2.1)),(7,I.of (al)),(8,I.of (aN.2.2.1)),(9,I.of (aN.2.2.2.1)),(19,I.of (aN.2.2.2.2.1)),(23,I.of (aN.2.2.2.2.2.1))]) aN) (fun aN ax=>Sum.elim (fun aN=>(Ls aN.2.2 ax)) (fun aN=>(Lx aN.2.2.2.2.2.2 ax)) aN) g0 rfl (.same rfl (.same rfl (.same rfl (.same rfl (.same rfl (.same rfl .nil)))))) (fun s1 r h ax=> ?_) (fun ax=> ?_)
 ·clear an
  refine aM ?_
  refine bQ hf ?_
  refine cm ?_
  refine dz h (fun h=>?_) fun h=>?_
  ·refine dT ?_
   refine ak.seq ?_
   refine ak.block ?_
   refine aM ?_
   refine aL ?_
   refine aW ?_
   refine cc ?_
   refine aW ?_
   refine cm ?_
   refine ak.seq ?_
   obtain⟨bT,c7,h⟩:=aC h
   obtain⟨bw,di,h⟩:=aC h
   obtain⟨aG,bF,h⟩:=aC h
   refine ak.draw mixed 9 [some 11,some 12,some 13,some 14,some 15,some 16,some 17,some 18,some 19] [[],[],[1],[2],[3],[4],[],[5,6],[0,7]] [.val _,.val _,.val _,.val _,.val _,.val _,.val _,.val _,.val _] [false,false,false,false,false,false,false,false,false] (by kernel_rfl) rfl rfl rfl (fun eL=>⟨H1 (fy cB),H1 (fy Nc),e7 fun L' aq=>dv (eb (ad rfl) c7),H1 (bc vb),e7 fun L' aq=>fv ((aP.id eJ).comp s6) (r:=bw.eu) cf (ad rfl) (j7 (fun i e q=>aq i e q rfl) (VV (Ls:=Ls) (s:=s1.2) (g:=ax) 0 rfl nh (lU di) rfl)) rfl rfl,mo la,eE,mo la,jg Nf (Kx bF),trivial⟩) fun eL=> ?_
   refine a0 ?_
   obtain⟨bq,cn,h⟩:=aC h
   refine ak.cb (γ:=Unit) (fun a5=> [(0,I.eq u),(1,I.ptr al),(2,I.ptr aU),(3,I.ptr cE),(5,I.of (s1.1)),(6,I.of (bq)),(7,I.of (al)),(8,I.of (s1.1)),(9,I.of (decide (s1.1 < al))),(19,I.of (aG))]) (fun a5=>(Ls s1.2 ax)) (ad rfl) (fun a5=> ?_) (fun hm ag=> ?_) (fun hm ag=> ?_)
   ·clear cn
    refine aj.next ?_
    refine aM ?_
    refine aL ?_
    refine aL ?_
    obtain⟨aQ,cR,h⟩:=aC h
    refine ah.yield (Lin:= []) (Ls:=Ls) (Lx:=Lx) (step:=step) (s:=s1.2) (gg:=ax) rfl ur rfl (ad rfl) cR rfl (fun s2 aD bH=> ?_) (fun dR aD bH=> ?_)
    ·subst aD; simp only [Sum.elim_inl] at h
     refine ah.eH (L2:=(Ls s2 bH)) rfl ?_
     refine bj kt ?_
     refine a0 ?_
     refine ak.tI (ad rfl) (by first | rfl | (rw [hb]; rfl)) ?_
     refine ak.skip ?_
     refine aj.fV ?_
     refine aj.next ?_
     refine ak.cU ?_
     refine bQ eR ?_
     refine aL ?_
     refine ah.nil ?_
     obtain rfl:=aT h
     exact kb bH 0
    ·subst aD; simp only [Sum.elim_inr] at h
     refine ah.eH (L2:=(Lx dR bH)) rfl ?_
     refine bj kt ?_
     refine a0 ?_
     refine ak.Hq (ad rfl) (by first | rfl | (rw [hb]; rfl)) ?_
     refine ak.ret ?_
     refine aj.fS ?_
     refine aj.ret ?_
     obtain rfl:=aT h
     exact hg bH 0
   ·have h:=hC ag cn
    refine ak.cU ?_
    refine aW ?_
    refine ah.nil ?_
    obtain rfl:=aT h
    exact dI 0 (hm ())
   ·have h:=hD ag cn
    refine ak.skip ?_
    obtain rfl:=aT h
    exact dI 0 (hm ())
  ·refine ak.exit ?_
   refine aj.exit ?_
   obtain rfl:=aT h
   exact hg ax 0
 ·clear an
  rcases az with az | az
  ·simp only [Sum.elim_inl] at h
   refine aj.jd ?_
   refine aj.oz ?_
   obtain rfl:=aT h
   exact aj.lY ax (.refl _) rfl rfl
  ·simp only [Sum.elim_inr] at h
   refine aj.fS ?_
   obtain rfl:=aT h
   exact aj.lY ax (.refl _) rfl rfl
theorem yX {ab:aA} {r:aA} (h:lO ab=some r):cl Tryz.prog 58 [I.of (ab)] (I.of (r)):=by
 unfold lO at h
 refine cl.of Tryz.func58 rfl Tryz.ntmps58 rfl fun W A=> ?_
 refine aM ?_
 refine cM fun ba=> ?_
 refine dL iv fun bh=> ?_
 refine cc ?_
 refine bj (bc oq) ?_
 refine dg 1 nB iS ?_
 obtain⟨aG,bF,h⟩:=aC h
 refine gY XT (Rs bF) ?_
 refine bj (bc oq) ?_
 refine si 1 nB iS ?_
 refine cc ?_
 refine cV 1 c6 ?_
 refine dh 0 c6 ?_
 refine a0 ?_
 refine ak.ret ?_
 obtain rfl:=aT h
 exact aj.mL rfl (jR 0 c6)
theorem Ko {ab:a2} {al:b1} {r:bx × Bool} (h:xj ab al=some r):cl Tryz.prog 170 [I.of (ab),I.of (al)] (I.eA [I.of (r.1),I.of (r.2)]):=by
 unfold xj at h
 refine cl.of Tryz.func170 rfl Tryz.ntmps170 rfl fun W A=> ?_
 refine aM ?_
 refine cM fun ba=> ?_
 refine cM fun bh=> ?_
 refine dL l4 fun cH=> ?_
 refine aW ?_
 refine cc ?_
 refine cV 2 h5 ?_
 refine bj (bc GS) ?_
 refine dg 1 Ca cf ?_
 obtain⟨aG,bF,h⟩:=aC h
 refine gY N6 (Ka bF) ?_
 refine aW ?_
 refine cm ?_
 refine aM ?_
 refine aL ?_
 refine bQ hf ?_
 refine a0 ?_
 refine dz h (fun h=>?_) fun h=>?_
 ·refine aM ?_
  refine jQ Aq l4 (default:bx) .nil ?_
  refine dh 0 hv ?_
  refine aW ?_
  refine a0 ?_
  refine ak.ret ?_
  refine aj.ret ?_
  obtain rfl:=aT h
  exact aj.DX rfl (jR 0 hv) (vK rfl)
 ·refine dT ?_
  refine aM ?_
  refine bj (bc qG) ?_
  refine dg 2 qq pL ?_
  refine aL ?_
  obtain⟨bn,dJ,h⟩:=aC h
  refine lh dJ Tryz.underlying27 hv ?_
  refine bj (fy hv) ?_
  refine dh 0 hv ?_
  refine aW ?_
  refine a0 ?_
  refine ak.ret ?_
  obtain rfl:=aT h
  exact aj.DX rfl (jR 0 hv) (vK rfl)
theorem Qp {hp:aH Cell} {ab:jI} {al:aA} {r:(aH Cell)} (h:yH hp ab al=some r):bN Tryz.prog 195 [I.of (ab),I.of (al)] ([] ++ aZ hp) (δ:=Unit) (fun d=>I.eA []) (fun d=> [] ++ aZ r):=by
 unfold yH at h
 refine bN.of Tryz.func195 rfl Tryz.ntmps195 rfl fun W A=> ?_
 refine aM ?_
 refine cM fun ba=> ?_
 refine cM fun bh=> ?_
 refine a0 ?_
 obtain⟨aG,bF,h⟩:=aC h
 refine ak.draw mixed 5 [some 4,some 5,some 6,some 7,some 8] [[],[0],[],[2],[3]] [.val _,.val _,.val _,.val _,.val _] [false,false,false,false,false] (by kernel_rfl) rfl rfl rfl (fun eL=>⟨H1 (bc C4),hT 1 yP zX,H1 (bc oq),hT 0 nB iS,jg DF (Cu bF),trivial⟩) fun eL=> ?_
 obtain⟨aQ,cR,h⟩:=aC h
 refine ah.kM 2 0 rfl VW (Qw cR) rfl rfl ⟨ad rfl,ad rfl,trivial⟩ rfl fun aN=> ?_
 refine ah.eH (L2:=(⟨some bh,.var (al:aA)⟩ :: ⟨some ba,.var (ab:jI)⟩ :: aZ aQ.2)) rfl ?_
 refine ah.nil ?_
 refine aj.oz ?_
 obtain rfl:=aT h
 exact aj.lY () (.cons _ (.cons _ (.refl _))) rfl rfl
theorem PV {hp:aH Cell} {ab:Ref} {aU:List da} {n0:Nat} {key02_0:Option Nat} {cap02_0:Nat} {r:(List da)} (h:yB hp ab aU=some r):bN Tryz.prog 221 [I.of (ab),I.of (⟨222,some [.pointer (some ⟨n0,0,none⟩)]⟩:Raw)] ([⟨some n0,.bZ ([]:List da) [(0,bf key02_0 aU.length cap02_0)]⟩,⟨key02_0,.row 315 (aU:List da) cap02_0⟩] ++ aZ hp) (δ:=(Option Nat × Nat)) (fun d=>I.eA []) (fun d=> [⟨some n0,.bZ ([]:List da) [(0,bf d.1 (r).length d.2)]⟩,⟨d.1,.row 315 (r:List da) d.2⟩] ++ aZ hp):=by
 unfold yB at h
 refine bN.of Tryz.func221 rfl Tryz.ntmps221 rfl fun W A=> ?_
 refine aM ?_
 refine aL ?_
 refine bp (CB Tryz.underlying289 (ad rfl)) ?_
 refine a0 ?_
 obtain⟨bq,cn,h⟩:=aC h
 refine ak.cb (γ:=(Option Nat × Nat)) (fun ax=> [(0,I.of (ab)),(1,I.of (⟨222,some [.pointer (some ⟨n0,0,none⟩)]⟩:Raw)),(5,I.of (ab.isSome))]) (fun ax=>(⟨some n0,.bZ ([]:List da) [(0,bf ax.1 bq.length ax.2)]⟩ :: ⟨ax.1,.row 315 (bq:List da) ax.2⟩ :: aZ hp)) (ad rfl) (fun ax=> ?_) (fun hm ag=> ?_) (fun hm ag=> ?_)
 ·clear cn
  refine aj.oz ?_
  refine aj.b2 1 rfl ?_
  refine aj.b2 1 rfl ?_
  obtain rfl:=aT h
  exact aj.lY (ax.1,ax.2) (.cons_cons _ (.cons_cons _ (.refl _))) rfl rfl
 ·have h:=hC ag cn
  refine ak.cU ?_
  refine aL ?_
  refine aL ?_
  obtain⟨bT,c7,h⟩:=aC h
  refine bp (dv (eb (ad rfl) c7)) ?_
  refine bj (bc rP) ?_
  obtain⟨bw,di,h⟩:=aC h
  refine bp (fv ((aP.id eJ).comp rp) (r:=bw.bK) dO (ad rfl) (eK (n:=2) rfl (lU di) rfl) rfl rfl) ?_
  refine jQ jf fw (default:aw) .nil ?_
  refine aL ?_
  obtain⟨aG,bF,h⟩:=aC h
  refine ah.sL (eO.kM 2 2 rfl Hg (PW bF) rfl rfl ⟨ad rfl,ad rfl,ad rfl,bG 0,ad rfl,trivial⟩) rfl rfl rfl fun aN=> ?_
  refine ah.eH (L2:=(⟨some n0,.bZ ([]:List da) [(0,bf aN.1 aG.length aN.2)]⟩ :: ⟨aN.1,.row 315 (aG:List da) aN.2⟩ :: aZ hp)) rfl ?_
  refine ah.nil ?_
  obtain rfl:=aT h
  exact dI 0 (hm (aN.1,aN.2))
 ·have h:=hD ag cn
  refine ak.skip ?_
  obtain rfl:=aT h
  exact dI 0 (hm (key02_0,cap02_0))
theorem PX {ab:ca} {al:Int} {cP:Nat} {hQ:Option Nat} {hR:Nat} {r:Bool × ca} (h:uB ab al=some r):bN Tryz.prog 233 [I.eq (.pointer (some ⟨cP,0,none⟩)),I.of (al)] [⟨some cP,.bZ (({ ab with bP:= [] } :ca):ca) [(10,bf hQ ab.bP.length hR)]⟩,⟨hQ,.row 56 (ab.bP:List aA) hR⟩] (δ:=(Option Nat × Nat)) (fun d=>I.of (r.1)) (fun d=> [⟨some cP,.bZ (({ r.2 with bP:= [] } :ca):ca) [(10,bf d.1 (r.2.bP).length d.2)]⟩,⟨d.1,.row 56 (r.2.bP:List aA) d.2⟩]):=by
 unfold uB at h
 refine bN.of Tryz.func233 rfl Tryz.ntmps233 rfl fun W A=> ?_
 refine aM ?_
 refine aW ?_
 refine cc ?_
 refine aL ?_
 refine aL ?_
 obtain⟨aG,bF,h⟩:=aC h
 refine ah.iK (fr.call [0,1] Ng (P5 bF) ⟨ad rfl,ad rfl,trivial⟩ rfl ⟨rfl,rfl,trivial⟩ rfl) rfl rfl rfl ?_
 refine aW ?_
 refine cm ?_
 refine aM ?_
 refine aL ?_
 refine bQ hf ?_
 refine a0 ?_
 refine dz h (fun h=>?_) fun h=>?_
 ·refine aM ?_
  refine aW ?_
  refine a0 ?_
  refine ak.ret ?_
  refine aj.ret ?_
  refine aj.b2 1 rfl ?_
  refine aj.b2 1 rfl ?_
  obtain rfl:=aT h
  exact l9 (hQ,hR)
 ·refine dT ?_
  refine aM ?_
  refine aL ?_
  refine aL ?_
  refine bj dv ?_
  refine bj (bc rM) ?_
  refine bp (il (i:=0) (q:=0) (β:=ca) (γ:=aA) qT (ad rfl) rfl rfl) ?_
  refine aL ?_
  refine aL ?_
  refine bQ eR ?_
  refine ah.b2 1 rfl ?_
  obtain⟨aQ,cR,h⟩:=aC h
  refine gz 1 VX (PM cR) fun aN=> ?_
  refine bj dv ?_
  refine bj (bc rM) ?_
  refine ah.kq (i:=1) (γ:=aA) (b':=(({ ab with bP:= [] } :ca):ca)) (os':= [(10,bf aN.1 aQ.length aN.2)]) ((aP.id ca).comp w8) qT (ad rfl) (ad rfl) jy rfl rfl rfl rfl ?_
  refine cc ?_
  refine aW ?_
  refine a0 ?_
  refine ak.ret ?_
  refine aj.b2 0 rfl ?_
  refine aj.b2 1 rfl ?_
  obtain rfl:=aT h
  exact l9 (aN.1,aN.2)
theorem Rj {ab:aw} {al:Int} {r:Bool} (h:uU ab al=some r):cl Tryz.prog 213 [I.of (ab),I.of (al)] (I.of (r)):=by
 unfold uU at h
 refine cl.of Tryz.func213 rfl Tryz.ntmps213 rfl fun W A=> ?_
 refine aM ?_
 refine cM fun ba=> ?_
 refine aW ?_
 refine cc ?_
 refine cV 0 cB ?_
 obtain⟨aG,bF,h⟩:=aC h
 refine gY VY (Rr bF) ?_
 refine aL ?_
 refine bQ tH ?_
 refine aW ?_
 refine a0 ?_
 refine ak.ret ?_
 obtain rfl:=aT h
 exact ez
theorem Q6 {ab:a2} {al:cJ} {r:Int} (h:y0 ab al=some r):cl Tryz.prog 248 [I.of (ab),I.of (al)] (I.of (r)):=by
 unfold y0 at h
 refine cl.of Tryz.func248 rfl Tryz.ntmps248 rfl fun W A=> ?_
 refine aM ?_
 refine cM fun ba=> ?_
 refine cM fun bh=> ?_
 refine aW ?_
 refine cc ?_
 refine cV 1 h5 ?_
 refine bj (bc Mr) ?_
 refine dg 0 oZ cf ?_
 obtain⟨aG,bF,h⟩:=aC h
 refine gY N7 (Kb bF) ?_
 refine aW ?_
 refine cm ?_
 refine aM ?_
 refine aL ?_
 refine bQ hf ?_
 refine a0 ?_
 refine dz h (fun h=>?_) fun h=>?_
 ·refine aM ?_
  refine aW ?_
  refine a0 ?_
  refine ak.ret ?_
  refine aj.ret ?_
  obtain rfl:=aT h
  exact ez
 ·refine dT ?_
  refine aM ?_
  refine bj (bc Dr) ?_
  refine dg 1 B0 Aj ?_
  refine aL ?_
  obtain⟨bn,dJ,h⟩:=aC h
  refine lh dJ Tryz.underlying23 zT ?_
  refine Ej pz LZ ?_
  refine bj (fy cf) ?_
  refine aW ?_
  refine a0 ?_
  refine ak.ret ?_
  obtain rfl:=aT h
  exact ez
theorem QG {hp:aH Cell} {ab:Ref} {al:aw} {r:Int × Int × Bool} (h:uM hp ab al=some r):bN Tryz.prog 207 [I.of (ab),I.of (al)] ([] ++ aZ hp) (δ:=Unit) (fun _=>I.eA [I.of (r.1),I.of (r.2.1),I.of (r.2.2)]) (fun _=> [] ++ aZ hp):=by
 unfold uM at h
 refine bN.ofM Tryz.func207 rfl Tryz.ntmps207 rfl fun W A=> ?_
 refine aM ?_
 refine cM fun ba=> ?_
 refine aW ?_
 refine aW ?_
 refine aW ?_
 refine cm ?_
 refine ak.seq ?_
 obtain⟨bT,c7,h⟩:=aC h
 obtain⟨bw,di,h⟩:=aC h
 obtain⟨aG,bF,h⟩:=aC h
 refine ak.draw mixed 11 [some 14,some 15,some 16,some 17,some 18,some 19,some 20,some 21,some 22,some 23,some 24] [[],[0],[1],[2],[2],[2,4],[2,5],[2,6],[2,3,7],[2,8],[2,9]] [.val _,.val _,.val _,.val _,.val _,.val _,.val _,.val _,.val _,.val _,.val _] [false,false,false,false,false,false,false,false,false,false,false] (by kernel_rfl) rfl rfl rfl (fun eL=>⟨eE,e7 fun L' aq=>mz Tryz.underlying289 (ad rfl),eE,e8 fun L' aq=>fun hb=>fl (i:=0) (aP.id aw) (r:=al) cB (ad rfl) (aq _ _ rfl rfl) rfl rfl,e8 fun L' aq=>fun hb=>cZ (ad rfl),e8 fun L' aq=>fun hb=>dv (eb (cy rfl hb) (gr c7 hb)),e8 fun L' aq=>fun hb=>bc vb (cy rfl hb),e8 fun L' aq=>fun hb=>fv ((aP.id eJ).comp s6) (r:=bw.eu) cf (cy rfl hb) (j7 (fun i e q=>aq i e q rfl) (eK (n:=1) rfl (lU (gr di hb)) rfl)) rfl rfl,e8 fun L' aq=>fun hb=>k7 VZ (Rj (gr bF hb)) ⟨cy rfl hb,cy rfl hb,trivial⟩,e8 fun L' aq=>fun hb=>kt (cy rfl hb),e7 fun L' aq=>tT (ad rfl) (ad rfl) (fun h=>h),trivial⟩) fun eL=> ?_
 refine a0 ?_
 refine dz h (fun h=>?_) fun h=>?_
 ·refine aM ?_
  refine aW ?_
  refine aW ?_
  refine aW ?_
  refine a0 ?_
  refine ak.ret ?_
  refine aj.ret ?_
  obtain rfl:=aT h
  refine aj.At ?_
  exact aj.Hr () (.cons _ (.refl _)) rfl rfl (dG rfl) (dG rfl) (dG rfl)
 ·refine dT ?_
  refine aM ?_
  refine dL lk fun bh=> ?_
  refine dL lk fun cH=> ?_
  refine dL Em fun fa=> ?_
  refine dh 2 cf ?_
  refine dh 1 cf ?_
  refine dh 0 ix ?_
  refine cc ?_
  refine aL ?_
  obtain⟨bU,eS,h⟩:=aC h
  refine bp (dv (eb (ad rfl) eS)) ?_
  refine bj (bc rP) ?_
  obtain⟨b5,eW,h⟩:=aC h
  refine bp (fv ((aP.id eJ).comp rp) (r:=b5.bK) dO (ad rfl) (eK (n:=4) rfl (lU eW) rfl) rfl rfl) ?_
  refine dL vA fun iA=> ?_
  refine dL lk fun iY=> ?_
  refine dh 1 dO ?_
  refine dh 0 cf ?_
  refine cc ?_
  refine bp (Nh (f:=214) (us:= [.pointer (some ⟨iA,0,none⟩),.pointer (some ⟨iY,0,none⟩),.pointer (some ⟨bh,0,none⟩),.pointer (some ⟨cH,0,none⟩),.pointer (some ⟨fa,0,none⟩)]) ⟨ad rfl,ad rfl,ad rfl,ad rfl,ad rfl,trivial⟩) ?_
  refine dL YU fun mZ=> ?_
  refine dh 0 Im ?_
  refine cc ?_
  refine cV 0 Im ?_
  refine ah.b2 3 rfl ?_
  refine ah.b2 4 rfl ?_
  refine ah.b2 5 rfl ?_
  refine ah.b2 4 rfl ?_
  refine ah.b2 5 rfl ?_
  obtain⟨aQ,cR,h⟩:=aC h
  refine ah.sL (eO.HR (τs:= []) 7 5 rfl Ni (F2 (ad rfl)) (JO cR) rfl rfl trivial) rfl rfl rfl fun aN=> ?_
  refine ah.eH (L2:=(⟨some iA,.var (b5.bK:Ref)⟩ :: ⟨some iY,.var (0:Int)⟩ :: ⟨some bh,.var (aQ.1:Int)⟩ :: ⟨some cH,.var (aQ.2.1:Int)⟩ :: ⟨some fa,.var (aQ.2.2:Bool)⟩ :: ⟨some mZ,.var ((⟨214,some [.pointer (some ⟨iA,0,none⟩),.pointer (some ⟨iY,0,none⟩),.pointer (some ⟨bh,0,none⟩),.pointer (some ⟨cH,0,none⟩),.pointer (some ⟨fa,0,none⟩)]⟩:Raw):Raw)⟩ :: ⟨some ba,.var (al:aw)⟩ :: aZ hp)) rfl ?_
  refine cm ?_
  refine ak.seq ?_
  obtain⟨bm,hh,h⟩:=aC h
  refine ak.draw mixed 7 [some 32,some 33,some 34,some 35,some 36,some 37,some 38] [[],[],[],[2],[3],[4],[0,1,5]] [.val _,.val _,.val _,.val _,.val _,.val _,.val _] [false,false,false,false,false,false,false] (by kernel_rfl) rfl rfl rfl (fun ma=>⟨eE,fY 6 cB,eE,e7 fun L' aq=>dv (eb (ad rfl) eS),H1 (bc vb),e7 fun L' aq=>fv ((aP.id eJ).comp s6) (r:=b5.eu) cf (ad rfl) (j7 (fun i e q=>aq i e q rfl) (eK (n:=7) rfl (lU eW) rfl)) rfl rfl,jg DO (Ct hh),trivial⟩) fun ma=> ?_
  refine a0 ?_
  refine ak.block ?_
  obtain⟨az,an,h⟩:=aC h
  refine FR (hp:=hp) (γ:=Unit) (g0:=()) (Ls:=fun s1 ax=>(⟨some iA,.var (s1.1:Ref)⟩ :: ⟨some iY,.var (s1.2.1:Int)⟩ :: ⟨some bh,.var (s1.2.2.1:Int)⟩ :: ⟨some cH,.var (s1.2.2.2.1:Int)⟩ :: ⟨some fa,.var (s1.2.2.2.2:Bool)⟩ :: ⟨some mZ,.var ((⟨214,some [.pointer (some ⟨iA,0,none⟩),.pointer (some ⟨iY,0,none⟩),.pointer (some ⟨bh,0,none⟩),.pointer (some ⟨cH,0,none⟩),.pointer (some ⟨fa,0,none⟩)]⟩:Raw):Raw)⟩ :: ⟨some ba,.var (al:aw)⟩ :: aZ hp)) (Lx:=fun dR ax=>(⟨some iA,.var (dR.1:Ref)⟩ :: ⟨some iY,.var (dR.2.1:Int)⟩ :: ⟨some bh,.var (dR.2.2.1:Int)⟩ :: ⟨some cH,.var (dR.2.2.2.1:Int)⟩ :: ⟨some fa,.var (dR.2.2.2.2:Bool)⟩ :: ⟨some mZ,.var ((⟨214,some [.pointer (some ⟨iA,0,none⟩),.pointer (some ⟨iY,0,none⟩),.pointer (some ⟨bh,0,none⟩),.pointer (some ⟨cH,0,none⟩),.pointer (some ⟨fa,0,none⟩)]⟩:Raw):Raw)⟩ :: ⟨some ba,.var (al:aw)⟩ :: aZ hp)) (fun s1 ax=> [⟨some iA,.var (s1.1:Ref)⟩,⟨some iY,.var (s1.2.1:Int)⟩,⟨some bh,.var (s1.2.2.1:Int)⟩,⟨some cH,.var (s1.2.2.2.1:Int)⟩,⟨some fa,.var (s1.2.2.2.2:Bool)⟩,⟨some mZ,.var ((⟨214,some [.pointer (some ⟨iA,0,none⟩),.pointer (some ⟨iY,0,none⟩),.pointer (some ⟨bh,0,none⟩),.pointer (some ⟨cH,0,none⟩),.pointer (some ⟨fa,0,none⟩)]⟩:Raw):Raw)⟩,⟨some ba,.var (al:aw)⟩]) (fun dR=> .exit 0) rfl DP rfl Fh an (fun _ _=>rfl) rfl rfl (fun oI s1 r h ax kV kZ kW l D rec sq=> ?_) (fun s1 aD ax D=> ?_) (fun dR aD ax D=> ?_)
  ·clear an
   refine ak.cU ?_
   refine aW ?_
   refine ah.nil ?_
   refine aj.begin 0 rfl sq ?_
   refine ak.block ?_
   refine ak.seq ?_
   refine aM ?_
   refine cV 2 dO ?_
   refine bp (mz Tryz.underlying299 (ad rfl)) ?_
   refine a0 ?_
   refine dz h (fun h=>?_) fun h=>?_
   ·refine ak.exit ?_
    refine aj.exit ?_
    refine aj.Ul rfl ?_
    obtain rfl:=aT h
    exact aj.GX () 0 rfl rfl rfl
   ·refine dT ?_
    refine ak.seq ?_
    obtain⟨lr,q1,h⟩:=aC h
    obtain⟨bn,dJ,h⟩:=aC h
    obtain⟨eo,jT,h⟩:=aC h
    refine kc [0,1,3,4,5,6,7,8,9,10,11,12,13,14,15,16,17,18,19,20,21,22,23,24,25,26,27,28,29,30,31,32,33,34,35,36,37,38,39,40,41] ?_
    refine ak.pG 9 mixed (bk 42 [] (2 :: []) _ :: bk 43 [] [] _ :: bk 44 (0 :: []) [] _ :: bk 45 (2 :: []) [] _ :: bk 46 (1 :: 3 :: []) [] _ :: ⟨some 47,(4 :: []),[],[],fun _=>I.of (bB eo.ct bn),fun _ _=>⟨none,.dead⟩⟩ :: bk 48 [] (3 :: []) _ :: bk 49 (6 :: []) [] _ :: ⟨none,(0 :: 5 :: []),(2 :: []),(2 :: []),fun _=>I.any,fun hd _=>⟨some iA,.var (bB eo.ct bn:Ref)⟩⟩ :: ⟨none,(6 :: 7 :: []),(3 :: []),(3 :: []),fun _=>I.any,fun hd _=>⟨some iY,.var (bE (s1.2.1 + 1):Int)⟩⟩ :: []) _ (0 :: 1 :: 3 :: 4 :: 5 :: 6 :: 7 :: 8 :: 9 :: 10 :: 11 :: 12 :: 13 :: 14 :: 15 :: 16 :: 17 :: 18 :: 19 :: 20 :: 21 :: 22 :: 23 :: 24 :: 25 :: 26 :: 27 :: 28 :: 29 :: 30 :: 31 :: 32 :: 33 :: 34 :: 35 :: 36 :: 37 :: 38 :: 39 :: 40 :: 41 :: []) rfl rfl (by kernel_rfl) (by kernel_rfl) ⟨b8.q (mO 2 dO),b8.q (gb),b8.q (cr fun hd E' L' ay aq=>dv (eb (ad (ay _ _ rfl)) q1)),b8.q (g8 (bc qE)),b8.q (cr fun hd E' L' ay aq=>l3 (k:=bn) r2 (ad (ay _ _ rfl)) (ad (ay _ _ rfl)) (eh dJ)),?_,b8.q (mO 3 cf),b8.q (ym eR),?_,?_,trivial⟩ fun fG=> ?_
    ·intro hd E' L' ay aq ck
     refine bp (fv (((aP.id dn).comp qp).comp (aP.idx (α:=Ref) 2 bn (eh dJ).1)) (r:=bB eo.ct bn) dO (ad (ay _ _ rfl)) (eK (n:=9) (ck.trans rfl) (iO jT) rfl) rfl rfl) ?_
     refine ah.nil ?_
     exact aj.fin (ek []) rfl rfl
    ·intro hd E' L' ay aq ck
     refine ah.store (i:=2) (aP.id Ref) (v:=(bB eo.ct bn:Ref)) (b':=(bB eo.ct bn:Ref)) dO (ad (ay _ _ rfl)) (ad (ay _ _ rfl)) (aq 2 _ rfl rfl) rfl rfl ?_
     refine ah.nil ?_
     exact aj.fin (ek []) rfl rfl
    ·intro hd E' L' ay aq ck
     refine ah.store (i:=3) (aP.id Int) (v:=(bE (s1.2.1 + 1):Int)) (b':=(bE (s1.2.1 + 1):Int)) cf (ad (ay _ _ rfl)) (ad (ay _ _ rfl)) (aq 3 _ rfl rfl) rfl rfl ?_
     refine ah.nil ?_
     exact aj.fin (ek []) rfl rfl
    refine aj.eH (L2:=(⟨some l,.is (.loop { rec with state:= .busy })⟩ :: ⟨some D,.db⟩ :: ⟨some iA,.var (bB eo.ct bn:Ref)⟩ :: ⟨some iY,.var (bE (s1.2.1 + 1):Int)⟩ :: ⟨some bh,.var (s1.2.2.1:Int)⟩ :: ⟨some cH,.var (s1.2.2.2.1:Int)⟩ :: ⟨some fa,.var (s1.2.2.2.2:Bool)⟩ :: ⟨some mZ,.var ((⟨214,some [.pointer (some ⟨iA,0,none⟩),.pointer (some ⟨iY,0,none⟩),.pointer (some ⟨bh,0,none⟩),.pointer (some ⟨cH,0,none⟩),.pointer (some ⟨fa,0,none⟩)]⟩:Raw):Raw)⟩ :: ⟨some ba,.var (al:aw)⟩ :: aZ hp)) rfl ?_
    refine lF [0,1,3,4,5,6,7,8,9,10,11,12,13,14,15,16,17,18,19,20,21,22,23,24,25,26,27,28,29,30,31,32,33,34,35,36,37,38,39,40,41,42,43,44,45,46,47,48,49] ?_
    refine aj.next ?_
    refine ak.cU ?_
    refine cV 7 Im ?_
    refine ah.b2 6 rfl ?_
    refine ah.b2 6 rfl ?_
    refine ah.b2 6 rfl ?_
    refine ah.b2 6 rfl ?_
    refine ah.b2 6 rfl ?_
    obtain⟨cD,h9,h⟩:=aC h
    refine ah.sL (eO.HR (τs:= []) 9 5 rfl Ni (F2 (ad rfl)) (JO h9) rfl rfl trivial) rfl rfl rfl fun hJ=> ?_
    refine ah.eH (L2:=(⟨some iA,.var (bB eo.ct bn:Ref)⟩ :: ⟨some iY,.var (bE (s1.2.1 + 1):Int)⟩ :: ⟨some bh,.var (cD.1:Int)⟩ :: ⟨some cH,.var (cD.2.1:Int)⟩ :: ⟨some fa,.var (cD.2.2:Bool)⟩ :: ⟨some l,.is (.loop { rec with state:= .busy })⟩ :: ⟨some D,.db⟩ :: ⟨some mZ,.var ((⟨214,some [.pointer (some ⟨iA,0,none⟩),.pointer (some ⟨iY,0,none⟩),.pointer (some ⟨bh,0,none⟩),.pointer (some ⟨cH,0,none⟩),.pointer (some ⟨fa,0,none⟩)]⟩:Raw):Raw)⟩ :: ⟨some ba,.var (al:aw)⟩ :: aZ hp)) rfl ?_
    refine ah.nil ?_
    refine aj.fV ?_
    refine aj.b2 6 rfl ?_
    refine aj.b2 6 rfl ?_
    obtain rfl:=aT h
    exact aj.Io () 0 rfl
  ·clear an; subst aD; simp only [Sum.elim_inl] at h
   refine aj.eH (L2:=(⟨some D,.db⟩ :: ⟨some iA,.var (s1.1:Ref)⟩ :: ⟨some iY,.var (s1.2.1:Int)⟩ :: ⟨some bh,.var (s1.2.2.1:Int)⟩ :: ⟨some cH,.var (s1.2.2.2.1:Int)⟩ :: ⟨some fa,.var (s1.2.2.2.2:Bool)⟩ :: ⟨some mZ,.var ((⟨214,some [.pointer (some ⟨iA,0,none⟩),.pointer (some ⟨iY,0,none⟩),.pointer (some ⟨bh,0,none⟩),.pointer (some ⟨cH,0,none⟩),.pointer (some ⟨fa,0,none⟩)]⟩:Raw):Raw)⟩ :: ⟨some ba,.var (al:aw)⟩ :: aZ hp)) rfl ?_
   refine aj.fV ?_
   refine aj.next ?_
   refine ak.seq ?_
   refine kc [0,1,3,6,7,8,9,10,11,12,14,15,16,17,18,19,20,21,22,23,24,25,26,27,28,29,30,31,32,33,34,35,36,37,38] ?_
   refine ak.draw mixed 5 [some 52,some 53,some 54,some 4,some 5] [[],[],[],[0],[1]] [.val _,.val _,.val _,.val _,.val _] [false,false,false,false,false] (by kernel_rfl) rfl rfl rfl (fun Ij=>⟨fY 3 cf,fY 4 cf,fY 5 ix,wS,wS,trivial⟩) fun Ij=> ?_
   refine aW ?_
   refine a0 ?_
   refine ak.ret ?_
   obtain rfl:=aT h
   refine aj.tW 0 rfl rfl ?_
   exact aj.Hr () (.cons _ (.cons _ (.cons _ (.cons _ (.cons _ (.cons _ (.cons _ (.cons _ (.refl _))))))))) rfl rfl (dG rfl) (dG rfl) (dG rfl)
  ·clear an; subst aD; simp only [Sum.elim_inr] at h
   refine ak.exit ?_
   refine aj.eH (L2:=(⟨some D,.db⟩ :: ⟨some iA,.var (dR.1:Ref)⟩ :: ⟨some iY,.var (dR.2.1:Int)⟩ :: ⟨some bh,.var (dR.2.2.1:Int)⟩ :: ⟨some cH,.var (dR.2.2.2.1:Int)⟩ :: ⟨some fa,.var (dR.2.2.2.2:Bool)⟩ :: ⟨some mZ,.var ((⟨214,some [.pointer (some ⟨iA,0,none⟩),.pointer (some ⟨iY,0,none⟩),.pointer (some ⟨bh,0,none⟩),.pointer (some ⟨cH,0,none⟩),.pointer (some ⟨fa,0,none⟩)]⟩:Raw):Raw)⟩ :: ⟨some ba,.var (al:aw)⟩ :: aZ hp)) rfl ?_
   refine aj.jd ?_
   refine aj.next ?_
   refine ak.seq ?_
   refine kc [0,1,3,6,7,8,9,10,11,12,14,15,16,17,18,19,20,21,22,23,24,25,26,27,28,29,30,31,32,33,34,35,36,37,38] ?_
   refine ak.draw mixed 5 [some 52,some 53,some 54,some 4,some 5] [[],[],[],[0],[1]] [.val _,.val _,.val _,.val _,.val _] [false,false,false,false,false] (by kernel_rfl) rfl rfl rfl (fun YV=>⟨fY 3 cf,fY 4 cf,fY 5 ix,wS,wS,trivial⟩) fun YV=> ?_
   refine aW ?_
   refine a0 ?_
   refine ak.ret ?_
   obtain rfl:=aT h
   refine aj.tW 0 rfl rfl ?_
   exact aj.Hr () (.cons _ (.cons _ (.cons _ (.cons _ (.cons _ (.cons _ (.cons _ (.cons _ (.refl _))))))))) rfl rfl (dG rfl) (dG rfl) (dG rfl)
theorem Q7 {ab:c5} {al:Int} {aU:Int} {cE:aw} {r:Bool} (h:y1 ab al aU cE=some r):cl Tryz.prog 247 [I.of (ab),I.of (al),I.of (aU),I.of (cE)] (I.of (r)):=by
 unfold y1 at h
 refine cl.of Tryz.func247 rfl Tryz.ntmps247 rfl fun W A=> ?_
 refine aM ?_
 refine cM fun ba=> ?_
 refine cM fun bh=> ?_
 refine aW ?_
 refine cm ?_
 refine aM ?_
 refine bj (bc Um) ?_
 refine dg 1 uF ix ?_
 refine bj kt ?_
 refine a0 ?_
 refine dz h (fun h=>?_) fun h=>?_
 ·refine aM ?_
  refine aL ?_
  refine bQ nO ?_
  refine aL ?_
  refine gH cZ ?_
  refine mP tH ?_
  refine lE ?_
  refine aW ?_
  refine a0 ?_
  refine ak.ret ?_
  refine aj.ret ?_
  obtain rfl:=aT h
  exact ez
 ·refine dT ?_
  refine ak.seq ?_
  refine aM ?_
  refine aL ?_
  refine a0 ?_
  refine ak.block ?_
  refine aM ?_
  refine bQ ir ?_
  refine aW ?_
  refine a0 ?_
  refine dz h (fun h=>?_) fun h=>?_
  ·refine aM ?_
   refine cV 0 cB ?_
   refine bj (bc zF) ?_
   refine dg 1 py cB ?_
   refine bQ (zU qJ rfl zV rfl) ?_
   refine aW ?_
   refine a0 ?_
   refine ak.ret ?_
   refine aj.fS ?_
   refine aj.ret ?_
   obtain rfl:=aT h
   exact ez
  ·refine aM ?_
   refine bQ ir ?_
   refine aW ?_
   refine a0 ?_
   refine dz h (fun h=>?_) fun h=>?_
   ·refine aM ?_
    refine aL ?_
    refine bj (bc GN) ?_
    refine dg 1 w5 cf ?_
    obtain⟨aG,bF,h⟩:=aC h
    refine gY Nj (Kc bF) ?_
    refine dL fw fun cH=> ?_
    refine dh 0 cB ?_
    refine cm ?_
    obtain⟨aQ,cR,h⟩:=aC h
    obtain⟨bm,hh,h⟩:=aC h
    refine ak.draw mixed 8 [some 32,some 33,some 34,some 35,some 36,some 37,some 38,some 39] [[],[],[0,1],[],[3],[],[4,5],[2,6]] [.val _,.val _,.val _,.val _,.val _,.val _,.val _,.val _] [false,false,false,false,false,false,false,false] (by kernel_rfl) rfl rfl rfl (fun eL=>⟨fY 1 cB,fY 0 cB,jg z4 (y9 cR),H1 (bc zF),hT 2 py cB,fY 0 cB,jg z4 (y9 hh),mo (zU qJ rfl zV rfl),trivial⟩) fun eL=> ?_
    refine aW ?_
    refine a0 ?_
    refine ak.ret ?_
    refine aj.fS ?_
    refine aj.ret ?_
    obtain rfl:=aT h
    exact ez
   ·refine aM ?_
    refine bQ ir ?_
    refine aW ?_
    refine a0 ?_
    refine dz h (fun h=>?_) fun h=>?_
    ·refine ak.seq ?_
     obtain⟨cD,h9,h⟩:=aC h
     refine ak.draw mixed 7 [some 42,some 43,some 44,some 45,some 46,some 47,some 48] [[],[],[1],[0,2],[],[4],[3,5]] [.val _,.val _,.val _,.val _,.val _,.val _,.val _] [false,false,false,false,false,false,false] (by kernel_rfl) rfl rfl rfl (fun ma=>⟨fY 0 cB,H1 (bc Un),hT 1 Ck cB,jg z4 (y9 h9),H1 (bc zF),hT 1 py cB,mo (zU qJ rfl zV rfl),trivial⟩) fun ma=> ?_
     refine aW ?_
     refine a0 ?_
     refine ak.ret ?_
     refine aj.fS ?_
     refine aj.ret ?_
     obtain rfl:=aT h
     exact ez
    ·refine aM ?_
     refine bQ ir ?_
     refine aW ?_
     refine a0 ?_
     refine dz h (fun h=>?_) fun h=>?_
     ·refine aM ?_
      refine bj (bc zF) ?_
      refine dg 1 py cB ?_
      refine cV 0 cB ?_
      obtain⟨c8,jS,h⟩:=aC h
      refine gY Nk (J9 jS) ?_
      refine bQ tH ?_
      refine aL ?_
      refine fB (fun hb=>fl (i:=0) (aP.id aw) (r:=cE) cB (ad rfl) rfl rfl rfl) ?_
      refine gH (bc Uo) ?_
      refine fB (fun hb=>fl (i:=1) ((aP.id c5).comp Cl) (r:=ab.lV) cB (cy rfl hb) rfl rfl rfl) ?_
      obtain⟨eU,kB,h⟩:=aC h
      refine fB (fun hb=>k7 Nk (J9 (gr kB hb)) ⟨cy rfl hb,cy rfl hb,trivial⟩) ?_
      refine mP tH ?_
      refine lE ?_
      refine aW ?_
      refine a0 ?_
      refine ak.ret ?_
      refine aj.fS ?_
      refine aj.ret ?_
      obtain rfl:=aT h
      exact ez
     ·refine ak.skip ?_
      refine aj.fV ?_
      refine aj.next ?_
      refine aM ?_
      refine aW ?_
      refine a0 ?_
      refine ak.ret ?_
      obtain rfl:=aT h
      exact ez
theorem Q9 {ab:List Int} {r:Int} (h:y3 ab=some r):cl Tryz.prog 105 [I.of (ab)] (I.of (r)):=by
 unfold y3 at h
 refine cl.of Tryz.func105 rfl Tryz.ntmps105 rfl fun W A=> ?_
 refine aM ?_
 refine aW ?_
 refine cm ?_
 refine aM ?_
 refine aL ?_
 refine bj (iq Tryz.underlying41) ?_
 refine aL ?_
 refine a0 ?_
 refine ak.block ?_
 obtain⟨az,an,h⟩:=aC h
 refine nZ (γ:=Unit) (δ:=Unit) an [0,5,6] (fun s1 ax=> [(2,I.of (0:Int)),(7,I.of (s1))]) (fun s1 ax=> []) (fun aN=>Sum.elim (fun aN=>Exit.exit 0) (fun aN=>Exit.ret) aN) (fun aN ax=>Sum.elim (fun aN=> [(2,I.of (0:Int)),(7,I.of (aN.1)),(8,I.of (aN.2))]) (fun aN=> [(2,I.of (aN.1)),(4,I.of (aN.2.1)),(7,I.of (aN.2.2.1)),(8,I.of (aN.2.2.2.1)),(12,I.of (aN.2.2.2.2))]) aN) (fun aN ax=>Sum.elim (fun aN=> []) (fun aN=> []) aN) () (fun s1 r h ax=> ?_) fun ax=> ?_
 ·clear an
  refine aM ?_
  refine bQ hf ?_
  refine cm ?_
  refine dz h (fun h=>?_) fun h=>?_
  ·refine dT ?_
   refine ak.seq ?_
   refine ak.block ?_
   refine aM ?_
   obtain⟨bn,dJ,h⟩:=aC h
   refine lh dJ Tryz.underlying41 cf ?_
   refine bj (fy cf) ?_
   refine aW ?_
   refine cc ?_
   refine aL ?_
   refine bQ zZ ?_
   refine a0 ?_
   refine dz h (fun h=>?_) fun h=>?_
   ·refine aM ?_
    refine aL ?_
    refine aW ?_
    refine a0 ?_
    refine ak.ret ?_
    refine aj.fS ?_
    refine aj.ret ?_
    obtain rfl:=aT h
    exact hg () 0
   ·refine ak.skip ?_
    refine aj.fV ?_
    refine aj.next ?_
    refine ak.cU ?_
    refine bQ eR ?_
    refine aL ?_
    refine ah.nil ?_
    obtain rfl:=aT h
    exact kb () 0
  ·refine ak.exit ?_
   refine aj.exit ?_
   obtain rfl:=aT h
   exact hg () 0
 ·clear an
  rcases az with az | az
  ·simp only [Sum.elim_inl] at h
   refine aj.jd ?_
   refine aj.next ?_
   refine aM ?_
   refine aW ?_
   refine a0 ?_
   refine ak.ret ?_
   obtain rfl:=aT h
   exact ez
  ·simp only [Sum.elim_inr] at h
   refine aj.fS ?_
   refine aj.ret ?_
   obtain rfl:=aT h
   exact ez
theorem J2 {hp:aH Cell} {ab:Ref} {al:aw} {aU:Int} {r:Bool} (h:s9 hp ab al aU=some r):bN Tryz.prog 216 [I.of (ab),I.of (al),I.of (aU)] ([] ++ aZ hp) (δ:=Unit) (fun _=>I.of (r)) (fun _=> [] ++ aZ hp):=by
 unfold s9 at h
 refine bN.of Tryz.func216 rfl Tryz.ntmps216 rfl fun W A=> ?_
 refine aM ?_
 refine cM fun ba=> ?_
 refine aW ?_
 refine cm ?_
 obtain⟨bT,c7,h⟩:=aC h
 obtain⟨bw,di,h⟩:=aC h
 obtain⟨bU,eS,h⟩:=aC h
 obtain⟨b5,eW,h⟩:=aC h
 obtain⟨aG,bF,h⟩:=aC h
 obtain⟨aQ,cR,h⟩:=aC h
 obtain⟨bJ,eC,h⟩:=aC h
 refine ak.draw mixed 26 ((some 7) :: (some 8) :: (some 9) :: (some 10) :: (some 11) :: (some 12) :: (some 13) :: (some 14) :: (some 15) :: (some 16) :: (some 17) :: (some 18) :: (some 19) :: (some 20) :: (some 21) :: (some 22) :: (some 23) :: (some 24) :: (some 25) :: (some 26) :: (some 27) :: (some 28) :: (some 29) :: (some 30) :: (some 31) :: (some 32) :: []) ([] :: [0] :: [1] :: [2] :: [2,3] :: [2,4] :: [5] :: [6] :: [6] :: [6,8] :: [6,9] :: [6,10] :: [6,7,11] :: [6,12] :: [13] :: [14] :: [14] :: [14,16] :: [14,17] :: [14,18] :: [14] :: [14,19,20] :: [14,15,21] :: [14] :: [14,22,23] :: [14,24] :: []) (.val _ :: .val _ :: .val _ :: .val _ :: .val _ :: .val _ :: .val _ :: .val _ :: .val _ :: .val _ :: .val _ :: .val _ :: .val _ :: .val _ :: .val _ :: .val _ :: .val _ :: .val _ :: .val _ :: .val _ :: .val _ :: .val _ :: .val _ :: .val _ :: .val _ :: .val _ :: []) (false :: false :: false :: false :: false :: false :: false :: false :: false :: false :: false :: false :: false :: false :: false :: false :: false :: false :: false :: false :: false :: false :: false :: false :: false :: false :: []) (by kernel_rfl) rfl rfl rfl (fun eL=>⟨eE,e7 fun L' aq=>CB Tryz.underlying289 (ad rfl),eE,e8 fun L' aq=>fun hb=>cZ (ad rfl),e8 fun L' aq=>fun hb=>nO (cy rfl hb) (bG 0),e7 fun L' aq=>tG (ad rfl) (ad rfl) (fun h=>h),eE,e8 fun L' aq=>fun hb=>cZ (ad rfl),e8 fun L' aq=>fun hb=>cZ (ad rfl),e8 fun L' aq=>fun hb=>dv (eb (cy rfl hb) (gr c7 hb)),e8 fun L' aq=>fun hb=>bc vb (cy rfl hb),e8 fun L' aq=>fun hb=>fv ((aP.id eJ).comp s6) (r:=bw.eu) cf (cy rfl hb) (j7 (fun i e q=>aq i e q rfl) (eK (n:=1) rfl (lU (gr di hb)) rfl)) rfl rfl,e8 fun L' aq=>fun hb=>tH (cy rfl hb) (cy rfl hb),e7 fun L' aq=>tG (ad rfl) (ad rfl) (fun h=>h),eE,e8 fun L' aq=>fun hb=>fl (i:=0) (aP.id aw) (r:=al) cB (ad rfl) (aq _ _ rfl rfl) rfl rfl,e8 fun L' aq=>fun hb=>cZ (ad rfl),e8 fun L' aq=>fun hb=>dv (eb (cy rfl hb) (gr eS hb)),e8 fun L' aq=>fun hb=>bc vb (cy rfl hb),e8 fun L' aq=>fun hb=>fv ((aP.id eJ).comp s6) (r:=b5.eu) cf (cy rfl hb) (j7 (fun i e q=>aq i e q rfl) (eK (n:=1) rfl (lU (gr eW hb)) rfl)) rfl rfl,e8 fun L' aq=>fun hb=>cZ (ad rfl),e8 fun L' aq=>fun hb=>k7 Nj (Kc (gr bF hb)) ⟨cy rfl hb,cy rfl hb,trivial⟩,e8 fun L' aq=>fun hb=>k7 z4 (y9 (gr cR hb)) ⟨cy rfl hb,cy rfl hb,trivial⟩,e8 fun L' aq=>fun hb=>fl (i:=0) (aP.id aw) (r:=al) cB (ad rfl) (aq _ _ rfl rfl) rfl rfl,e8 fun L' aq=>fun hb=>zU qJ rfl zV rfl (cy rfl hb) (cy rfl hb),Pq eC fun L' aq=>tG (ad rfl) (ad rfl) (fun h=>h),trivial⟩) fun eL=> ?_
 refine aW ?_
 refine a0 ?_
 refine ak.ret ?_
 obtain rfl:=aT h
 exact aj.gF () (.cons _ (.refl _)) rfl rfl (dG rfl)
theorem Rk {ab:List aA} {qK:Option Nat} {fE:Nat} {r:(List aA)} (h:rB ab=some r):bN Tryz.prog 234 [I.eq (bf qK ab.length fE)] [⟨qK,.row 56 (ab:List aA) fE⟩] (δ:=Unit) (fun d=>I.of (r)) (fun d=> [⟨qK,.row 56 (ab:List aA) fE⟩]):=by
 unfold rB at h
 refine bN.of Tryz.func234 rfl Tryz.ntmps234 rfl fun W A=> ?_
 refine aM ?_
 refine bp (e5 (look_nil (α:=aA))) ?_
 refine cc ?_
 refine ah.own (α:=aA) 56 ?_
 refine bp (e5 xn) ?_
 refine cm ?_
 refine aM ?_
 refine aL ?_
 refine bp (rR (i:=1) Tryz.underlying67 (ad rfl) rfl rfl) ?_
 refine aL ?_
 refine a0 ?_
 refine ak.block ?_
 obtain⟨az,an,h⟩:=aC h
 refine nZ (γ:=(Option Nat × Nat)) (δ:=(Option Nat × Nat)) an [0,2,6,7] (fun s1 ax=> [(3,I.eq (bf ax.1 s1.2.length ax.2)),(8,I.of (s1.1))]) (fun s1 ax=> [(0,⟨ax.1,.row 56 (s1.2:List aA) ax.2⟩)]) (fun aN=>Exit.exit 0) (fun aN ax=> [(3,I.eq (bf ax.1 aN.2.2.length ax.2)),(8,I.of (aN.1)),(9,I.of (aN.2.1))]) (fun aN ax=> [(0,⟨ax.1,.row 56 (aN.2.2:List aA) ax.2⟩)]) (none,0) (fun s1 r h ax=> ?_) fun ax=> ?_
 ·clear an
  refine aM ?_
  refine bQ hf ?_
  refine cm ?_
  refine dz h (fun h=>?_) fun h=>?_
  ·refine dT ?_
   refine ak.seq ?_
   refine ak.block ?_
   refine aM ?_
   obtain⟨bn,dJ,h⟩:=aC h
   refine bp (ow (i:=1) (k:=bn) (xs:=(ab:List aA)) Tryz.underlying67 c6 (ad rfl) (ad rfl) rfl (eh dJ)) ?_
   refine bp (vc (i:=1) (k:=bn) (aP.id aA) (r:=(aJ ab bn)) c6 (ad rfl) rfl (eh dJ).1 rfl rfl) ?_
   refine dL iv fun ba=> ?_
   refine dh 0 c6 ?_
   refine a0 ?_
   refine ak.cU ?_
   refine aL ?_
   refine cV 0 c6 ?_
   obtain⟨aG,bF,h⟩:=aC h
   refine gY Au (yX bF) ?_
   refine ia [aG] Tryz.underlying67 c6 iv ?_
   obtain⟨aQ,cR,h⟩:=aC h
   refine oE 1 Tryz.underlying67 c6 iv cR fun h6 gj=> ?_
   refine aW ?_
   refine ah.nil ?_
   refine aj.fV ?_
   refine aj.next ?_
   refine ak.cU ?_
   refine bQ eR ?_
   refine aL ?_
   refine ah.nil ?_
   obtain rfl:=aT h
   exact kb (h6,gj) 1
  ·refine ak.exit ?_
   refine aj.exit ?_
   obtain rfl:=aT h
   exact hg (ax.1,ax.2) 0
 ·clear an
  refine aj.jd ?_
  refine aj.next ?_
  refine aM ?_
  refine aL ?_
  refine aW ?_
  refine a0 ?_
  refine ak.ret ?_
  refine aj.oh (α:=aA) 0 [2,3,18] ⟨rfl,rfl,rfl,trivial⟩ rfl ?_
  refine aj.b2 1 rfl ?_
  obtain rfl:=aT h
  exact l9 ()
theorem Kh {ab:a2} {al:b1} {r:Int} (h:m4 ab al=some r):cl Tryz.prog 150 [I.of (ab),I.of (al)] (I.of (r)):=by
 unfold m4 at h
 refine cl.of Tryz.func150 rfl Tryz.ntmps150 rfl fun W A=> ?_
 refine aM ?_
 refine cM fun ba=> ?_
 refine cM fun bh=> ?_
 refine aW ?_
 refine cc ?_
 refine cV 1 h5 ?_
 refine cV 0 iS ?_
 obtain⟨aG,bF,h⟩:=aC h
 refine gY Nl (Ko bF) ?_
 refine aL ?_
 refine gZ ?_
 refine gZ ?_
 refine dL l4 fun cH=> ?_
 refine dh 0 hv ?_
 refine aW ?_
 refine cc ?_
 refine bj (bc mC) ?_
 refine dg 0 kJ l2 ?_
 obtain⟨aQ,cR,h⟩:=aC h
 refine bp (k7 V0 (PR cR) ⟨ad rfl,SL V1 (fun _ _=>QL),trivial⟩) ?_
 refine aW ?_
 refine cm ?_
 refine aM ?_
 refine aL ?_
 refine bj kt ?_
 refine aL ?_
 refine gH cZ ?_
 refine mP hf ?_
 refine AL ?_
 refine aL ?_
 refine gH cZ ?_
 refine gH (bc o6) ?_
 refine fB (fun hb=>fl (i:=1) ((aP.id b1).comp ob) (r:=al.cd) oA (cy rfl hb) rfl rfl rfl) ?_
 refine gH (iq Tryz.underlying51) ?_
 refine mP nO ?_
 obtain⟨bJ,eC,h⟩:=aC h
 refine dU eC (tT (ad rfl) (ad rfl) (fun h=>h)) ?_
 refine a0 ?_
 refine dz h (fun h=>?_) fun h=>?_
 ·refine aM ?_
  refine aW ?_
  refine a0 ?_
  refine ak.ret ?_
  refine aj.ret ?_
  obtain rfl:=aT h
  exact ez
 ·refine dT ?_
  refine aM ?_
  refine bj (bc o6) ?_
  refine dg 1 ob oA ?_
  refine aL ?_
  obtain⟨bn,dJ,h⟩:=aC h
  refine lh dJ Tryz.underlying51 kO ?_
  refine Ej w5 GN ?_
  refine bj (fy cf) ?_
  refine aW ?_
  refine a0 ?_
  refine ak.ret ?_
  obtain rfl:=aT h
  exact ez
theorem JZ {hp:aH Cell} {ab:Ref} {al:Int} {aU:Bool} {r:aA × Bool} (h:s7 hp ab al aU=some r):bN Tryz.prog 59 [I.of (ab),I.of (al),I.of (aU)] ([] ++ aZ hp) (δ:=Unit) (fun _=>I.eA [I.of (r.1),I.of (r.2)]) (fun _=> [] ++ aZ hp):=by
 unfold s7 at h
 refine bN.of Tryz.func59 rfl Tryz.ntmps59 rfl fun W A=> ?_
 refine aM ?_
 refine dL iv fun ba=> ?_
 refine aW ?_
 refine cm ?_
 refine aM ?_
 refine aL ?_
 refine bj kt ?_
 refine a0 ?_
 refine dz h (fun h=>?_) fun h=>?_
 ·refine aM ?_
  refine jQ Av iv (default:aA) .nil ?_
  refine dh 0 c6 ?_
  refine aW ?_
  refine a0 ?_
  refine ak.ret ?_
  refine aj.ret ?_
  obtain rfl:=aT h
  exact aj.kL () (.cons _ (.refl _)) rfl rfl (nc (i:=0) c6 rfl rfl) (dG rfl)
 ·refine dT ?_
  refine aM ?_
  refine aL ?_
  obtain⟨bT,c7,h⟩:=aC h
  refine bp (dv (eb (ad rfl) c7)) ?_
  refine bj (bc zv) ?_
  obtain⟨bw,di,h⟩:=aC h
  refine bp (fv ((aP.id gq).comp w4) (r:=bw.j2) xG (ad rfl) (eK (n:=1) rfl (kp di) rfl) rfl rfl) ?_
  refine aL ?_
  obtain⟨bU,eS,h⟩:=aC h
  obtain⟨b5,eW,h⟩:=aC h
  obtain⟨bJ,eC,h⟩:=aC h
  refine bp (vd (r:=bJ) Tryz.underlying119 En iv (lQ (ad rfl) eS) (ad rfl) (eK (n:=1) rfl (pD eW) rfl) (aT eC)) ?_
  obtain⟨aG,bF,h⟩:=aC h
  refine gY Au (yX bF) ?_
  refine dh 0 c6 ?_
  refine aW ?_
  refine a0 ?_
  refine ak.ret ?_
  obtain rfl:=aT h
  exact aj.kL () (.cons _ (.refl _)) rfl rfl (nc (i:=0) c6 rfl rfl) (dG rfl)
theorem QZ {hp:aH Cell} {ab:Ref} {r:(List da)} (h:yY hp ab=some r):bN Tryz.prog 218 [I.of (ab)] ([] ++ aZ hp) (δ:=Unit) (fun _=>I.of (r)) (fun _=> [] ++ aZ hp):=by
 unfold yY at h
 refine bN.of Tryz.func218 rfl Tryz.ntmps218 rfl fun W A=> ?_
 refine aM ?_
 refine bp (e5 (look_nil (α:=da))) ?_
 refine cc ?_
 refine ah.o9 (z:=(default:List da)) [0] Tq V2 rfl fun ba=> ?_
 refine ah.own (α:=da) 315 ?_
 refine cc ?_
 refine aL ?_
 refine bp (Nh (f:=222) (us:= [.pointer (some ⟨ba,0,none⟩)]) ⟨ad rfl,trivial⟩) ?_
 refine ah.Eh (γ:=da) (b':=([]:List da)) (aP.id (List da)) 1 0 rfl rfl rfl ?_
 refine ah.b2 0 rfl ?_
 refine ah.b2 1 rfl ?_
 obtain⟨aG,bF,h⟩:=aC h
 refine ah.sL (eO.kM 2 2 rfl V3 (PV (key02_0:=none) (cap02_0:=0) bF) rfl rfl ⟨ad rfl,ad rfl,trivial⟩) rfl rfl rfl fun aN=> ?_
 refine ah.eH (L2:=(⟨some ba,.bZ ([]:List da) [(0,bf aN.1 aG.length aN.2)]⟩ :: ⟨aN.1,.row 315 (aG:List da) aN.2⟩ :: aZ hp)) rfl ?_
 refine cc ?_
 refine bp (il (i:=0) (q:=0) (β:=List da) (γ:=da) He (ad rfl) rfl rfl) ?_
 refine aW ?_
 refine a0 ?_
 refine ak.ret ?_
 refine aj.tM (β:=List da) (γ:=da) (b':=(aG:List da)) (aP.id (List da)) 0 1 0 2 rfl rfl rfl rfl rfl rfl rfl ?_
 refine aj.ov 0 rfl ?_
 obtain rfl:=aT h
 exact aj.gF () (.cons _ (.cons _ (.refl _))) rfl rfl (dG rfl)
theorem J7 {hp:aH Cell} {ab:Ref} {al:aw} {aU:Int} {r:Ref} (h:tc hp ab al aU=some r):bN Tryz.prog 212 [I.of (ab),I.of (al),I.of (aU)] ([] ++ aZ hp) (δ:=Unit) (fun _=>I.of (r)) (fun _=> [] ++ aZ hp):=by
 unfold tc at h
 refine bN.ofM Tryz.func212 rfl Tryz.ntmps212 rfl fun W A=> ?_
 refine aM ?_
 refine cM fun ba=> ?_
 refine dL vA fun bh=> ?_
 refine cm ?_
 refine aM ?_
 refine aL ?_
 refine cV 1 cB ?_
 refine aL ?_
 obtain⟨aG,bF,h⟩:=aC h
 refine ah.iK (fr.iG 2 rfl Nm (J2 bF) ⟨ad rfl,ad rfl,ad rfl,trivial⟩) rfl rfl rfl ?_
 refine bj kt ?_
 refine a0 ?_
 refine dz h (fun h=>?_) fun h=>?_
 ·refine aM ?_
  refine ah.store (i:=0) (aP.id Ref) (v:=((none:Ref):Ref)) (b':=((none:Ref):Ref)) dO (ad rfl) (rC) rfl rfl rfl ?_
  refine a0 ?_
  refine ak.ret ?_
  refine aj.ret ?_
  obtain rfl:=aT h
  refine aj.At ?_
  exact aj.gF () (.cons _ (.cons _ (.refl _))) rfl rfl (nc (i:=0) dO rfl rfl)
 ·refine dT ?_
  refine aM ?_
  refine aL ?_
  obtain⟨bT,c7,h⟩:=aC h
  refine bp (dv (eb (ad rfl) c7)) ?_
  refine bj (bc rP) ?_
  obtain⟨bw,di,h⟩:=aC h
  refine bp (fv ((aP.id eJ).comp rp) (r:=bw.bK) dO (ad rfl) (eK (n:=2) rfl (lU di) rfl) rfl rfl) ?_
  refine dL vA fun cH=> ?_
  refine dh 0 dO ?_
  refine cm ?_
  refine aM ?_
  refine aL ?_
  refine cV 2 cB ?_
  refine aL ?_
  obtain⟨aQ,cR,h⟩:=aC h
  refine gY DO (Ct cR) ?_
  refine a0 ?_
  refine ak.block ?_
  obtain⟨az,an,h⟩:=aC h
  refine FR (hp:=hp) (γ:=Unit) (g0:=()) (Ls:=fun s1 ax=>(⟨some cH,.var (s1:Ref)⟩ :: ⟨some bh,.var ((default:Ref):Ref)⟩ :: ⟨some ba,.var (al:aw)⟩ :: aZ hp)) (Lx:=fun aN ax=>(⟨some cH,.var (aN.1:Ref)⟩ :: ⟨some bh,.var (aN.2:Ref)⟩ :: ⟨some ba,.var (al:aw)⟩ :: aZ hp)) (fun s1 ax=> [⟨some cH,.var (s1:Ref)⟩,⟨some bh,.var ((default:Ref):Ref)⟩,⟨some ba,.var (al:aw)⟩]) (fun aN=> .ret) rfl DP rfl Fh an (fun _ _=>rfl) rfl rfl (fun oI s1 r h ax kV kZ kW l D rec sq=> ?_) (fun s1 aD ax D=> ?_) (fun aN aD ax D=> ?_)
  ·clear an
   refine ak.cU ?_
   refine aW ?_
   refine ah.nil ?_
   refine aj.begin 0 rfl sq ?_
   refine ak.block ?_
   refine ak.seq ?_
   refine aM ?_
   refine cV 2 dO ?_
   refine bp (mz Tryz.underlying299 (ad rfl)) ?_
   refine a0 ?_
   refine dz h (fun h=>?_) fun h=>?_
   ·refine aM ?_
    refine ah.store (i:=3) (aP.id Ref) (v:=((none:Ref):Ref)) (b':=((none:Ref):Ref)) dO (ad rfl) (rC) rfl rfl rfl ?_
    refine a0 ?_
    refine ak.ret ?_
    refine aj.ret ?_
    refine aj.fS ?_
    obtain rfl:=aT h
    exact aj.GX () 0 rfl rfl rfl
   ·refine dT ?_
    refine ak.cU ?_
    refine cV 2 dO ?_
    refine aL ?_
    obtain⟨bU,eS,h⟩:=aC h
    refine bp (dv (eb (ad rfl) eS)) ?_
    refine bj (bc qE) ?_
    obtain⟨bn,dJ,h⟩:=aC h
    refine bp (l3 (k:=bn) r2 (ad rfl) (ad rfl) (eh dJ)) ?_
    obtain⟨b5,eW,h⟩:=aC h
    refine bp (fv (((aP.id dn).comp qp).comp (aP.idx (α:=Ref) 2 bn (eh dJ).1)) (r:=bB b5.ct bn) dO (ad rfl) (eK (n:=5) rfl (iO eW) rfl) rfl rfl) ?_
    refine dh 2 dO ?_
    refine ah.nil ?_
    refine aj.fV ?_
    obtain rfl:=aT h
    exact aj.Io () 0 rfl
  ·clear an; subst aD; simp only [Sum.elim_inl] at h
   refine aj.eH (L2:=(⟨some D,.db⟩ :: ⟨some cH,.var (s1:Ref)⟩ :: ⟨some bh,.var ((default:Ref):Ref)⟩ :: ⟨some ba,.var (al:aw)⟩ :: aZ hp)) rfl ?_
   refine aj.fV ?_
   refine aj.next ?_
   refine aM ?_
   refine cV 1 dO ?_
   refine dh 2 dO ?_
   refine a0 ?_
   refine ak.ret ?_
   obtain rfl:=aT h
   refine aj.tW 0 rfl rfl ?_
   exact aj.gF () (.cons _ (.cons _ (.cons _ (.cons _ (.refl _))))) rfl rfl (nc (i:=2) dO rfl rfl)
  ·clear an; subst aD; simp only [Sum.elim_inr] at h
   refine ak.ret ?_
   refine aj.eH (L2:=(⟨some D,.db⟩ :: ⟨some cH,.var (aN.1:Ref)⟩ :: ⟨some bh,.var (aN.2:Ref)⟩ :: ⟨some ba,.var (al:aw)⟩ :: aZ hp)) rfl ?_
   refine aj.fS ?_
   refine aj.ret ?_
   obtain rfl:=aT h
   refine aj.tW 0 rfl rfl ?_
   exact aj.gF () (.cons _ (.cons _ (.cons _ (.cons _ (.refl _))))) rfl rfl (nc (i:=2) dO rfl rfl)
theorem Qg {ab:ca} {cP:Nat} {hQ:Option Nat} {hR:Nat} {r:(List aA)} (h:uG ab=some r):bN Tryz.prog 229 [I.eq (.pointer (some ⟨cP,0,none⟩))] [⟨some cP,.bZ (({ ab with bP:= [] } :ca):ca) [(10,bf hQ ab.bP.length hR)]⟩,⟨hQ,.row 56 (ab.bP:List aA) hR⟩] (δ:=Unit) (fun d=>I.of (r)) (fun d=> [⟨some cP,.bZ (({ ab with bP:= [] } :ca):ca) [(10,bf hQ (ab.bP).length hR)]⟩,⟨hQ,.row 56 (ab.bP:List aA) hR⟩]):=by
 unfold uG at h
 refine bN.of Tryz.func229 rfl Tryz.ntmps229 rfl fun W A=> ?_
 refine aM ?_
 refine bp (e5 (look_nil (α:=aA))) ?_
 refine cm ?_
 refine aM ?_
 refine aL ?_
 refine bp (Ds Tryz.underlying131 (ad rfl)) ?_
 refine a0 ?_
 refine ak.tI (ad rfl) rfl ?_
 refine dT ?_
 refine aM ?_
 refine aL ?_
 refine bj dv ?_
 refine bj (bc rM) ?_
 refine bp (il (i:=0) (q:=0) (β:=ca) (γ:=aA) qT (ad rfl) rfl rfl) ?_
 obtain⟨aG,bF,h⟩:=aC h
 refine ah.iK (fr.call [1] V4 (Rk bF) ⟨ad rfl,trivial⟩ rfl ⟨rfl,trivial⟩ rfl) rfl rfl rfl ?_
 refine aW ?_
 refine a0 ?_
 refine ak.ret ?_
 refine aj.b2 1 rfl ?_
 refine aj.b2 1 rfl ?_
 obtain rfl:=aT h
 exact l9 ()
theorem Kp {ab:a2} {al:aA} {aU:aA} {r:Bool} (h:tf ab al aU=some r):cl Tryz.prog 118 [I.of (ab),I.of (al),I.of (aU)] (I.of (r)):=by
 unfold tf at h
 refine cl.of Tryz.func118 rfl Tryz.ntmps118 rfl fun W A=> ?_
 refine aM ?_
 refine cM fun ba=> ?_
 refine cM fun bh=> ?_
 refine cM fun cH=> ?_
 refine aW ?_
 refine cm ?_
 obtain⟨aG,bF,h⟩:=aC h
 obtain⟨aQ,cR,h⟩:=aC h
 obtain⟨bm,hh,h⟩:=aC h
 obtain⟨cD,h9,h⟩:=aC h
 obtain⟨c8,jS,h⟩:=aC h
 obtain⟨eU,kB,h⟩:=aC h
 refine ak.draw mixed 24 ((some 7) :: (some 8) :: (some 9) :: (some 10) :: (some 11) :: (some 12) :: (some 13) :: (some 14) :: (some 15) :: (some 16) :: (some 17) :: (some 18) :: (some 19) :: (some 20) :: (some 21) :: (some 22) :: (some 23) :: (some 24) :: (some 25) :: (some 26) :: (some 27) :: (some 28) :: (some 29) :: (some 30) :: []) ([] :: [0] :: [1] :: [] :: [3] :: [4] :: [2,5] :: [] :: [] :: [8] :: [7,9] :: [] :: [] :: [12] :: [11,13] :: [10,14] :: [] :: [16] :: [] :: [18] :: [17,19] :: [6,15,20] :: [21] :: [22] :: []) (.val _ :: .val _ :: .val _ :: .val _ :: .val _ :: .val _ :: .val _ :: .val _ :: .val _ :: .val _ :: .val _ :: .val _ :: .val _ :: .val _ :: .val _ :: .val _ :: .val _ :: .val _ :: .val _ :: .val _ :: .val _ :: .val _ :: .val _ :: .val _ :: []) (false :: false :: false :: false :: false :: false :: false :: false :: false :: false :: false :: false :: false :: false :: false :: false :: false :: false :: false :: false :: false :: false :: false :: false :: []) (by kernel_rfl) rfl rfl rfl (fun eL=>⟨H1 (bc oq),H1 (bc zH),hT 1 (nB.comp yE) cf,H1 (bc oq),H1 (bc zH),hT 0 (nB.comp yE) cf,jg Hs (Fx bF),fY 2 h5,H1 (bc oq),hT 1 nB iS,jg Nn (Kh cR),fY 2 h5,H1 (bc oq),hT 0 nB iS,jg Nn (Kh hh),jg Hs (Fx h9),H1 (bc nM),hT 1 m3 cf,H1 (bc nM),hT 0 m3 cf,jg Hs (Fx jS),e7 fun L' aq=>j5 (r:= [aG,cD,c8]) Tryz.underlying41 cf lk rfl rfl (.cons (by simp) (ad rfl) (.cons (by simp) (ad rfl) (.cons (by simp) (ad rfl) (.nil)))),jg V5 (Q9 kB),mo xI,trivial⟩) fun eL=> ?_
 refine aW ?_
 refine a0 ?_
 refine ak.ret ?_
 obtain rfl:=aT h
 exact ez
theorem Q0 {hp:aH Cell} {ab:Ref} {r:Int} (h:rz hp ab=some r):bN Tryz.prog 211 [I.of (ab)] ([] ++ aZ hp) (δ:=Unit) (fun _=>I.of (r)) (fun _=> [] ++ aZ hp):=by
 unfold rz at h
 refine bN.of Tryz.func211 rfl Tryz.ntmps211 rfl fun W A=> ?_
 refine aM ?_
 refine aW ?_
 refine cc ?_
 refine aL ?_
 obtain⟨aG,bF,h⟩:=aC h
 refine ah.iK (fr.iG 0 rfl V6 (QZ bF) ⟨ad rfl,trivial⟩) rfl rfl rfl ?_
 refine bj (iq Tryz.underlying310) ?_
 refine aW ?_
 refine a0 ?_
 refine ak.ret ?_
 obtain rfl:=aT h
 exact aj.gF () (.refl _) rfl rfl (dG rfl)
end Go.Proofs.YthkfkliknjiecaaGreat
