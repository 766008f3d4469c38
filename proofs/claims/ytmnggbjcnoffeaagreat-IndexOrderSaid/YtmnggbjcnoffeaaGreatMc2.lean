/-
  Each function meets its functional program. Conditions: none.
-/
import Derived.Test.YtmnggbjcnoffeaaGreatMc0
import Derived.Test.YtmnggbjcnoffeaaGreatMc1
set_option linter.unusedVariables false
set_option linter.unusedSimpArgs false
set_option maxRecDepth 100000
set_option maxHeartbeats 2000000
namespace Go.Proofs.YtmnggbjcnoffeaaGreat
open Go Gv
theorem SG {hp:aS Cell} {aa:a3} {aj:bf} {aP:Int} {bR:Int} {h6:Nat} {Q:Ref × (List aA) × bf × (aS Cell)→Prop} (h:z8 hp aa aj aP bR Q):bM Tryz.prog 17 [I.of (aa),I.eq (.pointer (some ⟨h6,0,none⟩)),I.of (aP),I.of (bR)] ([⟨some h6,.var (aj:bf)⟩] ++ aV hp) (δ:= {r:Ref × (List aA) × bf × (aS Cell) // Q r} × Unit) (fun d=>I.ed [I.of (d.1.1.1),I.of (d.1.1.2.1)]) (fun d=> [⟨some h6,.var (d.1.1.2.2.1:bf)⟩] ++ aV d.1.1.2.2.2):=by
 unfold z8 at h
 refine bM.of Tryz.func17 rfl Tryz.ntmps17 rfl fun W A=> ?_
 refine aF ?_
 refine cj fun aZ=> ?_
 refine bl (eB (qE)) ?_
 refine bl (eB (look_nil (α:=aA))) ?_
 refine bO ?_
 obtain⟨aG,bo,h⟩:=ax.cv h
 obtain⟨a8,cE,h⟩:=ax.cv h
 refine ag.draw mixed 11 [some 14,some 15,some 16,some 17,some 18,some 19,some 20,some 21,some 22,some 23,some 24] [[],[],[1],[],[],[4],[5],[3,6],[2,7],[8],[9]] [.val _,.val _,.val _,.val _,.val _,.val _,.val _,.val _,.val _,.val _,.val _] [false,false,false,false,false,false,false,false,false,false,false] (by kernel_rfl) rfl rfl rfl (fun da=>⟨fy 0 ho,H1 (aT oy),dz 0 om n1,cZ,H1 (aT oy),dz 0 om n1,H1 (eK Tryz.underlying28),fl IZ (GP bo),nj cE Tryz.underlying28 hn,tY pG vh,H1 (dV bF),trivial⟩) fun da=> ?_
 refine ah.iR 2 0 rfl v3 (uQ h) rfl rfl ⟨ab rfl,ab rfl,trivial⟩ rfl fun⟨⟨aJ,h⟩,az⟩=> ?_
 refine ah.dR (L2:=(⟨some aZ,.var (aa:a3)⟩ :: ⟨some h6,.var (aj:bf)⟩ :: aV aJ.2)) rfl ?_
 refine aL ?_
 refine b0 ?_
 refine ah.own (α:=aA) 52 ?_
 refine bl (eB rG) ?_
 refine bO ?_
 refine aF ?_
 refine aL ?_
 refine aK ?_
 refine ag.block ?_
 refine ag.x0 (σ:=Int × (List aA) × bf × (aS Cell)) (ε:=(Int × Bool × (List aA) × bf × (aS Cell))) (γ:=(Option Nat × Nat)) (δ:=(Option Nat × Nat)) h (fun s1 aq=> [(0,I.of (aa)),(1,I.eq (.pointer (some ⟨h6,0,none⟩))),(2,I.of (aP)),(3,I.of (bR)),(4,I.eq (.pointer (some ⟨aZ,0,none⟩))),(8,I.of (none:Ref)),(9,I.of ([]:List aA)),(10,I.of (aJ.1)),(11,I.eq (a2 aq.1 s1.2.1.length aq.2)),(12,I.of (s1.1))]) (fun s1 aq=>(⟨aq.1,.row 52 (s1.2.1:List aA) aq.2⟩ :: ⟨some aZ,.var (aa:a3)⟩ :: ⟨some h6,.var (s1.2.2.1:bf)⟩ :: aV s1.2.2.2)) (fun c7=>Exit.exit 0) (fun c7 aq=> [(0,I.of (aa)),(1,I.eq (.pointer (some ⟨h6,0,none⟩))),(2,I.of (aP)),(3,I.of (bR)),(4,I.eq (.pointer (some ⟨aZ,0,none⟩))),(8,I.of (none:Ref)),(9,I.of ([]:List aA)),(10,I.of (aJ.1)),(11,I.eq (a2 aq.1 c7.2.2.1.length aq.2)),(12,I.of (c7.1)),(32,I.of (c7.2.1))]) (fun c7 aq=>(⟨aq.1,.row 52 (c7.2.2.1:List aA) aq.2⟩ :: ⟨some aZ,.var (aa:a3)⟩ :: ⟨some h6,.var (c7.2.2.2.1:bf)⟩ :: aV c7.2.2.2.2)) (none,0) rfl (.same rfl (.same rfl (.same rfl (.same rfl (.same rfl (.same rfl (.same rfl (.same rfl (.same rfl (.same rfl .nil)))))))))) (fun s1 R h aq=> ?_) (fun av h aq=> ?_)
 ·refine ag.seq ?_
  refine aF ?_
  refine aD ?_
  refine aD ?_
  refine bm eT ?_
  refine aD ?_
  refine ey cM ?_
  obtain⟨bh,e7,h⟩:=ax.cv h
  refine ep (fun hb=>bS.IE (z:=(s1.2.2.1:bf)) 2 30 rfl (fun _ _ _ h=>h.1 hb) rfl Ap (iG IV (KV (fE e7 hb)) ⟨ab rfl,trivial⟩)) ?_
  refine jB ?_
  refine aK ?_
  refine ag.cond (ab rfl) (fun ak=> ?_) (fun ak=> ?_)
  ·replace h:=mF ak h
   refine cW ?_
   refine ag.seq ?_
   refine ag.block ?_
   refine aF ?_
   refine aD ?_
   refine cG 1 ho ?_
   refine aD ?_
   refine ah.bz 2 rfl ?_
   obtain⟨bn,fT,h⟩:=ax.cv h
   refine eQ 1 PI (KZ fT) fun dZ=> ?_
   refine aD ?_
   refine hC yq gh { bA:=bn.1,cd:=s1.1,lL:=1:aA } (iK kq (iK mD (iK Ge .nil))) ?_
   refine c1 gh fun bc=> ?_
   refine cA 0 cg ?_
   refine b0 ?_
   refine aD ?_
   obtain⟨bE,dE,h⟩:=ax.cv h
   refine dF dE (eA (i:=0) (aN.id aA) (r:=({ bA:=bn.1,cd:=s1.1,lL:=1:aA })) cg (ab rfl) rfl rfl rfl) ?_
   refine ah.iR 4 0 rfl I5 (GH h) rfl rfl ⟨ab rfl,ab rfl,trivial⟩ rfl fun⟨⟨cw,h⟩,l3⟩=> ?_
   refine ah.dR (L2:=(⟨some bc,.var ({ bA:=bn.1,cd:=s1.1,lL:=1:aA } :aA)⟩ :: ⟨some h6,.var (bn.2:bf)⟩ :: ⟨aq.1,.row 52 (s1.2.1:List aA) aq.2⟩ :: ⟨some aZ,.var (aa:a3)⟩ :: aV cw.2)) rfl ?_
   refine aK ?_
   obtain⟨bp,ck,h⟩:=ax.cv h
   refine ag.cy (γ:=(Option Nat × Nat)) (fun bd=> [(0,I.of (aa)),(1,I.eq (.pointer (some ⟨h6,0,none⟩))),(2,I.of (aP)),(3,I.of (bR)),(4,I.eq (.pointer (some ⟨aZ,0,none⟩))),(8,I.of (none:Ref)),(9,I.of ([]:List aA)),(10,I.of (aJ.1)),(11,I.eq (a2 bd.1 bp.length bd.2)),(12,I.of (s1.1)),(13,I.eq (.pointer (some ⟨bc,0,none⟩))),(32,I.of ((decide (s1.1 < bR)) && bh)),(43,I.of (cw.1))]) (fun bd=>(⟨some bc,.var ({ bA:=bn.1,cd:=s1.1,lL:=1:aA } :aA)⟩ :: ⟨some h6,.var (bn.2:bf)⟩ :: ⟨bd.1,.row 52 (bp:List aA) bd.2⟩ :: ⟨some aZ,.var (aa:a3)⟩ :: aV cw.2)) (ab rfl) (fun bd=> ?_) (fun hm ak=> ?_) (fun hm ak=> ?_)
   ·clear ck
    refine ae.ea ?_
    refine ae.next ?_
    refine ag.cz ?_
    refine aD ?_
    refine bm dI ?_
    refine aL ?_
    refine ah.nil ?_
    refine ae.bz 3 rfl ?_
    refine ae.bz 3 rfl ?_
    refine ae.bz 2 rfl ?_
    exact ae.x1 h (bd.1,bd.2) 1 rfl (.same rfl (.same rfl (.same rfl (.same rfl (.same rfl (.same rfl (.same rfl (.same rfl (.same rfl (.same rfl .nil))))))))))
   ·have h:=gZ ak ck
    refine ag.cz ?_
    refine aD ?_
    obtain⟨dt,hD,h⟩:=aw h
    refine dF hD (eA (i:=0) (aN.id aA) (r:=({ bA:=bn.1,cd:=s1.1,lL:=1:aA })) cg (ab rfl) rfl rfl rfl) ?_
    refine hX [dt] Tryz.underlying38 cg gh ?_
    obtain⟨dg,hW,h⟩:=aw h
    refine nq 2 Tryz.underlying38 cg gh hW fun g3 fC=> ?_
    refine aL ?_
    refine ah.nil ?_
    obtain rfl:=aI h
    exact dp 0 (hm (g3,fC))
   ·have h:=g1 ak ck
    refine ag.skip ?_
    obtain rfl:=aI h
    exact dp 0 (hm (aq.1,aq.2))
  ·replace h:=mG ak h
   refine ag.exit ?_
   refine ae.exit ?_
   exact ae.rT h (aq.1,aq.2) 0 rfl (by simp) rfl (.same rfl (.same rfl (.same rfl (.same rfl (.same rfl (.same rfl (.same rfl (.same rfl (.same rfl (.same rfl (.same rfl .nil)))))))))))
 ·refine ae.fM ?_
  refine ae.next ?_
  refine aF ?_
  refine aD ?_
  refine aD ?_
  refine aL ?_
  refine aL ?_
  refine aK ?_
  refine ag.ret ?_
  refine ae.m7 (α:=aA) 0 [9,11,49] ⟨rfl,rfl,rfl,trivial⟩ rfl ?_
  refine ae.bz 2 rfl ?_
  exact ae.ky (⟨⟨(aJ.1,av.2.2.1,av.2.2.2.1,av.2.2.2.2),h⟩,()⟩: {r // _} × _) (.cons_cons _ (.cons _ (.cons _ (.refl _)))) rfl rfl (dv rfl) (dv rfl)
theorem Sg {hp:aS Cell} {aa:List (BitVec 8)} {aj:List (BitVec 8)} {aP:List (BitVec 8)} {bR:Int} {Q:Bool × (aS Cell)→Prop} (h:zS hp aa aj aP bR Q):bM Tryz.prog 12 [I.of (aa),I.of (aj),I.of (aP),I.of (bR)] ([] ++ aV hp) (δ:= {r:Bool × (aS Cell) // Q r} × Unit) (fun d=>I.of (d.1.1.1)) (fun d=> [] ++ aV d.1.1.2):=by
 unfold zS at h
 refine bM.of Tryz.func12 rfl Tryz.ntmps12 rfl fun W A=> ?_
 refine aF ?_
 refine aL ?_
 refine b0 ?_
 refine aD ?_
 obtain⟨aG,bo,h⟩:=ax.cv h
 refine eQ 0 EY (DB bo) fun az=> ?_
 refine ah.bz 0 rfl ?_
 obtain⟨aJ,cr,h⟩:=ax.cv h
 refine eQ 1 PB (KW cr) fun c7=> ?_
 refine aD ?_
 obtain⟨bh,e7,h⟩:=ax.cv h
 refine eQ 0 EY (DB e7) fun dZ=> ?_
 refine c1 Bx fun aZ=> ?_
 refine cA 0 ho ?_
 refine aL ?_
 refine b0 ?_
 refine cG 0 ho ?_
 refine aD ?_
 refine aD ?_
 refine ah.bz 1 rfl ?_
 refine ah.rm (eV.iR 3 1 rfl ZC (SG h) rfl rfl ⟨ab rfl,ab rfl,ab rfl,bP 10,trivial⟩) rfl rfl rfl fun⟨⟨bn,h⟩,l3⟩=> ?_
 refine ah.dR (L2:=(⟨some dZ,.var (bn.2.2.1:bf)⟩ :: ⟨some aZ,.var (aJ.1:a3)⟩ :: ⟨some az,.var (aJ.2:bf)⟩ :: aV bn.2.2.2)) rfl ?_
 refine aD ?_
 refine gr ?_
 refine gr ?_
 refine aL ?_
 refine aL ?_
 refine b0 ?_
 refine aD ?_
 obtain⟨cw,hV,h⟩:=ax.cv h
 refine eQ 0 EY (DB hV) fun er=> ?_
 refine aL ?_
 refine bO ?_
 obtain⟨dg,hW,h⟩:=ax.cv h
 obtain⟨a8,cE,h⟩:=ax.cv h
 refine ag.draw mixed 11 [some 44,some 45,some 46,some 47,some 48,some 49,some 50,some 51,some 52,some 53,some 54] [[],[],[1],[],[],[4],[5],[3,6],[2,7],[8],[9]] [.val _,.val _,.val _,.val _,.val _,.val _,.val _,.val _,.val _,.val _,.val _] [false,false,false,false,false,false,false,false,false,false,false] (by kernel_rfl) rfl rfl rfl (fun da=>⟨fy 2 ho,H1 (aT oy),dz 2 om n1,cZ,H1 (aT oy),dz 2 om n1,H1 (eK Tryz.underlying28),fl IZ (GP hW),nj cE Tryz.underlying28 hn,tY pG vh,H1 (dV bF),trivial⟩) fun da=> ?_
 refine ah.iR 4 0 rfl v3 (uQ h) rfl rfl ⟨ab rfl,ab rfl,trivial⟩ rfl fun⟨⟨c8,h⟩,l4⟩=> ?_
 refine ah.dR (L2:=(⟨some er,.var (cw:bf)⟩ :: ⟨some dZ,.var (bn.2.2.1:bf)⟩ :: ⟨some aZ,.var (aJ.1:a3)⟩ :: ⟨some az,.var (aJ.2:bf)⟩ :: aV c8.2)) rfl ?_
 refine aL ?_
 refine b0 ?_
 refine ah.own (α:=aA) 52 ?_
 refine bl (eB rG) ?_
 refine bO ?_
 refine aF ?_
 refine aL ?_
 refine aK ?_
 refine ag.block ?_
 refine ag.x0 (σ:=Int × (List aA) × bf × (aS Cell)) (ε:=(Int × Bool × (List aA) × bf × (aS Cell))) (γ:=(Option Nat × Nat)) (δ:=(Option Nat × Nat)) h (fun s1 aq=> [(0,I.of (aa)),(1,I.of (aj)),(2,I.of (aP)),(3,I.of (bR)),(8,I.of (false)),(9,I.eq (.pointer (some ⟨aZ,0,none⟩))),(10,I.eq (.pointer (some ⟨dZ,0,none⟩))),(11,I.of (bn.1)),(12,I.of (bn.2.1)),(13,I.eq (.pointer (some ⟨er,0,none⟩))),(14,I.of (c8.1)),(15,I.eq (a2 aq.1 s1.2.1.length aq.2)),(16,I.of (s1.1))]) (fun s1 aq=>(⟨aq.1,.row 52 (s1.2.1:List aA) aq.2⟩ :: ⟨some er,.var (s1.2.2.1:bf)⟩ :: ⟨some dZ,.var (bn.2.2.1:bf)⟩ :: ⟨some aZ,.var (aJ.1:a3)⟩ :: ⟨some az,.var (aJ.2:bf)⟩ :: aV s1.2.2.2)) (fun ob=>Exit.exit 0) (fun ob aq=> [(0,I.of (aa)),(1,I.of (aj)),(2,I.of (aP)),(3,I.of (bR)),(8,I.of (false)),(9,I.eq (.pointer (some ⟨aZ,0,none⟩))),(10,I.eq (.pointer (some ⟨dZ,0,none⟩))),(11,I.of (bn.1)),(12,I.of (bn.2.1)),(13,I.eq (.pointer (some ⟨er,0,none⟩))),(14,I.of (c8.1)),(15,I.eq (a2 aq.1 ob.2.2.1.length aq.2)),(16,I.of (ob.1)),(61,I.of (ob.2.1))]) (fun ob aq=>(⟨aq.1,.row 52 (ob.2.2.1:List aA) aq.2⟩ :: ⟨some er,.var (ob.2.2.2.1:bf)⟩ :: ⟨some dZ,.var (bn.2.2.1:bf)⟩ :: ⟨some aZ,.var (aJ.1:a3)⟩ :: ⟨some az,.var (aJ.2:bf)⟩ :: aV ob.2.2.2.2)) (none,0) rfl (.same rfl (.same rfl (.same rfl (.same rfl (.same rfl (.same rfl (.same rfl (.same rfl (.same rfl (.same rfl (.same rfl (.same rfl (.same rfl .nil))))))))))))) (fun s1 R h aq=> ?_) (fun av h aq=> ?_)
 ·refine ag.seq ?_
  refine aF ?_
  refine aD ?_
  refine bm eT ?_
  refine aD ?_
  refine ey cM ?_
  obtain⟨eX,nm,h⟩:=ax.cv h
  refine ep (fun hb=>bS.IE (z:=(s1.2.2.1:bf)) 1 59 rfl (fun _ _ _ h=>h.1 hb) rfl Ap (iG IV (KV (fE nm hb)) ⟨ab rfl,trivial⟩)) ?_
  refine jB ?_
  refine aK ?_
  refine ag.cond (ab rfl) (fun ak=> ?_) (fun ak=> ?_)
  ·replace h:=mF ak h
   refine cW ?_
   refine ag.seq ?_
   refine ag.block ?_
   refine aF ?_
   refine aD ?_
   refine cG 3 ho ?_
   refine aD ?_
   refine ah.bz 1 rfl ?_
   obtain⟨fV,p6,h⟩:=ax.cv h
   refine eQ 1 PI (KZ p6) fun FV=> ?_
   refine aD ?_
   refine bm dI ?_
   obtain⟨bE,dE,h⟩:=ax.cv h
   refine dF dE (c3 (b:=({ (default:aA) with bA:=fV.1,cd:=bq (100 + s1.1) } :aA)) rfl yq gh (.cons kq rfl (ab rfl) rfl (.cons mD rfl (ab rfl) rfl (.nil)))) ?_
   refine c1 gh fun bc=> ?_
   refine cA 0 cg ?_
   refine b0 ?_
   refine aD ?_
   refine cG 0 cg ?_
   refine ah.iR 6 0 rfl I5 (GH h) rfl rfl ⟨ab rfl,ab rfl,trivial⟩ rfl fun⟨⟨gH,h⟩,qo⟩=> ?_
   refine ah.dR (L2:=(⟨some bc,.var (bE:aA)⟩ :: ⟨some er,.var (fV.2:bf)⟩ :: ⟨aq.1,.row 52 (s1.2.1:List aA) aq.2⟩ :: ⟨some dZ,.var (bn.2.2.1:bf)⟩ :: ⟨some aZ,.var (aJ.1:a3)⟩ :: ⟨some az,.var (aJ.2:bf)⟩ :: aV gH.2)) rfl ?_
   refine aK ?_
   obtain⟨bp,ck,h⟩:=ax.cv h
   refine ag.cy (γ:=(Option Nat × Nat)) (fun bd=> [(0,I.of (aa)),(1,I.of (aj)),(2,I.of (aP)),(3,I.of (bR)),(8,I.of (false)),(9,I.eq (.pointer (some ⟨aZ,0,none⟩))),(10,I.eq (.pointer (some ⟨dZ,0,none⟩))),(11,I.of (bn.1)),(12,I.of (bn.2.1)),(13,I.eq (.pointer (some ⟨er,0,none⟩))),(14,I.of (c8.1)),(15,I.eq (a2 bd.1 bp.length bd.2)),(16,I.of (s1.1)),(17,I.eq (.pointer (some ⟨bc,0,none⟩))),(61,I.of ((decide (s1.1 < 6)) && eX)),(73,I.of (gH.1))]) (fun bd=>(⟨some bc,.var (bE:aA)⟩ :: ⟨some er,.var (fV.2:bf)⟩ :: ⟨bd.1,.row 52 (bp:List aA) bd.2⟩ :: ⟨some dZ,.var (bn.2.2.1:bf)⟩ :: ⟨some aZ,.var (aJ.1:a3)⟩ :: ⟨some az,.var (aJ.2:bf)⟩ :: aV gH.2)) (ab rfl) (fun bd=> ?_) (fun hm ak=> ?_) (fun hm ak=> ?_)
   ·clear ck
    refine ae.ea ?_
    refine ae.next ?_
    refine ag.cz ?_
    refine aD ?_
    refine bm dI ?_
    refine aL ?_
    refine ah.nil ?_
    refine ae.bz 2 rfl ?_
    refine ae.bz 1 rfl ?_
    exact ae.x1 h (bd.1,bd.2) 1 rfl (.same rfl (.same rfl (.same rfl (.same rfl (.same rfl (.same rfl (.same rfl (.same rfl (.same rfl (.same rfl (.same rfl (.same rfl (.same rfl .nil)))))))))))))
   ·have h:=gZ ak ck
    refine ag.cz ?_
    refine aD ?_
    refine cG 0 cg ?_
    refine hX [bE] Tryz.underlying38 cg gh ?_
    obtain⟨hY,r9,h⟩:=aw h
    refine nq 2 Tryz.underlying38 cg gh r9 fun g3 fC=> ?_
    refine aL ?_
    refine ah.nil ?_
    obtain rfl:=aI h
    exact dp 0 (hm (g3,fC))
   ·have h:=g1 ak ck
    refine ag.skip ?_
    obtain rfl:=aI h
    exact dp 0 (hm (aq.1,aq.2))
  ·replace h:=mG ak h
   refine ag.exit ?_
   refine ae.exit ?_
   exact ae.rT h (aq.1,aq.2) 0 rfl (by simp) rfl (.same rfl (.same rfl (.same rfl (.same rfl (.same rfl (.same rfl (.same rfl (.same rfl (.same rfl (.same rfl (.same rfl (.same rfl (.same rfl (.same rfl .nil))))))))))))))
 ·refine ae.fM ?_
  refine ae.next ?_
  refine ag.seq ?_
  refine aF ?_
  refine aD ?_
  refine bl (pL (i:=0) Tryz.underlying38 (ab rfl) rfl rfl) ?_
  refine aD ?_
  refine aK ?_
  refine ag.block ?_
  refine ag.x0 (σ:=Int × (aS Cell)) (ε:=(Int × Bool × (aS Cell)) ⊕ (Bool × Int × Bool × Bool × (aS Cell))) (γ:=Unit) (δ:=Unit) h (fun s2 bN=> [(0,I.of (aa)),(1,I.of (aj)),(2,I.of (aP)),(3,I.of (bR)),(8,I.of (false)),(9,I.eq (.pointer (some ⟨aZ,0,none⟩))),(10,I.eq (.pointer (some ⟨dZ,0,none⟩))),(11,I.of (bn.1)),(12,I.of (bn.2.1)),(13,I.eq (.pointer (some ⟨er,0,none⟩))),(14,I.of (c8.1)),(15,I.eq (a2 aq.1 av.2.2.1.length aq.2)),(16,I.of (av.1)),(61,I.of (av.2.1)),(78,I.eq (a2 aq.1 av.2.2.1.length aq.2)),(79,I.of (av.2.2.1.length:Int)),(80,I.of (s2.1))]) (fun s2 bN=>(⟨aq.1,.row 52 (av.2.2.1:List aA) aq.2⟩ :: ⟨some er,.var (av.2.2.2.1:bf)⟩ :: ⟨some dZ,.var (bn.2.2.1:bf)⟩ :: ⟨some aZ,.var (aJ.1:a3)⟩ :: ⟨some az,.var (aJ.2:bf)⟩ :: aV s2.2)) (fun jT=>Sum.elim (fun jT=>Exit.exit 2) (fun jT=>Exit.ret) jT) (fun jT bN=>Sum.elim (fun jT=> [(0,I.of (aa)),(1,I.of (aj)),(2,I.of (aP)),(3,I.of (bR)),(8,I.of (false)),(9,I.eq (.pointer (some ⟨aZ,0,none⟩))),(10,I.eq (.pointer (some ⟨dZ,0,none⟩))),(11,I.of (bn.1)),(12,I.of (bn.2.1)),(13,I.eq (.pointer (some ⟨er,0,none⟩))),(14,I.of (c8.1)),(15,I.eq (a2 aq.1 av.2.2.1.length aq.2)),(16,I.of (av.1)),(61,I.of (av.2.1)),(78,I.eq (a2 aq.1 av.2.2.1.length aq.2)),(79,I.of (av.2.2.1.length:Int)),(80,I.of (jT.1)),(81,I.of (jT.2.1))]) (fun jT=> [(0,I.of (aa)),(1,I.of (aj)),(2,I.of (aP)),(3,I.of (bR)),(8,I.of (false)),(9,I.eq (.pointer (some ⟨aZ,0,none⟩))),(10,I.eq (.pointer (some ⟨dZ,0,none⟩))),(11,I.of (bn.1)),(12,I.of (bn.2.1)),(13,I.eq (.pointer (some ⟨er,0,none⟩))),(14,I.of (c8.1)),(15,I.eq (a2 aq.1 av.2.2.1.length aq.2)),(16,I.of (av.1)),(21,I.of (jT.1)),(61,I.of (av.2.1)),(78,I.eq (a2 aq.1 av.2.2.1.length aq.2)),(79,I.of (av.2.2.1.length:Int)),(80,I.of (jT.2.1)),(81,I.of (jT.2.2.1)),(98,I.of (jT.2.2.2.1))]) jT) (fun jT bN=>Sum.elim (fun jT=>(⟨aq.1,.row 52 (av.2.2.1:List aA) aq.2⟩ :: ⟨some er,.var (av.2.2.2.1:bf)⟩ :: ⟨some dZ,.var (bn.2.2.1:bf)⟩ :: ⟨some aZ,.var (aJ.1:a3)⟩ :: ⟨some az,.var (aJ.2:bf)⟩ :: aV jT.2.2)) (fun jT=>(⟨aq.1,.row 52 (av.2.2.1:List aA) aq.2⟩ :: ⟨some er,.var (av.2.2.2.1:bf)⟩ :: ⟨some dZ,.var (bn.2.2.1:bf)⟩ :: ⟨some aZ,.var (aJ.1:a3)⟩ :: ⟨some az,.var (aJ.2:bf)⟩ :: aV jT.2.2.2.2)) jT) () rfl (.same rfl (.same rfl (.same rfl (.same rfl (.same rfl (.same rfl (.same rfl (.same rfl (.same rfl (.same rfl (.same rfl (.same rfl (.same rfl (.same rfl (.same rfl (.same rfl (.same rfl .nil))))))))))))))))) (fun s2 R h bN=> ?_) (fun aX h bN=> ?_)
  ·refine aF ?_
   refine bm eT ?_
   refine bO ?_
   refine ag.cond (ab rfl) (fun ak=> ?_) (fun ak=> ?_)
   ·replace h:=mF ak h
    refine cW ?_
    refine ag.seq ?_
    refine ag.block ?_
    refine aF ?_
    obtain⟨bY,cX,h⟩:=ax.cv h
    refine bl (lp (i:=0) (k:=bY) (xs:=(av.2.2.1:List aA)) Tryz.underlying38 cg (ab rfl) (ab rfl) rfl (cL cX)) ?_
    refine bl (o5 (i:=0) (k:=bY) (aN.id aA) (r:=(aE av.2.2.1 bY)) cg (ab rfl) rfl (cL cX).1 rfl rfl) ?_
    refine c1 gh fun cC=> ?_
    refine cA 0 cg ?_
    refine b0 ?_
    refine aD ?_
    refine aY (aT ll) ?_
    refine cq 0 kq hf ?_
    refine ah.iR 6 0 rfl ZD (RX h) rfl rfl ⟨ab rfl,ab rfl,trivial⟩ rfl fun⟨⟨gQ,h⟩,aau⟩=> ?_
    refine ah.dR (L2:=(⟨some cC,.var ((aE av.2.2.1 bY):aA)⟩ :: ⟨aq.1,.row 52 (av.2.2.1:List aA) aq.2⟩ :: ⟨some er,.var (av.2.2.2.1:bf)⟩ :: ⟨some dZ,.var (bn.2.2.1:bf)⟩ :: ⟨some aZ,.var (aJ.1:a3)⟩ :: ⟨some az,.var (aJ.2:bf)⟩ :: aV gQ.2.2)) rfl ?_
    refine aD ?_
    refine gr ?_
    refine gr ?_
    refine c1 gh fun fm=> ?_
    refine cA 0 cg ?_
    refine aL ?_
    refine b0 ?_
    refine aD ?_
    refine aY hP ?_
    refine aD ?_
    refine ep (fun hb=>eA (i:=0) (aN.id aA) (r:=gQ.1) cg (ab rfl) rfl rfl rfl) ?_
    refine ep (fun hb=>eA (i:=1) (aN.id aA) (r:=(aE av.2.2.1 bY)) cg (ab rfl) rfl rfl rfl) ?_
    obtain⟨h7,sa,h⟩:=ax.cv h
    refine ep (fun hb=>iG I4 (GO (fE sa hb)) ⟨cb rfl hb,cb rfl hb,trivial⟩) ?_
    refine ey hP ?_
    refine sl ?_
    refine aK ?_
    refine ag.cond (ab rfl) (fun ak=> ?_) (fun ak=> ?_)
    ·replace h:=mF ak h
     refine aF ?_
     refine aL ?_
     refine aK ?_
     refine ag.ret ?_
     refine ae.dn ?_
     refine ae.ret ?_
     exact ae.rT h () 2 rfl (by simp) rfl (.same rfl (.same rfl (.same rfl (.same rfl (.same rfl (.same rfl (.same rfl (.same rfl (.same rfl (.same rfl (.same rfl (.same rfl (.same rfl (.same rfl (.same rfl (.same rfl (.same rfl (.same rfl (.same rfl (.same rfl .nil))))))))))))))))))))
    ·replace h:=mG ak h
     refine ag.skip ?_
     refine ae.ea ?_
     refine ae.next ?_
     refine ag.cz ?_
     refine bm dI ?_
     refine aD ?_
     refine ah.nil ?_
     exact ae.x1 h () 2 rfl (.same rfl (.same rfl (.same rfl (.same rfl (.same rfl (.same rfl (.same rfl (.same rfl (.same rfl (.same rfl (.same rfl (.same rfl (.same rfl (.same rfl (.same rfl (.same rfl (.same rfl .nil)))))))))))))))))
   ·replace h:=mG ak h
    refine ag.exit ?_
    refine ae.exit ?_
    exact ae.rT h () 0 rfl (by simp) rfl (.same rfl (.same rfl (.same rfl (.same rfl (.same rfl (.same rfl (.same rfl (.same rfl (.same rfl (.same rfl (.same rfl (.same rfl (.same rfl (.same rfl (.same rfl (.same rfl (.same rfl (.same rfl .nil))))))))))))))))))
  ·rcases aX with aX | aX
   ·simp only [Sum.elim_inl] at h
    refine ae.fM ?_
    refine ae.next ?_
    refine ag.seq ?_
    refine aF ?_
    refine aD ?_
    refine aY (eK Tryz.underlying38) ?_
    refine bm ix ?_
    refine aL ?_
    refine aK ?_
    refine ag.block ?_
    refine ag.x0 (σ:=Int × (aS Cell)) (ε:=(Int × Bool × (aS Cell)) ⊕ (Int × Bool × Bool × (aS Cell))) (γ:=Unit) (δ:=Unit) h (fun mZ dq=> [(0,I.of (aa)),(1,I.of (aj)),(2,I.of (aP)),(3,I.of (bR)),(8,I.of (false)),(9,I.eq (.pointer (some ⟨aZ,0,none⟩))),(10,I.eq (.pointer (some ⟨dZ,0,none⟩))),(11,I.of (bn.1)),(12,I.of (bn.2.1)),(13,I.eq (.pointer (some ⟨er,0,none⟩))),(14,I.of (c8.1)),(15,I.eq (a2 aq.1 av.2.2.1.length aq.2)),(16,I.of (av.1)),(22,I.of (mZ.1)),(61,I.of (av.2.1)),(78,I.eq (a2 aq.1 av.2.2.1.length aq.2)),(79,I.of (av.2.2.1.length:Int)),(80,I.of (aX.1)),(81,I.of (aX.2.1))]) (fun mZ dq=>(⟨aq.1,.row 52 (av.2.2.1:List aA) aq.2⟩ :: ⟨some er,.var (av.2.2.2.1:bf)⟩ :: ⟨some dZ,.var (bn.2.2.1:bf)⟩ :: ⟨some aZ,.var (aJ.1:a3)⟩ :: ⟨some az,.var (aJ.2:bf)⟩ :: aV mZ.2)) (fun lz=>Sum.elim (fun lz=>Exit.exit 4) (fun lz=>Exit.ret) lz) (fun lz dq=>Sum.elim (fun lz=> [(0,I.of (aa)),(1,I.of (aj)),(2,I.of (aP)),(3,I.of (bR)),(8,I.of (false)),(9,I.eq (.pointer (some ⟨aZ,0,none⟩))),(10,I.eq (.pointer (some ⟨dZ,0,none⟩))),(11,I.of (bn.1)),(12,I.of (bn.2.1)),(13,I.eq (.pointer (some ⟨er,0,none⟩))),(14,I.of (c8.1)),(15,I.eq (a2 aq.1 av.2.2.1.length aq.2)),(16,I.of (av.1)),(22,I.of (lz.1)),(61,I.of (av.2.1)),(78,I.eq (a2 aq.1 av.2.2.1.length aq.2)),(79,I.of (av.2.2.1.length:Int)),(80,I.of (aX.1)),(81,I.of (aX.2.1)),(104,I.of (lz.2.1))]) (fun lz=> [(0,I.of (aa)),(1,I.of (aj)),(2,I.of (aP)),(3,I.of (bR)),(8,I.of (false)),(9,I.eq (.pointer (some ⟨aZ,0,none⟩))),(10,I.eq (.pointer (some ⟨dZ,0,none⟩))),(11,I.of (bn.1)),(12,I.of (bn.2.1)),(13,I.eq (.pointer (some ⟨er,0,none⟩))),(14,I.of (c8.1)),(15,I.eq (a2 aq.1 av.2.2.1.length aq.2)),(16,I.of (av.1)),(22,I.of (lz.1)),(61,I.of (av.2.1)),(78,I.eq (a2 aq.1 av.2.2.1.length aq.2)),(79,I.of (av.2.2.1.length:Int)),(80,I.of (aX.1)),(81,I.of (aX.2.1)),(104,I.of (lz.2.1)),(113,I.of (lz.2.2.1))]) lz) (fun lz dq=>Sum.elim (fun lz=>(⟨aq.1,.row 52 (av.2.2.1:List aA) aq.2⟩ :: ⟨some er,.var (av.2.2.2.1:bf)⟩ :: ⟨some dZ,.var (bn.2.2.1:bf)⟩ :: ⟨some aZ,.var (aJ.1:a3)⟩ :: ⟨some az,.var (aJ.2:bf)⟩ :: aV lz.2.2)) (fun lz=>(⟨aq.1,.row 52 (av.2.2.1:List aA) aq.2⟩ :: ⟨some er,.var (av.2.2.2.1:bf)⟩ :: ⟨some dZ,.var (bn.2.2.1:bf)⟩ :: ⟨some aZ,.var (aJ.1:a3)⟩ :: ⟨some az,.var (aJ.2:bf)⟩ :: aV lz.2.2.2)) lz) () rfl (.same rfl (.same rfl (.same rfl (.same rfl (.same rfl (.same rfl (.same rfl (.same rfl (.same rfl (.same rfl (.same rfl (.same rfl (.same rfl (.same rfl (.same rfl (.same rfl (.same rfl (.same rfl (.same rfl .nil))))))))))))))))))) (fun mZ R h dq=> ?_) (fun c4 h dq=> ?_)
    ·refine ag.seq ?_
     refine aF ?_
     refine aD ?_
     refine bm kT ?_
     refine aK ?_
     refine ag.cond (ab rfl) (fun ak=> ?_) (fun ak=> ?_)
     ·replace h:=mF ak h
      refine cW ?_
      refine ag.seq ?_
      refine ag.block ?_
      refine aF ?_
      refine aD ?_
      refine aD ?_
      refine aD ?_
      obtain⟨cY,g4,h⟩:=ax.cv h
      refine hU g4 Tryz.underlying38 cg ?_
      refine aY (dV cg) ?_
      refine ah.iR 5 0 rfl I5 (GH h) rfl rfl ⟨ab rfl,ab rfl,trivial⟩ rfl fun⟨⟨hL,h⟩,aav⟩=> ?_
      refine ah.dR (L2:=(⟨aq.1,.row 52 (av.2.2.1:List aA) aq.2⟩ :: ⟨some er,.var (av.2.2.2.1:bf)⟩ :: ⟨some dZ,.var (bn.2.2.1:bf)⟩ :: ⟨some aZ,.var (aJ.1:a3)⟩ :: ⟨some az,.var (aJ.2:bf)⟩ :: aV hL.2)) rfl ?_
      refine aY hP ?_
      refine aK ?_
      refine ag.cond (ab rfl) (fun ak=> ?_) (fun ak=> ?_)
      ·replace h:=mF ak h
       refine aF ?_
       refine aL ?_
       refine aK ?_
       refine ag.ret ?_
       refine ae.dn ?_
       refine ae.ret ?_
       exact ae.rT h () 0 rfl (by simp) rfl (.same rfl (.same rfl (.same rfl (.same rfl (.same rfl (.same rfl (.same rfl (.same rfl (.same rfl (.same rfl (.same rfl (.same rfl (.same rfl (.same rfl (.same rfl (.same rfl (.same rfl (.same rfl (.same rfl (.same rfl (.same rfl .nil)))))))))))))))))))))
      ·replace h:=mG ak h
       refine ag.skip ?_
       refine ae.ea ?_
       refine ae.next ?_
       refine ag.cz ?_
       refine aD ?_
       refine bm ix ?_
       refine aL ?_
       refine ah.nil ?_
       exact ae.x1 h () 0 rfl (.same rfl (.same rfl (.same rfl (.same rfl (.same rfl (.same rfl (.same rfl (.same rfl (.same rfl (.same rfl (.same rfl (.same rfl (.same rfl (.same rfl (.same rfl (.same rfl (.same rfl (.same rfl (.same rfl .nil)))))))))))))))))))
     ·replace h:=mG ak h
      refine ag.exit ?_
      refine ae.exit ?_
      exact ae.rT h () 0 rfl (by simp) rfl (.same rfl (.same rfl (.same rfl (.same rfl (.same rfl (.same rfl (.same rfl (.same rfl (.same rfl (.same rfl (.same rfl (.same rfl (.same rfl (.same rfl (.same rfl (.same rfl (.same rfl (.same rfl (.same rfl (.same rfl .nil))))))))))))))))))))
    ·rcases c4 with c4 | c4
     ·simp only [Sum.elim_inl] at h
      refine ae.fM ?_
      refine ae.next ?_
      refine ag.seq ?_
      refine aF ?_
      refine aD ?_
      refine ah.iR 5 0 rfl PJ (K6 h) rfl rfl ⟨ab rfl,trivial⟩ rfl fun⟨⟨nr,h⟩,acC⟩=> ?_
      refine ah.dR (L2:=(⟨aq.1,.row 52 (av.2.2.1:List aA) aq.2⟩ :: ⟨some er,.var (av.2.2.2.1:bf)⟩ :: ⟨some dZ,.var (bn.2.2.1:bf)⟩ :: ⟨some aZ,.var (aJ.1:a3)⟩ :: ⟨some az,.var (aJ.2:bf)⟩ :: aV nr.2)) rfl ?_
      refine aD ?_
      refine ah.iR 5 0 rfl PJ (K6 h) rfl rfl ⟨ab rfl,trivial⟩ rfl fun⟨⟨ji,h⟩,acD⟩=> ?_
      refine ah.dR (L2:=(⟨aq.1,.row 52 (av.2.2.1:List aA) aq.2⟩ :: ⟨some er,.var (av.2.2.2.1:bf)⟩ :: ⟨some dZ,.var (bn.2.2.1:bf)⟩ :: ⟨some aZ,.var (aJ.1:a3)⟩ :: ⟨some az,.var (aJ.2:bf)⟩ :: aV ji.2)) rfl ?_
      obtain⟨BY,ZE,h⟩:=ax.cv h
      refine e6 ZF (Sx ZE) ?_
      refine aY hP ?_
      refine aK ?_
      refine ag.cond (ab rfl) (fun ak=> ?_) (fun ak=> ?_)
      ·replace h:=mF ak h
       refine aF ?_
       refine aL ?_
       refine aK ?_
       refine ag.ret ?_
       refine ae.ret ?_
       exact ae.fi (⟨⟨(false,ji.2),h⟩,()⟩: {r // _} × _) (.cons _ (.cons _ (.cons _ (.cons _ (.cons _ (.refl _)))))) rfl rfl (dv rfl)
      ·replace h:=mG ak h
       refine cW ?_
       refine ag.seq ?_
       refine aF ?_
       refine aD ?_
       refine aY (eK Tryz.underlying38) ?_
       refine aD ?_
       refine aK ?_
       refine ag.block ?_
       obtain⟨gT,ao,h⟩:=ax.cv h
       refine ag.vF (σ:=Int × bf) (ε:=(Int × Bool × bf) ⊕ (Bool × Bool × Int × Bool × Bool × bf)) (γ:=Unit) (δ:=Unit) ao (fun ny k9=> [(0,I.of (aa)),(1,I.of (aj)),(2,I.of (aP)),(3,I.of (bR)),(8,I.of (false)),(9,I.eq (.pointer (some ⟨aZ,0,none⟩))),(10,I.eq (.pointer (some ⟨dZ,0,none⟩))),(11,I.of (bn.1)),(12,I.of (bn.2.1)),(13,I.eq (.pointer (some ⟨er,0,none⟩))),(14,I.of (c8.1)),(15,I.eq (a2 aq.1 av.2.2.1.length aq.2)),(16,I.of (av.1)),(22,I.of (c4.1)),(61,I.of (av.2.1)),(78,I.eq (a2 aq.1 av.2.2.1.length aq.2)),(79,I.of (av.2.2.1.length:Int)),(80,I.of (aX.1)),(81,I.of (aX.2.1)),(104,I.of (c4.2.1)),(119,I.of (!BY)),(120,I.of (bn.2.1)),(121,I.of (bn.2.1.length:Int)),(122,I.of (ny.1))]) (fun ny k9=>(⟨aq.1,.row 52 (av.2.2.1:List aA) aq.2⟩ :: ⟨some er,.var (av.2.2.2.1:bf)⟩ :: ⟨some dZ,.var (ny.2:bf)⟩ :: ⟨some aZ,.var (aJ.1:a3)⟩ :: ⟨some az,.var (aJ.2:bf)⟩ :: aV ji.2)) (fun k5=>Sum.elim (fun k5=>Exit.exit 6) (fun k5=>Exit.ret) k5) (fun k5 k9=>Sum.elim (fun k5=> [(0,I.of (aa)),(1,I.of (aj)),(2,I.of (aP)),(3,I.of (bR)),(8,I.of (false)),(9,I.eq (.pointer (some ⟨aZ,0,none⟩))),(10,I.eq (.pointer (some ⟨dZ,0,none⟩))),(11,I.of (bn.1)),(12,I.of (bn.2.1)),(13,I.eq (.pointer (some ⟨er,0,none⟩))),(14,I.of (c8.1)),(15,I.eq (a2 aq.1 av.2.2.1.length aq.2)),(16,I.of (av.1)),(22,I.of (c4.1)),(61,I.of (av.2.1)),(78,I.eq (a2 aq.1 av.2.2.1.length aq.2)),(79,I.of (av.2.2.1.length:Int)),(80,I.of (aX.1)),(81,I.of (aX.2.1)),(104,I.of (c4.2.1)),(119,I.of (!BY)),(120,I.of (bn.2.1)),(121,I.of (bn.2.1.length:Int)),(122,I.of (k5.1)),(123,I.of (k5.2.1))]) (fun k5=> [(0,I.of (aa)),(1,I.of (aj)),(2,I.of (aP)),(3,I.of (bR)),(8,I.of (false)),(9,I.eq (.pointer (some ⟨aZ,0,none⟩))),(10,I.eq (.pointer (some ⟨dZ,0,none⟩))),(11,I.of (bn.1)),(12,I.of (bn.2.1)),(13,I.eq (.pointer (some ⟨er,0,none⟩))),(14,I.of (c8.1)),(15,I.eq (a2 aq.1 av.2.2.1.length aq.2)),(16,I.of (av.1)),(22,I.of (c4.1)),(27,I.of (k5.1)),(29,I.of (k5.2.1)),(61,I.of (av.2.1)),(78,I.eq (a2 aq.1 av.2.2.1.length aq.2)),(79,I.of (av.2.2.1.length:Int)),(80,I.of (aX.1)),(81,I.of (aX.2.1)),(104,I.of (c4.2.1)),(119,I.of (!BY)),(120,I.of (bn.2.1)),(121,I.of (bn.2.1.length:Int)),(122,I.of (k5.2.2.1)),(123,I.of (k5.2.2.2.1)),(154,I.of (k5.2.2.2.2.1))]) k5) (fun k5 k9=>Sum.elim (fun k5=>(⟨aq.1,.row 52 (av.2.2.1:List aA) aq.2⟩ :: ⟨some er,.var (av.2.2.2.1:bf)⟩ :: ⟨some dZ,.var (k5.2.2:bf)⟩ :: ⟨some aZ,.var (aJ.1:a3)⟩ :: ⟨some az,.var (aJ.2:bf)⟩ :: aV ji.2)) (fun k5=>(⟨aq.1,.row 52 (av.2.2.1:List aA) aq.2⟩ :: ⟨some er,.var (av.2.2.2.1:bf)⟩ :: ⟨some dZ,.var (k5.2.2.2.2.2:bf)⟩ :: ⟨some aZ,.var (aJ.1:a3)⟩ :: ⟨some az,.var (aJ.2:bf)⟩ :: aV ji.2)) k5) () rfl (.same rfl (.same rfl (.same rfl (.same rfl (.same rfl (.same rfl (.same rfl (.same rfl (.same rfl (.same rfl (.same rfl (.same rfl (.same rfl (.same rfl (.same rfl (.same rfl (.same rfl (.same rfl (.same rfl (.same rfl (.same rfl (.same rfl (.same rfl (.same rfl .nil)))))))))))))))))))))))) (fun ny r h k9=> ?_) (fun k9=> ?_)
       ·clear ao
        refine aF ?_
        refine bm eT ?_
        refine bO ?_
        refine cm h (fun h=>?_) fun h=>?_
        ·refine cW ?_
         refine ag.seq ?_
         refine ag.block ?_
         refine aF ?_
         obtain⟨fu,mR,h⟩:=aw h
         refine hU mR Tryz.underlying38 cg ?_
         refine aY (dV cg) ?_
         refine c1 gh fun iY=> ?_
         refine cA 0 cg ?_
         refine bO ?_
         obtain⟨sr,ZG,h⟩:=aw h
         obtain⟨ss,ZH,h⟩:=aw h
         refine ag.OZ 1 6 ?_
         refine iz [0,1,2,3,8,9,10,11,12,13,14,15,16,22,24,61,78,79,80,81,104,119,120,121,122,123,124,125] ?_
         refine ag.pP 7 mixed (a6 126 [] [] _ :: a6 127 (0 :: []) (0 :: []) _ :: a6 128 [] [] _ :: ⟨some 129,(2 :: []),(3 :: []),(3 :: []),fun _=>I.of (sr.1),fun hd _=>⟨some dZ,.var (sr.2:bf)⟩⟩ :: a6 130 (1 :: 3 :: []) [] _ :: ⟨some 25,[],(6 :: []),(6 :: []),fun hd=>I.eq (.pointer (some ⟨((hd 5 0).getD 0),0,none⟩)),fun hd _=>⟨some ((hd 5 0).getD 0),.var ((default:Vector ar 4):Vector ar 4)⟩⟩ :: ⟨none,(4 :: 5 :: []),(6 :: []),(6 :: []),fun _=>I.any,fun hd _=>⟨some ((hd 5 0).getD 0),.var (ss:Vector ar 4)⟩⟩ :: []) _ (0 :: 1 :: 2 :: 3 :: 8 :: 9 :: 10 :: 11 :: 12 :: 13 :: 14 :: 15 :: 16 :: 22 :: 24 :: 61 :: 78 :: 79 :: 80 :: 81 :: 104 :: 119 :: 120 :: 121 :: 122 :: 123 :: 124 :: 125 :: []) rfl rfl (by kernel_rfl) (by kernel_rfl) ⟨ct.q (fe (aT ll)),ct.q (n6 0 kq hf),ct.q (e2),?_,ct.q (b8 fun hd E' L' aB al=>iG ZI (SC ZH) ⟨ab (aB _ _ rfl),ab (aB _ _ rfl),trivial⟩),?_,?_,trivial⟩ fun eP=> ?_
         ·intro hd E' L' aB al de
          refine ah.bz 3 (al 3 _ rfl rfl) ?_
          refine ah.lP (Lin:= [⟨some dZ,.var (ny.2:bf)⟩]) (Lr:=L'.eraseIdx 3) ZJ (R0 ZG) ⟨ab (aB _ _ rfl),trivial⟩ rfl fun acE=> ?_
          refine ah.nil ?_
          refine ae.back 3 (al 3 _ rfl rfl) ?_
          exact ae.fin (dY []) rfl rfl
         ·intro hd E' L' aB al de
          refine c1 ym fun kJ=> ?_
          refine ah.nil ?_
          refine ae.place 6 (al 6 _ rfl rfl) ?_
          exact ae.fin (dY [some kJ]) rfl rfl
         ·intro hd E' L' aB al de
          refine ah.store (i:=6) (aN.id (Vector ar 4)) (v:=(ss:Vector ar 4)) (b':=(ss:Vector ar 4)) jx (ab (aB _ _ rfl)) (ab (aB _ _ rfl)) (al 6 _ rfl rfl) rfl rfl ?_
          refine ah.nil ?_
          exact ae.fin (dY []) rfl rfl
         refine ae.dR (L2:=(⟨some iY,.var (aE bn.2.1 fu:aA)⟩ :: ⟨aq.1,.row 52 (av.2.2.1:List aA) aq.2⟩ :: ⟨some er,.var (av.2.2.2.1:bf)⟩ :: ⟨some dZ,.var (sr.2:bf)⟩ :: ⟨some aZ,.var (aJ.1:a3)⟩ :: ⟨some az,.var (aJ.2:bf)⟩ :: ⟨some ((eP 5 0).getD 0),.var (ss:Vector ar 4)⟩ :: aV ji.2)) rfl ?_
         refine jC [0,1,2,3,8,9,10,11,12,13,14,15,16,22,24,25,61,78,79,80,81,104,119,120,121,122,123,124,125,126,127,128,129,130] ?_
         refine ae.bz 6 rfl ?_
         refine ae.next ?_
         refine aF ?_
         refine aD ?_
         refine cG 0 jx ?_
         obtain⟨wm,ZK,h⟩:=aw h
         refine ah.iM (fG.jd 7 rfl PK (KY ZK) ⟨ab rfl,ab rfl,trivial⟩) rfl rfl rfl ?_
         refine aD ?_
         refine gr ?_
         refine gr ?_
         refine c1 gh fun sK=> ?_
         refine cA 0 cg ?_
         refine aL ?_
         refine b0 ?_
         refine aD ?_
         refine cG 1 jx ?_
         obtain⟨wo,ZL,h⟩:=aw h
         refine ah.iM (fG.jd 8 rfl PK (KY ZL) ⟨ab rfl,ab rfl,trivial⟩) rfl rfl rfl ?_
         refine aD ?_
         refine gr ?_
         refine gr ?_
         refine c1 gh fun ac5=> ?_
         refine cA 0 cg ?_
         refine aL ?_
         refine b0 ?_
         refine aD ?_
         refine aY hP ?_
         refine aD ?_
         refine ey cM ?_
         refine ey hP ?_
         refine sl ?_
         refine aD ?_
         refine ep (fun hb=>eA (i:=1) (aN.id aA) (r:=wm.1) cg (ab rfl) rfl rfl rfl) ?_
         refine ep (fun hb=>eA (i:=0) (aN.id aA) (r:=wo.1) cg (ab rfl) rfl rfl rfl) ?_
         obtain⟨Ft,ZM,h⟩:=aw h
         refine ep (fun hb=>iG I4 (GO (fE ZM hb)) ⟨cb rfl hb,cb rfl hb,trivial⟩) ?_
         refine ey hP ?_
         refine sl ?_
         refine aK ?_
         refine cm h (fun h=>?_) fun h=>?_
         ·refine aF ?_
          refine aL ?_
          refine aK ?_
          refine ag.ret ?_
          refine ae.dn ?_
          refine ae.ret ?_
          obtain rfl:=aI h
          exact eD () 4
         ·refine ag.skip ?_
          refine ae.ea ?_
          refine ae.next ?_
          refine ag.cz ?_
          refine bm dI ?_
          refine aD ?_
          refine ah.nil ?_
          obtain rfl:=aI h
          exact gP () 4
        ·refine ag.exit ?_
         refine ae.exit ?_
         obtain rfl:=aI h
         exact eD () 0
       ·clear ao
        rcases gT with gT | gT
        ·simp only [Sum.elim_inl] at h
         refine ae.fM ?_
         refine ae.next ?_
         refine aF ?_
         refine ah.iR 5 0 rfl ZN (SJ h) rfl rfl trivial rfl fun⟨⟨wq,h⟩,acF⟩=> ?_
         refine ah.dR (L2:=(⟨aq.1,.row 52 (av.2.2.1:List aA) aq.2⟩ :: ⟨some er,.var (av.2.2.2.1:bf)⟩ :: ⟨some dZ,.var (gT.2.2:bf)⟩ :: ⟨some aZ,.var (aJ.1:a3)⟩ :: ⟨some az,.var (aJ.2:bf)⟩ :: aV wq.2)) rfl ?_
         refine aL ?_
         refine aK ?_
         refine ag.ret ?_
         exact ae.fi (⟨⟨(wq.1,wq.2),h⟩,()⟩: {r // _} × _) (.cons _ (.cons _ (.cons _ (.cons _ (.cons _ (.refl _)))))) rfl rfl (dv rfl)
        ·simp only [Sum.elim_inr] at h
         refine ae.dn ?_
         refine ae.ret ?_
         exact ae.fi (⟨⟨(false,ji.2),h⟩,()⟩: {r // _} × _) (.cons _ (.cons _ (.cons _ (.cons _ (.cons _ (.refl _)))))) rfl rfl (dv rfl)
     ·simp only [Sum.elim_inr] at h
      refine ae.dn ?_
      refine ae.ret ?_
      exact ae.fi (⟨⟨(false,c4.2.2.2),h⟩,()⟩: {r // _} × _) (.cons _ (.cons _ (.cons _ (.cons _ (.cons _ (.refl _)))))) rfl rfl (dv rfl)
   ·simp only [Sum.elim_inr] at h
    refine ae.dn ?_
    refine ae.ret ?_
    exact ae.fi (⟨⟨(false,aX.2.2.2.2),h⟩,()⟩: {r // _} × _) (.cons _ (.cons _ (.cons _ (.cons _ (.cons _ (.refl _)))))) rfl rfl (dv rfl)
end Go.Proofs.YtmnggbjcnoffeaaGreat
