/-
  Each function meets its functional program. Conditions: none.
-/
import Derived.Test.YtmnggbjcnoffeaaGreatMc0
import Derived.Test.YtmnggbjcnoffeaaGreatMc1
set_option linter.unusedVariables false
set_option linter.unusedSimpArgs false
set_option maxRecDepth 100000
set_option maxHeartbeats 2000000
namespace Go.Proofs.YtmnggbjcnoffeaaGreat
open Go Gv
theorem Q2 {hp:aN Cell} {aa:List (BitVec 8)} {aj:List (BitVec 8)} {Q:Bool × (aN Cell)→Prop} (h:yQ hp aa aj Q):bO Tryz.prog 11 [I.of (aa),I.of (aj)] ([] ++ aV hp) (δ:= {r:Bool × (aN Cell) // Q r} × Unit) (fun d=>I.of (d.1.1.1)) (fun d=> [] ++ aV d.1.1.2):=by
 unfold yQ at h
 refine bO.of Tryz.func11 rfl Tryz.ntmps11 rfl fun W A=> ?_
 refine aE ?_
 refine aO ?_
 refine b5 ?_
 refine aC ?_
 obtain⟨aB,bu,h⟩:=aq.cf h
 refine eE 0 Io (Ga bu) fun ax=> ?_
 refine ah.bU 0 rfl ?_
 obtain⟨aH,cB,h⟩:=aq.cf h
 refine eE 1 Ot (Ka cB) fun et=> ?_
 refine aC ?_
 obtain⟨bn,fF,h⟩:=aq.cf h
 refine eE 0 Io (Ga fF) fun cr=> ?_
 refine dJ Eo fun aW=> ?_
 refine cY 0 iv ?_
 refine aO ?_
 refine b5 ?_
 refine cR 0 iv ?_
 refine ah.h1 3 0 rfl Ou (KG h) rfl rfl ⟨ab rfl,trivial⟩ rfl fun⟨⟨bD,h⟩,mh⟩=> ?_
 refine ah.eo (L2:=(⟨some aW,.var (aH.1:a1)⟩ :: ⟨some cr,.var (bn:bf)⟩ :: ⟨some ax,.var (aH.2:bf)⟩ :: aV bD.2)) rfl ?_
 refine aO ?_
 refine bY ?_
 refine aE ?_
 refine aO ?_
 refine aM ?_
 refine ai.block ?_
 refine ai.w3 (σ:=Int × bf × (aN Cell)) (ε:=(Int × Bool × bf × (aN Cell)) ⊕ (Int × Int × Int × Bool × Int × Bool × Int × Bool × Int × Bool × Bool × bf × (aN Cell))) (γ:=Unit) (δ:=Unit) h (fun s1 av=> [(0,I.of (aa)),(1,I.of (aj)),(4,I.of (false)),(5,I.eq (.pointer (some ⟨aW,0,none⟩))),(6,I.eq (.pointer (some ⟨cr,0,none⟩))),(7,I.of (bD.1)),(8,I.of (s1.1))]) (fun s1 av=>(⟨some aW,.var (aH.1:a1)⟩ :: ⟨some cr,.var (s1.2.1:bf)⟩ :: ⟨some ax,.var (aH.2:bf)⟩ :: aV s1.2.2)) (fun eu=>Sum.elim (fun eu=>Exit.exit 0) (fun eu=>Exit.ret) eu) (fun eu av=>Sum.elim (fun eu=> [(0,I.of (aa)),(1,I.of (aj)),(4,I.of (false)),(5,I.eq (.pointer (some ⟨aW,0,none⟩))),(6,I.eq (.pointer (some ⟨cr,0,none⟩))),(7,I.of (bD.1)),(8,I.of (eu.1)),(26,I.of (eu.2.1))]) (fun eu=> [(0,I.of (aa)),(1,I.of (aj)),(4,I.of (false)),(5,I.eq (.pointer (some ⟨aW,0,none⟩))),(6,I.eq (.pointer (some ⟨cr,0,none⟩))),(7,I.of (bD.1)),(8,I.of (eu.1)),(9,I.of (eu.2.1)),(13,I.of (eu.2.2.1)),(26,I.of (eu.2.2.2.1)),(35,I.of (eu.2.2.2.2.1)),(36,I.of (eu.2.2.2.2.2.1)),(45,I.of (eu.2.2.2.2.2.2.1)),(49,I.of (eu.2.2.2.2.2.2.2.1)),(54,I.of (eu.2.2.2.2.2.2.2.2.1)),(55,I.of (eu.2.2.2.2.2.2.2.2.2.1)),(70,I.of (eu.2.2.2.2.2.2.2.2.2.2.1))]) eu) (fun eu av=>Sum.elim (fun eu=>(⟨some aW,.var (aH.1:a1)⟩ :: ⟨some cr,.var (eu.2.2.1:bf)⟩ :: ⟨some ax,.var (aH.2:bf)⟩ :: aV eu.2.2.2)) (fun eu=>(⟨some aW,.var (aH.1:a1)⟩ :: ⟨some cr,.var (eu.2.2.2.2.2.2.2.2.2.2.2.1:bf)⟩ :: ⟨some ax,.var (aH.2:bf)⟩ :: aV eu.2.2.2.2.2.2.2.2.2.2.2.2)) eu) () rfl (.same rfl (.same rfl (.same rfl (.same rfl (.same rfl (.same rfl (.same rfl .nil))))))) (fun s1 R h av=> ?_) (fun aF h av=> ?_)
 ·refine ai.seq ?_
  refine aE ?_
  refine aC ?_
  refine bs e1 ?_
  refine aC ?_
  refine dB ch ?_
  obtain⟨b0,hS,h⟩:=aq.cf h
  refine eQ (fun hb=>b4.W6 (z:=(s1.2.1:bf)) 1 24 rfl (fun _ _ _ h=>h.1 hb) rfl Db (ly Ob (QJ (ga hS hb)) ⟨ab rfl,trivial⟩)) ?_
  refine k9 ?_
  refine aM ?_
  refine ai.cond (ab rfl) (fun ak=> ?_) (fun ak=> ?_)
  ·replace h:=kE ak h
   refine c4 ?_
   refine ai.seq ?_
   refine ai.block ?_
   refine aE ?_
   refine aC ?_
   refine ah.bU 1 rfl ?_
   obtain⟨cl,il,h⟩:=aq.cf h
   refine eE 1 gh (fZ il) fun lk=> ?_
   refine aO ?_
   refine b5 ?_
   refine aC ?_
   refine cR 1 iv ?_
   refine aC ?_
   refine ah.bU 0 rfl ?_
   obtain⟨bg,mG,h⟩:=aq.cf h
   refine eE 1 YA (QU mG) fun B2=> ?_
   refine dJ u3 fun a2=> ?_
   refine cY 0 fP ?_
   refine b5 ?_
   refine dJ YB fun bF=> ?_
   refine bY ?_
   refine aE ?_
   refine aC ?_
   refine aM ?_
   refine ai.block ?_
   refine ai.w3 (σ:=Int × (Vector (List aw) 5) × (aN Cell)) (ε:=(Int × Bool × (Vector (List aw) 5) × (aN Cell))) (γ:=Unit) (δ:=Unit) h (fun s2 bm=> [(0,I.of (aa)),(1,I.of (aj)),(4,I.of (false)),(5,I.eq (.pointer (some ⟨aW,0,none⟩))),(6,I.eq (.pointer (some ⟨cr,0,none⟩))),(7,I.of (bD.1)),(8,I.of (s1.1)),(9,I.of (cl.1)),(10,I.eq (.pointer (some ⟨a2,0,none⟩))),(11,I.eq (.pointer (some ⟨bF,0,none⟩))),(26,I.of ((decide (s1.1 < 20)) && b0)),(35,I.of (s2.1))]) (fun s2 bm=>(⟨some bF,.var (s2.2.1:Vector (List aw) 5)⟩ :: ⟨some a2,.var (bg.1:bh)⟩ :: ⟨some cr,.var (bg.2:bf)⟩ :: ⟨some aW,.var (aH.1:a1)⟩ :: ⟨some ax,.var (aH.2:bf)⟩ :: aV s2.2.2)) (fun qC=>Exit.exit 2) (fun qC bm=> [(0,I.of (aa)),(1,I.of (aj)),(4,I.of (false)),(5,I.eq (.pointer (some ⟨aW,0,none⟩))),(6,I.eq (.pointer (some ⟨cr,0,none⟩))),(7,I.of (bD.1)),(8,I.of (s1.1)),(9,I.of (cl.1)),(10,I.eq (.pointer (some ⟨a2,0,none⟩))),(11,I.eq (.pointer (some ⟨bF,0,none⟩))),(26,I.of ((decide (s1.1 < 20)) && b0)),(35,I.of (qC.1)),(36,I.of (qC.2.1))]) (fun qC bm=>(⟨some bF,.var (qC.2.2.1:Vector (List aw) 5)⟩ :: ⟨some a2,.var (bg.1:bh)⟩ :: ⟨some cr,.var (bg.2:bf)⟩ :: ⟨some aW,.var (aH.1:a1)⟩ :: ⟨some ax,.var (aH.2:bf)⟩ :: aV qC.2.2.2)) () rfl (.same rfl (.same rfl (.same rfl (.same rfl (.same rfl (.same rfl (.same rfl (.same rfl (.same rfl (.same rfl (.same rfl (.same rfl .nil)))))))))))) (fun s2 R h bm=> ?_) (fun aR h bm=> ?_)
   ·refine aE ?_
    refine bs e1 ?_
    refine bY ?_
    refine ai.cond (ab rfl) (fun ak=> ?_) (fun ak=> ?_)
    ·replace h:=kE ak h
     refine c4 ?_
     refine ai.seq ?_
     refine ai.block ?_
     refine aE ?_
     refine aC ?_
     refine aO ?_
     refine aM ?_
     refine ai.cE ?_
     refine aC ?_
     refine aC ?_
     refine aC ?_
     refine ah.h1 5 0 rfl AX (yO h) rfl rfl ⟨ab rfl,ab rfl,trivial⟩ rfl fun⟨⟨fe,h⟩,pO⟩=> ?_
     refine ah.eo (L2:=(⟨some bF,.var (s2.2.1:Vector (List aw) 5)⟩ :: ⟨some a2,.var (bg.1:bh)⟩ :: ⟨some cr,.var (bg.2:bf)⟩ :: ⟨some aW,.var (aH.1:a1)⟩ :: ⟨some ax,.var (aH.2:bf)⟩ :: aV fe.2)) rfl ?_
     obtain⟨bj,cQ,h⟩:=aq.cf h
     refine bp (jH (k:=bj) xv (ab rfl) (ab rfl) (da cQ)) ?_
     refine vm 0 ((aQ.id (Vector (List aw) 5)).comp (aQ.idx (α:=List aw) 5 bj (da cQ).1)) mE ?_
     refine ah.nil ?_
     refine ae.eC ?_
     refine ae.next ?_
     refine ai.cE ?_
     refine bs dX ?_
     refine aC ?_
     refine ah.nil ?_
     exact ae.w4 h () 0 rfl (.same rfl (.same rfl (.same rfl (.same rfl (.same rfl (.same rfl (.same rfl (.same rfl (.same rfl (.same rfl (.same rfl (.same rfl .nil))))))))))))
    ·replace h:=kF ak h
     refine ai.exit ?_
     refine ae.exit ?_
     exact ae.q7 h () 0 rfl (by simp) rfl (.same rfl (.same rfl (.same rfl (.same rfl (.same rfl (.same rfl (.same rfl (.same rfl (.same rfl (.same rfl (.same rfl (.same rfl (.same rfl .nil)))))))))))))
   ·refine ae.gE ?_
    refine ae.next ?_
    refine ai.seq ?_
    refine aE ?_
    refine aC ?_
    refine ah.bU 2 rfl ?_
    obtain⟨b3,px,h⟩:=aq.cf h
    refine eE 1 gh (fZ px) fun EM=> ?_
    refine aM ?_
    refine ai.block ?_
    refine aE ?_
    refine bs gI ?_
    refine aO ?_
    refine aM ?_
    refine ai.uv (γ:=Unit) h (fun bB bS=> [(0,I.of (aa)),(1,I.of (aj)),(4,I.of (false)),(5,I.eq (.pointer (some ⟨aW,0,none⟩))),(6,I.eq (.pointer (some ⟨cr,0,none⟩))),(7,I.of (bD.1)),(8,I.of (s1.1)),(9,I.of (cl.1)),(10,I.eq (.pointer (some ⟨a2,0,none⟩))),(11,I.eq (.pointer (some ⟨bF,0,none⟩))),(26,I.of ((decide (s1.1 < 20)) && b0)),(35,I.of (aR.1)),(36,I.of (aR.2.1)),(45,I.of (b3.1)),(49,I.of (b3.1 ==0))]) (fun bB bS=>(⟨some cr,.var (b3.2:bf)⟩ :: ⟨some bF,.var (aR.2.2.1:Vector (List aw) 5)⟩ :: ⟨some a2,.var (bg.1:bh)⟩ :: ⟨some aW,.var (aH.1:a1)⟩ :: ⟨some ax,.var (aH.2:bf)⟩ :: aV bB)) (ab rfl) (fun bB bS h=> ?_) (fun hm ak h=> ?_) (fun hm ak h=> ?_)
    ·refine ae.eC ?_
     refine ae.next ?_
     refine aE ?_
     refine aC ?_
     refine aM ?_
     refine ai.block ?_
     refine ai.w3 (σ:=Int × (aN Cell)) (ε:=(Int × Bool × (aN Cell)) ⊕ (Int × Int × Bool × Bool × (aN Cell))) (γ:=Unit) (δ:=Unit) h (fun aZ dq=> [(0,I.of (aa)),(1,I.of (aj)),(4,I.of (false)),(5,I.eq (.pointer (some ⟨aW,0,none⟩))),(6,I.eq (.pointer (some ⟨cr,0,none⟩))),(7,I.of (bD.1)),(8,I.of (s1.1)),(9,I.of (cl.1)),(10,I.eq (.pointer (some ⟨a2,0,none⟩))),(11,I.eq (.pointer (some ⟨bF,0,none⟩))),(26,I.of ((decide (s1.1 < 20)) && b0)),(35,I.of (aR.1)),(36,I.of (aR.2.1)),(45,I.of (b3.1)),(49,I.of (b3.1 ==0)),(54,I.of (aZ.1))]) (fun aZ dq=>(⟨some cr,.var (b3.2:bf)⟩ :: ⟨some bF,.var (aR.2.2.1:Vector (List aw) 5)⟩ :: ⟨some a2,.var (bg.1:bh)⟩ :: ⟨some aW,.var (aH.1:a1)⟩ :: ⟨some ax,.var (aH.2:bf)⟩ :: aV aZ.2)) (fun ku=>Sum.elim (fun ku=>Exit.exit 5) (fun ku=>Exit.ret) ku) (fun ku dq=>Sum.elim (fun ku=> [(0,I.of (aa)),(1,I.of (aj)),(4,I.of (false)),(5,I.eq (.pointer (some ⟨aW,0,none⟩))),(6,I.eq (.pointer (some ⟨cr,0,none⟩))),(7,I.of (bD.1)),(8,I.of (s1.1)),(9,I.of (cl.1)),(10,I.eq (.pointer (some ⟨a2,0,none⟩))),(11,I.eq (.pointer (some ⟨bF,0,none⟩))),(26,I.of ((decide (s1.1 < 20)) && b0)),(35,I.of (aR.1)),(36,I.of (aR.2.1)),(45,I.of (b3.1)),(49,I.of (b3.1 ==0)),(54,I.of (ku.1)),(55,I.of (ku.2.1))]) (fun ku=> [(0,I.of (aa)),(1,I.of (aj)),(4,I.of (false)),(5,I.eq (.pointer (some ⟨aW,0,none⟩))),(6,I.eq (.pointer (some ⟨cr,0,none⟩))),(7,I.of (bD.1)),(8,I.of (s1.1)),(9,I.of (cl.1)),(10,I.eq (.pointer (some ⟨a2,0,none⟩))),(11,I.eq (.pointer (some ⟨bF,0,none⟩))),(13,I.of (ku.1)),(26,I.of ((decide (s1.1 < 20)) && b0)),(35,I.of (aR.1)),(36,I.of (aR.2.1)),(45,I.of (b3.1)),(49,I.of (b3.1 ==0)),(54,I.of (ku.2.1)),(55,I.of (ku.2.2.1)),(70,I.of (ku.2.2.2.1))]) ku) (fun ku dq=>Sum.elim (fun ku=>(⟨some cr,.var (b3.2:bf)⟩ :: ⟨some bF,.var (aR.2.2.1:Vector (List aw) 5)⟩ :: ⟨some a2,.var (bg.1:bh)⟩ :: ⟨some aW,.var (aH.1:a1)⟩ :: ⟨some ax,.var (aH.2:bf)⟩ :: aV ku.2.2)) (fun ku=>(⟨some cr,.var (b3.2:bf)⟩ :: ⟨some bF,.var (aR.2.2.1:Vector (List aw) 5)⟩ :: ⟨some a2,.var (bg.1:bh)⟩ :: ⟨some aW,.var (aH.1:a1)⟩ :: ⟨some ax,.var (aH.2:bf)⟩ :: aV ku.2.2.2.2)) ku) () rfl (.same rfl (.same rfl (.same rfl (.same rfl (.same rfl (.same rfl (.same rfl (.same rfl (.same rfl (.same rfl (.same rfl (.same rfl (.same rfl (.same rfl (.same rfl (.same rfl .nil)))))))))))))))) (fun aZ R h dq=> ?_) (fun dh h dq=> ?_)
     ·refine aE ?_
      refine bs e1 ?_
      refine bY ?_
      refine ai.cond (ab rfl) (fun ak=> ?_) (fun ak=> ?_)
      ·replace h:=kE ak h
       refine c4 ?_
       refine ai.seq ?_
       refine ai.block ?_
       refine aE ?_
       refine aC ?_
       refine aO ?_
       refine bY ?_
       obtain⟨bI,cS,h⟩:=aq.cf h
       obtain⟨s6,Ef,W7⟩:=aq.ex h
       refine ai.NG mixed 14 (Array.mk (false :: false :: false :: false :: false :: false :: false :: false :: false :: false :: false :: false :: false :: false :: [])) rfl rfl ?_
       refine bx.cut (γ:=Subtype s6) 3 (Array.mk (true :: true :: true :: true :: true :: true :: true :: true :: true :: true :: true :: false :: false :: false :: [])) (fun zZ=> [(0,I.of (aa)),(1,I.of (aj)),(4,I.of (false)),(5,I.eq (.pointer (some ⟨aW,0,none⟩))),(6,I.eq (.pointer (some ⟨cr,0,none⟩))),(7,I.of (bD.1)),(8,I.of (s1.1)),(9,I.of (cl.1)),(10,I.eq (.pointer (some ⟨a2,0,none⟩))),(11,I.eq (.pointer (some ⟨bF,0,none⟩))),(13,I.of (aZ.1)),(26,I.of ((decide (s1.1 < 20)) && b0)),(35,I.of (aR.1)),(36,I.of (aR.2.1)),(45,I.of (b3.1)),(49,I.of (b3.1 ==0)),(54,I.of (aZ.1)),(55,I.of (decide (aZ.1 < 5))),(56,I.of (aZ.1)),(57,I.of (aZ.1)),(58,I.eq (.pointer (some ⟨a2,0 + 0,none⟩))),(59,I.of (bg.1.bo)),(60,I.of (aZ.1 !=bg.1.bo)),(61,I.of (aZ.1 !=bg.1.bo)),(62,I.cond ((aZ.1 !=bg.1.bo)=true) (I.of (bD.1))),(63,I.cond ((aZ.1 !=bg.1.bo)=true) (I.of (aZ.1))),(64,I.cond ((aZ.1 !=bg.1.bo)=true) (I.of (zZ.1.1))),(65,I.cond ((aZ.1 !=bg.1.bo)=true) (I.of (aZ.1))),(66,I.cond ((aZ.1 !=bg.1.bo)=true) (I.eq (.pointer (some ⟨bF,0 + bI * 1,none⟩)))),(67,I.cond ((aZ.1 !=bg.1.bo)=true) (I.of (b7 aR.2.2.1 bI)))]) (fun zZ=>(⟨some cr,.var (b3.2:bf)⟩ :: ⟨some bF,.var (aR.2.2.1:Vector (List aw) 5)⟩ :: ⟨some a2,.var (bg.1:bh)⟩ :: ⟨some aW,.var (aH.1:a1)⟩ :: ⟨some ax,.var (aH.2:bf)⟩ :: aV zZ.1.2)) (fun zZ=> ?_) (fun NH=> ?_)
       ·obtain⟨fJ,rp⟩:=zZ
        have h:=W7 fJ rp
        refine bx.tail 11 rfl (by kernel_rfl) ?_
        refine ah.eo (L2:=(⟨some cr,.var (b3.2:bf)⟩ :: ⟨some bF,.var (aR.2.2.1:Vector (List aw) 5)⟩ :: ⟨some a2,.var (bg.1:bh)⟩ :: ⟨some aW,.var (aH.1:a1)⟩ :: ⟨some ax,.var (aH.2:bf)⟩ :: aV fJ.2)) rfl ?_
        refine ah.le (E':= [(0,I.of (aa)),(1,I.of (aj)),(4,I.of (false)),(5,I.eq (.pointer (some ⟨aW,0,none⟩))),(6,I.eq (.pointer (some ⟨cr,0,none⟩))),(7,I.of (bD.1)),(8,I.of (s1.1)),(9,I.of (cl.1)),(10,I.eq (.pointer (some ⟨a2,0,none⟩))),(11,I.eq (.pointer (some ⟨bF,0,none⟩))),(13,I.of (aZ.1)),(26,I.of ((decide (s1.1 < 20)) && b0)),(35,I.of (aR.1)),(36,I.of (aR.2.1)),(45,I.of (b3.1)),(49,I.of (b3.1 ==0)),(54,I.of (aZ.1)),(55,I.of (decide (aZ.1 < 5))),(56,I.of (aZ.1)),(57,I.of (aZ.1)),(58,I.eq (.pointer (some ⟨a2,0 + 0,none⟩))),(59,I.of (bg.1.bo)),(60,I.of (aZ.1 !=bg.1.bo)),(61,I.of (aZ.1 !=bg.1.bo)),(62,I.cond ((aZ.1 !=bg.1.bo)=true) (I.of (bD.1))),(63,I.cond ((aZ.1 !=bg.1.bo)=true) (I.of (aZ.1))),(64,I.cond ((aZ.1 !=bg.1.bo)=true) (I.of (fJ.1))),(65,I.cond ((aZ.1 !=bg.1.bo)=true) (I.of (aZ.1))),(66,I.cond ((aZ.1 !=bg.1.bo)=true) (I.eq (.pointer (some ⟨bF,0 + bI * 1,none⟩)))),(67,I.cond ((aZ.1 !=bg.1.bo)=true) (I.of (b7 aR.2.2.1 bI)))]) (.same rfl (.same rfl (.same rfl (.same rfl (.same rfl (.same rfl (.same rfl (.same rfl (.same rfl (.same rfl (.same rfl (.same rfl (.same rfl (.same rfl (.same rfl (.same rfl (.same rfl (.same rfl (.same rfl (.same rfl (.same rfl (.same rfl (.same rfl (.same rfl (.same rfl (.same rfl (.same rfl (.same rfl (.same rfl (.same rfl .nil)))))))))))))))))))))))))))))) ?_
        obtain⟨hG,rz,h⟩:=aq.cf h
        refine eQ (fun hb=>ly YC (Rw (ga rz hb)) ⟨cq rfl hb,cq rfl hb,trivial⟩) ?_
        refine dB k6 ?_
        refine k9 ?_
        refine aM ?_
        refine ai.cond (ab rfl) (fun ak=> ?_) (fun ak=> ?_)
        ·replace h:=kE ak h
         refine aE ?_
         refine aO ?_
         refine aM ?_
         refine ai.ret ?_
         refine ae.dR ?_
         refine ae.ret ?_
         exact ae.q7 h () 0 rfl (by simp) rfl (.same rfl (.same rfl (.same rfl (.same rfl (.same rfl (.same rfl (.same rfl (.same rfl (.same rfl (.same rfl (.same rfl (.same rfl (.same rfl (.same rfl (.same rfl (.same rfl (.same rfl (.same rfl (.same rfl .nil)))))))))))))))))))
        ·replace h:=kF ak h
         refine ai.skip ?_
         refine ae.eC ?_
         refine ae.next ?_
         refine ai.cE ?_
         refine bs dX ?_
         refine aC ?_
         refine ah.nil ?_
         exact ae.w4 h () 0 rfl (.same rfl (.same rfl (.same rfl (.same rfl (.same rfl (.same rfl (.same rfl (.same rfl (.same rfl (.same rfl (.same rfl (.same rfl (.same rfl (.same rfl (.same rfl (.same rfl .nil))))))))))))))))
       refine bx.cut (γ:=Unit) 4 (Array.mk (true :: true :: true :: true :: true :: true :: true :: false :: true :: true :: true :: false :: false :: false :: [])) (fun MI=> [(0,I.of (aa)),(1,I.of (aj)),(4,I.of (false)),(5,I.eq (.pointer (some ⟨aW,0,none⟩))),(6,I.eq (.pointer (some ⟨cr,0,none⟩))),(7,I.of (bD.1)),(8,I.of (s1.1)),(9,I.of (cl.1)),(10,I.eq (.pointer (some ⟨a2,0,none⟩))),(11,I.eq (.pointer (some ⟨bF,0,none⟩))),(13,I.of (aZ.1)),(26,I.of ((decide (s1.1 < 20)) && b0)),(35,I.of (aR.1)),(36,I.of (aR.2.1)),(45,I.of (b3.1)),(49,I.of (b3.1 ==0)),(54,I.of (aZ.1)),(55,I.of (decide (aZ.1 < 5))),(56,I.of (aZ.1)),(57,I.of (aZ.1)),(58,I.eq (.pointer (some ⟨a2,0 + 0,none⟩))),(59,I.of (bg.1.bo)),(60,I.of (aZ.1 !=bg.1.bo)),(61,I.of (aZ.1 !=bg.1.bo)),(62,I.cond ((aZ.1 !=bg.1.bo)=true) (I.of (bD.1))),(63,I.cond ((aZ.1 !=bg.1.bo)=true) (I.of (aZ.1))),(65,I.cond ((aZ.1 !=bg.1.bo)=true) (I.of (aZ.1))),(66,I.cond ((aZ.1 !=bg.1.bo)=true) (I.eq (.pointer (some ⟨bF,0 + bI * 1,none⟩)))),(67,I.cond ((aZ.1 !=bg.1.bo)=true) (I.of (b7 aR.2.2.1 bI)))]) (fun MI=>(⟨some cr,.var (b3.2:bf)⟩ :: ⟨some bF,.var (aR.2.2.1:Vector (List aw) 5)⟩ :: ⟨some a2,.var (bg.1:bh)⟩ :: ⟨some aW,.var (aH.1:a1)⟩ :: ⟨some ax,.var (aH.2:bf)⟩ :: aV aZ.2)) (fun MI=> ?_) (fun HV=> ?_)
       ·refine bx.step [7] (by kernel_rfl) rfl ⟨⟨_,rfl,?_⟩,trivial⟩
        ·refine ah.Fj (γ:=Unit) (k:=aq.ret) (R:=s6) Ef (fun y=>I.of (y.1)) (fun y g=>(⟨some cr,.var (b3.2:bf)⟩ :: ⟨some bF,.var (aR.2.2.1:Vector (List aw) 5)⟩ :: ⟨some a2,.var (bg.1:bh)⟩ :: ⟨some aW,.var (aH.1:a1)⟩ :: ⟨some ax,.var (aH.2:bf)⟩ :: aV y.2)) () rfl rfl rfl (Du rfl) rfl rfl (fun hb hm=>by refine eN.to ?_ (eN.h1 5 0 rfl AX (yO hm) rfl rfl ?_); exact fun _=>rfl; exact⟨cq rfl hb,cq rfl hb,trivial⟩) fun fJ _ rp=> ?_
         refine ah.nil ?_
         exact ae.any rfl (bx.le (.same rfl (.same rfl (.same rfl (.same rfl (.same rfl (.same rfl (.same rfl (.same rfl (.same rfl (.same rfl (.same rfl (.same rfl (.same rfl (.same rfl (.same rfl (.same rfl (.same rfl (.same rfl (.same rfl (.same rfl (.same rfl (.same rfl (.same rfl (.same rfl (.same rfl (.same rfl (.same rfl (.same rfl (.same rfl (.same rfl .nil)))))))))))))))))))))))))))))) (NH ⟨fJ,rp⟩))
       refine bx.cut (γ:=Subtype s6) 4 (Array.mk (true :: true :: true :: true :: true :: true :: true :: true :: true :: true :: false :: false :: false :: false :: [])) (fun z0=> [(0,I.of (aa)),(1,I.of (aj)),(4,I.of (false)),(5,I.eq (.pointer (some ⟨aW,0,none⟩))),(6,I.eq (.pointer (some ⟨cr,0,none⟩))),(7,I.of (bD.1)),(8,I.of (s1.1)),(9,I.of (cl.1)),(10,I.eq (.pointer (some ⟨a2,0,none⟩))),(11,I.eq (.pointer (some ⟨bF,0,none⟩))),(13,I.of (aZ.1)),(26,I.of ((decide (s1.1 < 20)) && b0)),(35,I.of (aR.1)),(36,I.of (aR.2.1)),(45,I.of (b3.1)),(49,I.of (b3.1 ==0)),(54,I.of (aZ.1)),(55,I.of (decide (aZ.1 < 5))),(56,I.of (aZ.1)),(57,I.of (aZ.1)),(58,I.eq (.pointer (some ⟨a2,0 + 0,none⟩))),(59,I.of (bg.1.bo)),(60,I.of (aZ.1 !=bg.1.bo)),(61,I.of (aZ.1 !=bg.1.bo)),(62,I.cond ((aZ.1 !=bg.1.bo)=true) (I.of (bD.1))),(63,I.cond ((aZ.1 !=bg.1.bo)=true) (I.of (aZ.1))),(64,I.cond ((aZ.1 !=bg.1.bo)=true) (I.of (z0.1.1))),(65,I.cond ((aZ.1 !=bg.1.bo)=true) (I.of (aZ.1))),(66,I.cond ((aZ.1 !=bg.1.bo)=true) (I.eq (.pointer (some ⟨bF,0 + bI * 1,none⟩))))]) (fun z0=>(⟨some cr,.var (b3.2:bf)⟩ :: ⟨some bF,.var (aR.2.2.1:Vector (List aw) 5)⟩ :: ⟨some a2,.var (bg.1:bh)⟩ :: ⟨some aW,.var (aH.1:a1)⟩ :: ⟨some ax,.var (aH.2:bf)⟩ :: aV z0.1.2)) (fun z0=> ?_) (fun NI=> ?_)
       ·refine bx.step [10] (by kernel_rfl) rfl ⟨⟨_,rfl,?_⟩,trivial⟩
        ·refine eQ (fun hb=>e9 (i:=1) ((aQ.id (Vector (List aw) 5)).comp (aQ.idx (α:=List aw) 5 bI (da (ga cS hb)).1)) (r:=b7 aR.2.2.1 bI) mE (cq rfl hb) rfl rfl rfl) ?_
         refine ah.nil ?_
         exact ae.any rfl (bx.le (.same rfl (.same rfl (.same rfl (.same rfl (.same rfl (.same rfl (.same rfl (.same rfl (.same rfl (.same rfl (.same rfl (.same rfl (.same rfl (.same rfl (.same rfl (.same rfl (.same rfl (.same rfl (.same rfl (.same rfl (.same rfl (.same rfl (.same rfl (.same rfl (.same rfl (.same rfl (.same rfl (.same rfl (.same rfl (.same rfl .nil)))))))))))))))))))))))))))))) (NH z0))
       refine bx.cut (γ:=Unit) 5 (Array.mk (true :: true :: true :: true :: true :: false :: true :: false :: true :: true :: true :: false :: false :: false :: [])) (fun MJ=> [(0,I.of (aa)),(1,I.of (aj)),(4,I.of (false)),(5,I.eq (.pointer (some ⟨aW,0,none⟩))),(6,I.eq (.pointer (some ⟨cr,0,none⟩))),(7,I.of (bD.1)),(8,I.of (s1.1)),(9,I.of (cl.1)),(10,I.eq (.pointer (some ⟨a2,0,none⟩))),(11,I.eq (.pointer (some ⟨bF,0,none⟩))),(13,I.of (aZ.1)),(26,I.of ((decide (s1.1 < 20)) && b0)),(35,I.of (aR.1)),(36,I.of (aR.2.1)),(45,I.of (b3.1)),(49,I.of (b3.1 ==0)),(54,I.of (aZ.1)),(55,I.of (decide (aZ.1 < 5))),(56,I.of (aZ.1)),(57,I.of (aZ.1)),(58,I.eq (.pointer (some ⟨a2,0 + 0,none⟩))),(59,I.of (bg.1.bo)),(60,I.of (aZ.1 !=bg.1.bo)),(61,I.of (aZ.1 !=bg.1.bo)),(63,I.cond ((aZ.1 !=bg.1.bo)=true) (I.of (aZ.1))),(65,I.cond ((aZ.1 !=bg.1.bo)=true) (I.of (aZ.1))),(66,I.cond ((aZ.1 !=bg.1.bo)=true) (I.eq (.pointer (some ⟨bF,0 + bI * 1,none⟩)))),(67,I.cond ((aZ.1 !=bg.1.bo)=true) (I.of (b7 aR.2.2.1 bI)))]) (fun MJ=>(⟨some cr,.var (b3.2:bf)⟩ :: ⟨some bF,.var (aR.2.2.1:Vector (List aw) 5)⟩ :: ⟨some a2,.var (bg.1:bh)⟩ :: ⟨some aW,.var (aH.1:a1)⟩ :: ⟨some ax,.var (aH.2:bf)⟩ :: aV aZ.2)) (fun MJ=> ?_) (fun NJ=> ?_)
       ·refine bx.step [5] (by kernel_rfl) rfl ⟨⟨_,rfl,?_⟩,trivial⟩
        ·refine dB ch ?_
         refine ah.nil ?_
         exact ae.any rfl (bx.le (.same rfl (.same rfl (.same rfl (.same rfl (.same rfl (.same rfl (.same rfl (.same rfl (.same rfl (.same rfl (.same rfl (.same rfl (.same rfl (.same rfl (.same rfl (.same rfl (.same rfl (.same rfl (.same rfl (.same rfl (.same rfl (.same rfl (.same rfl (.same rfl (.same rfl (.same rfl (.same rfl (.same rfl (.same rfl .nil))))))))))))))))))))))))))))) (HV ()))
       refine bx.cut (γ:=Unit) 5 (Array.mk (true :: true :: true :: true :: true :: true :: false :: false :: true :: true :: true :: false :: false :: false :: [])) (fun MK=> [(0,I.of (aa)),(1,I.of (aj)),(4,I.of (false)),(5,I.eq (.pointer (some ⟨aW,0,none⟩))),(6,I.eq (.pointer (some ⟨cr,0,none⟩))),(7,I.of (bD.1)),(8,I.of (s1.1)),(9,I.of (cl.1)),(10,I.eq (.pointer (some ⟨a2,0,none⟩))),(11,I.eq (.pointer (some ⟨bF,0,none⟩))),(13,I.of (aZ.1)),(26,I.of ((decide (s1.1 < 20)) && b0)),(35,I.of (aR.1)),(36,I.of (aR.2.1)),(45,I.of (b3.1)),(49,I.of (b3.1 ==0)),(54,I.of (aZ.1)),(55,I.of (decide (aZ.1 < 5))),(56,I.of (aZ.1)),(57,I.of (aZ.1)),(58,I.eq (.pointer (some ⟨a2,0 + 0,none⟩))),(59,I.of (bg.1.bo)),(60,I.of (aZ.1 !=bg.1.bo)),(61,I.of (aZ.1 !=bg.1.bo)),(62,I.cond ((aZ.1 !=bg.1.bo)=true) (I.of (bD.1))),(65,I.cond ((aZ.1 !=bg.1.bo)=true) (I.of (aZ.1))),(66,I.cond ((aZ.1 !=bg.1.bo)=true) (I.eq (.pointer (some ⟨bF,0 + bI * 1,none⟩)))),(67,I.cond ((aZ.1 !=bg.1.bo)=true) (I.of (b7 aR.2.2.1 bI)))]) (fun MK=>(⟨some cr,.var (b3.2:bf)⟩ :: ⟨some bF,.var (aR.2.2.1:Vector (List aw) 5)⟩ :: ⟨some a2,.var (bg.1:bh)⟩ :: ⟨some aW,.var (aH.1:a1)⟩ :: ⟨some ax,.var (aH.2:bf)⟩ :: aV aZ.2)) (fun MK=> ?_) (fun NK=> ?_)
       ·refine bx.step [6] (by kernel_rfl) rfl ⟨⟨_,rfl,?_⟩,trivial⟩
        ·refine dB ch ?_
         refine ah.nil ?_
         exact ae.any rfl (bx.le (.same rfl (.same rfl (.same rfl (.same rfl (.same rfl (.same rfl (.same rfl (.same rfl (.same rfl (.same rfl (.same rfl (.same rfl (.same rfl (.same rfl (.same rfl (.same rfl (.same rfl (.same rfl (.same rfl (.same rfl (.same rfl (.same rfl (.same rfl (.same rfl (.same rfl (.same rfl (.same rfl (.same rfl (.same rfl .nil))))))))))))))))))))))))))))) (HV ()))
       refine bx.cut (γ:=Unit) 5 (Array.mk (true :: true :: true :: true :: true :: true :: true :: false :: true :: true :: false :: false :: false :: false :: [])) (fun ML=> [(0,I.of (aa)),(1,I.of (aj)),(4,I.of (false)),(5,I.eq (.pointer (some ⟨aW,0,none⟩))),(6,I.eq (.pointer (some ⟨cr,0,none⟩))),(7,I.of (bD.1)),(8,I.of (s1.1)),(9,I.of (cl.1)),(10,I.eq (.pointer (some ⟨a2,0,none⟩))),(11,I.eq (.pointer (some ⟨bF,0,none⟩))),(13,I.of (aZ.1)),(26,I.of ((decide (s1.1 < 20)) && b0)),(35,I.of (aR.1)),(36,I.of (aR.2.1)),(45,I.of (b3.1)),(49,I.of (b3.1 ==0)),(54,I.of (aZ.1)),(55,I.of (decide (aZ.1 < 5))),(56,I.of (aZ.1)),(57,I.of (aZ.1)),(58,I.eq (.pointer (some ⟨a2,0 + 0,none⟩))),(59,I.of (bg.1.bo)),(60,I.of (aZ.1 !=bg.1.bo)),(61,I.of (aZ.1 !=bg.1.bo)),(62,I.cond ((aZ.1 !=bg.1.bo)=true) (I.of (bD.1))),(63,I.cond ((aZ.1 !=bg.1.bo)=true) (I.of (aZ.1))),(65,I.cond ((aZ.1 !=bg.1.bo)=true) (I.of (aZ.1))),(66,I.cond ((aZ.1 !=bg.1.bo)=true) (I.eq (.pointer (some ⟨bF,0 + bI * 1,none⟩))))]) (fun ML=>(⟨some cr,.var (b3.2:bf)⟩ :: ⟨some bF,.var (aR.2.2.1:Vector (List aw) 5)⟩ :: ⟨some a2,.var (bg.1:bh)⟩ :: ⟨some aW,.var (aH.1:a1)⟩ :: ⟨some ax,.var (aH.2:bf)⟩ :: aV aZ.2)) (fun ML=> ?_) (fun HW=> ?_)
       ·refine bx.step [7,10] (by kernel_rfl) rfl ⟨⟨_,rfl,?_⟩,⟨_,rfl,?_⟩,trivial⟩
        ·refine ah.Fj (γ:=Unit) (k:=aq.ret) (R:=s6) Ef (fun y=>I.of (y.1)) (fun y g=>(⟨some cr,.var (b3.2:bf)⟩ :: ⟨some bF,.var (aR.2.2.1:Vector (List aw) 5)⟩ :: ⟨some a2,.var (bg.1:bh)⟩ :: ⟨some aW,.var (aH.1:a1)⟩ :: ⟨some ax,.var (aH.2:bf)⟩ :: aV y.2)) () rfl rfl rfl (Du rfl) rfl rfl (fun hb hm=>by refine eN.to ?_ (eN.h1 5 0 rfl AX (yO hm) rfl rfl ?_); exact fun _=>rfl; exact⟨cq rfl hb,cq rfl hb,trivial⟩) fun fJ _ rp=> ?_
         refine ah.nil ?_
         exact ae.any rfl (bx.le (.same rfl (.same rfl (.same rfl (.same rfl (.same rfl (.same rfl (.same rfl (.same rfl (.same rfl (.same rfl (.same rfl (.same rfl (.same rfl (.same rfl (.same rfl (.same rfl (.same rfl (.same rfl (.same rfl (.same rfl (.same rfl (.same rfl (.same rfl (.same rfl (.same rfl (.same rfl (.same rfl (.same rfl (.same rfl .nil))))))))))))))))))))))))))))) (NI ⟨fJ,rp⟩))
        ·refine eQ (fun hb=>e9 (i:=1) ((aQ.id (Vector (List aw) 5)).comp (aQ.idx (α:=List aw) 5 bI (da (ga cS hb)).1)) (r:=b7 aR.2.2.1 bI) mE (cq rfl hb) rfl rfl rfl) ?_
         refine ah.nil ?_
         exact ae.any rfl (bx.le (.same rfl (.same rfl (.same rfl (.same rfl (.same rfl (.same rfl (.same rfl (.same rfl (.same rfl (.same rfl (.same rfl (.same rfl (.same rfl (.same rfl (.same rfl (.same rfl (.same rfl (.same rfl (.same rfl (.same rfl (.same rfl (.same rfl (.same rfl (.same rfl (.same rfl (.same rfl (.same rfl (.same rfl (.same rfl .nil))))))))))))))))))))))))))))) (HV ()))
       refine bx.cut (γ:=Subtype s6) 5 (Array.mk (true :: true :: true :: true :: true :: true :: true :: true :: true :: false :: false :: false :: false :: false :: [])) (fun z1=> [(0,I.of (aa)),(1,I.of (aj)),(4,I.of (false)),(5,I.eq (.pointer (some ⟨aW,0,none⟩))),(6,I.eq (.pointer (some ⟨cr,0,none⟩))),(7,I.of (bD.1)),(8,I.of (s1.1)),(9,I.of (cl.1)),(10,I.eq (.pointer (some ⟨a2,0,none⟩))),(11,I.eq (.pointer (some ⟨bF,0,none⟩))),(13,I.of (aZ.1)),(26,I.of ((decide (s1.1 < 20)) && b0)),(35,I.of (aR.1)),(36,I.of (aR.2.1)),(45,I.of (b3.1)),(49,I.of (b3.1 ==0)),(54,I.of (aZ.1)),(55,I.of (decide (aZ.1 < 5))),(56,I.of (aZ.1)),(57,I.of (aZ.1)),(58,I.eq (.pointer (some ⟨a2,0 + 0,none⟩))),(59,I.of (bg.1.bo)),(60,I.of (aZ.1 !=bg.1.bo)),(61,I.of (aZ.1 !=bg.1.bo)),(62,I.cond ((aZ.1 !=bg.1.bo)=true) (I.of (bD.1))),(63,I.cond ((aZ.1 !=bg.1.bo)=true) (I.of (aZ.1))),(64,I.cond ((aZ.1 !=bg.1.bo)=true) (I.of (z1.1.1))),(65,I.cond ((aZ.1 !=bg.1.bo)=true) (I.of (aZ.1)))]) (fun z1=>(⟨some cr,.var (b3.2:bf)⟩ :: ⟨some bF,.var (aR.2.2.1:Vector (List aw) 5)⟩ :: ⟨some a2,.var (bg.1:bh)⟩ :: ⟨some aW,.var (aH.1:a1)⟩ :: ⟨some ax,.var (aH.2:bf)⟩ :: aV z1.1.2)) (fun z1=> ?_) (fun NL=> ?_)
       ·refine bx.step [9] (by kernel_rfl) rfl ⟨⟨_,rfl,?_⟩,trivial⟩
        ·refine eQ (fun hb=>jH (k:=bI) xv (ab rfl) (cq rfl hb) (da (ga cS hb))) ?_
         refine ah.nil ?_
         exact ae.any rfl (bx.le (.same rfl (.same rfl (.same rfl (.same rfl (.same rfl (.same rfl (.same rfl (.same rfl (.same rfl (.same rfl (.same rfl (.same rfl (.same rfl (.same rfl (.same rfl (.same rfl (.same rfl (.same rfl (.same rfl (.same rfl (.same rfl (.same rfl (.same rfl (.same rfl (.same rfl (.same rfl (.same rfl (.same rfl (.same rfl .nil))))))))))))))))))))))))))))) (NI z1))
       refine bx.cut (γ:=Unit) 6 (Array.mk (true :: true :: true :: true :: true :: false :: false :: false :: true :: true :: true :: false :: false :: false :: [])) (fun zQ=> [(0,I.of (aa)),(1,I.of (aj)),(4,I.of (false)),(5,I.eq (.pointer (some ⟨aW,0,none⟩))),(6,I.eq (.pointer (some ⟨cr,0,none⟩))),(7,I.of (bD.1)),(8,I.of (s1.1)),(9,I.of (cl.1)),(10,I.eq (.pointer (some ⟨a2,0,none⟩))),(11,I.eq (.pointer (some ⟨bF,0,none⟩))),(13,I.of (aZ.1)),(26,I.of ((decide (s1.1 < 20)) && b0)),(35,I.of (aR.1)),(36,I.of (aR.2.1)),(45,I.of (b3.1)),(49,I.of (b3.1 ==0)),(54,I.of (aZ.1)),(55,I.of (decide (aZ.1 < 5))),(56,I.of (aZ.1)),(57,I.of (aZ.1)),(58,I.eq (.pointer (some ⟨a2,0 + 0,none⟩))),(59,I.of (bg.1.bo)),(60,I.of (aZ.1 !=bg.1.bo)),(61,I.of (aZ.1 !=bg.1.bo)),(65,I.cond ((aZ.1 !=bg.1.bo)=true) (I.of (aZ.1))),(66,I.cond ((aZ.1 !=bg.1.bo)=true) (I.eq (.pointer (some ⟨bF,0 + bI * 1,none⟩)))),(67,I.cond ((aZ.1 !=bg.1.bo)=true) (I.of (b7 aR.2.2.1 bI)))]) (fun zQ=>(⟨some cr,.var (b3.2:bf)⟩ :: ⟨some bF,.var (aR.2.2.1:Vector (List aw) 5)⟩ :: ⟨some a2,.var (bg.1:bh)⟩ :: ⟨some aW,.var (aH.1:a1)⟩ :: ⟨some ax,.var (aH.2:bf)⟩ :: aV aZ.2)) (fun zQ=> ?_) (fun Al=> ?_)
       ·refine bx.step [5,6] (by kernel_rfl) rfl ⟨⟨_,rfl,?_⟩,⟨_,rfl,?_⟩,trivial⟩
        ·refine dB ch ?_
         refine ah.nil ?_
         exact ae.any rfl (bx.le (.same rfl (.same rfl (.same rfl (.same rfl (.same rfl (.same rfl (.same rfl (.same rfl (.same rfl (.same rfl (.same rfl (.same rfl (.same rfl (.same rfl (.same rfl (.same rfl (.same rfl (.same rfl (.same rfl (.same rfl (.same rfl (.same rfl (.same rfl (.same rfl (.same rfl (.same rfl (.same rfl (.same rfl .nil)))))))))))))))))))))))))))) (NK ()))
        ·refine dB ch ?_
         refine ah.nil ?_
         exact ae.any rfl (bx.le (.same rfl (.same rfl (.same rfl (.same rfl (.same rfl (.same rfl (.same rfl (.same rfl (.same rfl (.same rfl (.same rfl (.same rfl (.same rfl (.same rfl (.same rfl (.same rfl (.same rfl (.same rfl (.same rfl (.same rfl (.same rfl (.same rfl (.same rfl (.same rfl (.same rfl (.same rfl (.same rfl (.same rfl .nil)))))))))))))))))))))))))))) (NJ ()))
       refine bx.cut (γ:=Unit) 6 (Array.mk (true :: true :: true :: true :: true :: false :: true :: false :: true :: true :: false :: false :: false :: false :: [])) (fun zR=> [(0,I.of (aa)),(1,I.of (aj)),(4,I.of (false)),(5,I.eq (.pointer (some ⟨aW,0,none⟩))),(6,I.eq (.pointer (some ⟨cr,0,none⟩))),(7,I.of (bD.1)),(8,I.of (s1.1)),(9,I.of (cl.1)),(10,I.eq (.pointer (some ⟨a2,0,none⟩))),(11,I.eq (.pointer (some ⟨bF,0,none⟩))),(13,I.of (aZ.1)),(26,I.of ((decide (s1.1 < 20)) && b0)),(35,I.of (aR.1)),(36,I.of (aR.2.1)),(45,I.of (b3.1)),(49,I.of (b3.1 ==0)),(54,I.of (aZ.1)),(55,I.of (decide (aZ.1 < 5))),(56,I.of (aZ.1)),(57,I.of (aZ.1)),(58,I.eq (.pointer (some ⟨a2,0 + 0,none⟩))),(59,I.of (bg.1.bo)),(60,I.of (aZ.1 !=bg.1.bo)),(61,I.of (aZ.1 !=bg.1.bo)),(63,I.cond ((aZ.1 !=bg.1.bo)=true) (I.of (aZ.1))),(65,I.cond ((aZ.1 !=bg.1.bo)=true) (I.of (aZ.1))),(66,I.cond ((aZ.1 !=bg.1.bo)=true) (I.eq (.pointer (some ⟨bF,0 + bI * 1,none⟩))))]) (fun zR=>(⟨some cr,.var (b3.2:bf)⟩ :: ⟨some bF,.var (aR.2.2.1:Vector (List aw) 5)⟩ :: ⟨some a2,.var (bg.1:bh)⟩ :: ⟨some aW,.var (aH.1:a1)⟩ :: ⟨some ax,.var (aH.2:bf)⟩ :: aV aZ.2)) (fun zR=> ?_) (fun Am=> ?_)
       ·refine bx.step [5,10] (by kernel_rfl) rfl ⟨⟨_,rfl,?_⟩,⟨_,rfl,?_⟩,trivial⟩
        ·refine dB ch ?_
         refine ah.nil ?_
         exact ae.any rfl (bx.le (.same rfl (.same rfl (.same rfl (.same rfl (.same rfl (.same rfl (.same rfl (.same rfl (.same rfl (.same rfl (.same rfl (.same rfl (.same rfl (.same rfl (.same rfl (.same rfl (.same rfl (.same rfl (.same rfl (.same rfl (.same rfl (.same rfl (.same rfl (.same rfl (.same rfl (.same rfl (.same rfl (.same rfl .nil)))))))))))))))))))))))))))) (HW ()))
        ·refine eQ (fun hb=>e9 (i:=1) ((aQ.id (Vector (List aw) 5)).comp (aQ.idx (α:=List aw) 5 bI (da (ga cS hb)).1)) (r:=b7 aR.2.2.1 bI) mE (cq rfl hb) rfl rfl rfl) ?_
         refine ah.nil ?_
         exact ae.any rfl (bx.le (.same rfl (.same rfl (.same rfl (.same rfl (.same rfl (.same rfl (.same rfl (.same rfl (.same rfl (.same rfl (.same rfl (.same rfl (.same rfl (.same rfl (.same rfl (.same rfl (.same rfl (.same rfl (.same rfl (.same rfl (.same rfl (.same rfl (.same rfl (.same rfl (.same rfl (.same rfl (.same rfl (.same rfl .nil)))))))))))))))))))))))))))) (NJ ()))
       refine bx.cut (γ:=Unit) 6 (Array.mk (true :: true :: true :: true :: true :: true :: false :: false :: true :: true :: false :: false :: false :: false :: [])) (fun zS=> [(0,I.of (aa)),(1,I.of (aj)),(4,I.of (false)),(5,I.eq (.pointer (some ⟨aW,0,none⟩))),(6,I.eq (.pointer (some ⟨cr,0,none⟩))),(7,I.of (bD.1)),(8,I.of (s1.1)),(9,I.of (cl.1)),(10,I.eq (.pointer (some ⟨a2,0,none⟩))),(11,I.eq (.pointer (some ⟨bF,0,none⟩))),(13,I.of (aZ.1)),(26,I.of ((decide (s1.1 < 20)) && b0)),(35,I.of (aR.1)),(36,I.of (aR.2.1)),(45,I.of (b3.1)),(49,I.of (b3.1 ==0)),(54,I.of (aZ.1)),(55,I.of (decide (aZ.1 < 5))),(56,I.of (aZ.1)),(57,I.of (aZ.1)),(58,I.eq (.pointer (some ⟨a2,0 + 0,none⟩))),(59,I.of (bg.1.bo)),(60,I.of (aZ.1 !=bg.1.bo)),(61,I.of (aZ.1 !=bg.1.bo)),(62,I.cond ((aZ.1 !=bg.1.bo)=true) (I.of (bD.1))),(65,I.cond ((aZ.1 !=bg.1.bo)=true) (I.of (aZ.1))),(66,I.cond ((aZ.1 !=bg.1.bo)=true) (I.eq (.pointer (some ⟨bF,0 + bI * 1,none⟩))))]) (fun zS=>(⟨some cr,.var (b3.2:bf)⟩ :: ⟨some bF,.var (aR.2.2.1:Vector (List aw) 5)⟩ :: ⟨some a2,.var (bg.1:bh)⟩ :: ⟨some aW,.var (aH.1:a1)⟩ :: ⟨some ax,.var (aH.2:bf)⟩ :: aV aZ.2)) (fun zS=> ?_) (fun An=> ?_)
       ·refine bx.step [6,10] (by kernel_rfl) rfl ⟨⟨_,rfl,?_⟩,⟨_,rfl,?_⟩,trivial⟩
        ·refine dB ch ?_
         refine ah.nil ?_
         exact ae.any rfl (bx.le (.same rfl (.same rfl (.same rfl (.same rfl (.same rfl (.same rfl (.same rfl (.same rfl (.same rfl (.same rfl (.same rfl (.same rfl (.same rfl (.same rfl (.same rfl (.same rfl (.same rfl (.same rfl (.same rfl (.same rfl (.same rfl (.same rfl (.same rfl (.same rfl (.same rfl (.same rfl (.same rfl (.same rfl .nil)))))))))))))))))))))))))))) (HW ()))
        ·refine eQ (fun hb=>e9 (i:=1) ((aQ.id (Vector (List aw) 5)).comp (aQ.idx (α:=List aw) 5 bI (da (ga cS hb)).1)) (r:=b7 aR.2.2.1 bI) mE (cq rfl hb) rfl rfl rfl) ?_
         refine ah.nil ?_
         exact ae.any rfl (bx.le (.same rfl (.same rfl (.same rfl (.same rfl (.same rfl (.same rfl (.same rfl (.same rfl (.same rfl (.same rfl (.same rfl (.same rfl (.same rfl (.same rfl (.same rfl (.same rfl (.same rfl (.same rfl (.same rfl (.same rfl (.same rfl (.same rfl (.same rfl (.same rfl (.same rfl (.same rfl (.same rfl (.same rfl .nil)))))))))))))))))))))))))))) (NK ()))
       refine bx.cut (γ:=Unit) 6 (Array.mk (true :: true :: true :: true :: true :: true :: true :: false :: true :: false :: false :: false :: false :: false :: [])) (fun zT=> [(0,I.of (aa)),(1,I.of (aj)),(4,I.of (false)),(5,I.eq (.pointer (some ⟨aW,0,none⟩))),(6,I.eq (.pointer (some ⟨cr,0,none⟩))),(7,I.of (bD.1)),(8,I.of (s1.1)),(9,I.of (cl.1)),(10,I.eq (.pointer (some ⟨a2,0,none⟩))),(11,I.eq (.pointer (some ⟨bF,0,none⟩))),(13,I.of (aZ.1)),(26,I.of ((decide (s1.1 < 20)) && b0)),(35,I.of (aR.1)),(36,I.of (aR.2.1)),(45,I.of (b3.1)),(49,I.of (b3.1 ==0)),(54,I.of (aZ.1)),(55,I.of (decide (aZ.1 < 5))),(56,I.of (aZ.1)),(57,I.of (aZ.1)),(58,I.eq (.pointer (some ⟨a2,0 + 0,none⟩))),(59,I.of (bg.1.bo)),(60,I.of (aZ.1 !=bg.1.bo)),(61,I.of (aZ.1 !=bg.1.bo)),(62,I.cond ((aZ.1 !=bg.1.bo)=true) (I.of (bD.1))),(63,I.cond ((aZ.1 !=bg.1.bo)=true) (I.of (aZ.1))),(65,I.cond ((aZ.1 !=bg.1.bo)=true) (I.of (aZ.1)))]) (fun zT=>(⟨some cr,.var (b3.2:bf)⟩ :: ⟨some bF,.var (aR.2.2.1:Vector (List aw) 5)⟩ :: ⟨some a2,.var (bg.1:bh)⟩ :: ⟨some aW,.var (aH.1:a1)⟩ :: ⟨some ax,.var (aH.2:bf)⟩ :: aV aZ.2)) (fun zT=> ?_) (fun uV=> ?_)
       ·refine bx.step [7,9] (by kernel_rfl) rfl ⟨⟨_,rfl,?_⟩,⟨_,rfl,?_⟩,trivial⟩
        ·refine ah.Fj (γ:=Unit) (k:=aq.ret) (R:=s6) Ef (fun y=>I.of (y.1)) (fun y g=>(⟨some cr,.var (b3.2:bf)⟩ :: ⟨some bF,.var (aR.2.2.1:Vector (List aw) 5)⟩ :: ⟨some a2,.var (bg.1:bh)⟩ :: ⟨some aW,.var (aH.1:a1)⟩ :: ⟨some ax,.var (aH.2:bf)⟩ :: aV y.2)) () rfl rfl rfl (Du rfl) rfl rfl (fun hb hm=>by refine eN.to ?_ (eN.h1 5 0 rfl AX (yO hm) rfl rfl ?_); exact fun _=>rfl; exact⟨cq rfl hb,cq rfl hb,trivial⟩) fun fJ _ rp=> ?_
         refine ah.nil ?_
         exact ae.any rfl (bx.le (.same rfl (.same rfl (.same rfl (.same rfl (.same rfl (.same rfl (.same rfl (.same rfl (.same rfl (.same rfl (.same rfl (.same rfl (.same rfl (.same rfl (.same rfl (.same rfl (.same rfl (.same rfl (.same rfl (.same rfl (.same rfl (.same rfl (.same rfl (.same rfl (.same rfl (.same rfl (.same rfl (.same rfl .nil)))))))))))))))))))))))))))) (NL ⟨fJ,rp⟩))
        ·refine eQ (fun hb=>jH (k:=bI) xv (ab rfl) (cq rfl hb) (da (ga cS hb))) ?_
         refine ah.nil ?_
         exact ae.any rfl (bx.le (.same rfl (.same rfl (.same rfl (.same rfl (.same rfl (.same rfl (.same rfl (.same rfl (.same rfl (.same rfl (.same rfl (.same rfl (.same rfl (.same rfl (.same rfl (.same rfl (.same rfl (.same rfl (.same rfl (.same rfl (.same rfl (.same rfl (.same rfl (.same rfl (.same rfl (.same rfl (.same rfl (.same rfl .nil)))))))))))))))))))))))))))) (HW ()))
       refine bx.cut (γ:=Subtype s6) 6 (Array.mk (true :: true :: true :: true :: true :: true :: true :: true :: false :: false :: false :: false :: false :: false :: [])) (fun sJ=> [(0,I.of (aa)),(1,I.of (aj)),(4,I.of (false)),(5,I.eq (.pointer (some ⟨aW,0,none⟩))),(6,I.eq (.pointer (some ⟨cr,0,none⟩))),(7,I.of (bD.1)),(8,I.of (s1.1)),(9,I.of (cl.1)),(10,I.eq (.pointer (some ⟨a2,0,none⟩))),(11,I.eq (.pointer (some ⟨bF,0,none⟩))),(13,I.of (aZ.1)),(26,I.of ((decide (s1.1 < 20)) && b0)),(35,I.of (aR.1)),(36,I.of (aR.2.1)),(45,I.of (b3.1)),(49,I.of (b3.1 ==0)),(54,I.of (aZ.1)),(55,I.of (decide (aZ.1 < 5))),(56,I.of (aZ.1)),(57,I.of (aZ.1)),(58,I.eq (.pointer (some ⟨a2,0 + 0,none⟩))),(59,I.of (bg.1.bo)),(60,I.of (aZ.1 !=bg.1.bo)),(61,I.of (aZ.1 !=bg.1.bo)),(62,I.cond ((aZ.1 !=bg.1.bo)=true) (I.of (bD.1))),(63,I.cond ((aZ.1 !=bg.1.bo)=true) (I.of (aZ.1))),(64,I.cond ((aZ.1 !=bg.1.bo)=true) (I.of (sJ.1.1)))]) (fun sJ=>(⟨some cr,.var (b3.2:bf)⟩ :: ⟨some bF,.var (aR.2.2.1:Vector (List aw) 5)⟩ :: ⟨some a2,.var (bg.1:bh)⟩ :: ⟨some aW,.var (aH.1:a1)⟩ :: ⟨some ax,.var (aH.2:bf)⟩ :: aV sJ.1.2)) (fun sJ=> ?_) (fun HU=> ?_)
       ·refine bx.step [8] (by kernel_rfl) rfl ⟨⟨_,rfl,?_⟩,trivial⟩
        ·refine dB ch ?_
         refine ah.nil ?_
         exact ae.any rfl (bx.le (.same rfl (.same rfl (.same rfl (.same rfl (.same rfl (.same rfl (.same rfl (.same rfl (.same rfl (.same rfl (.same rfl (.same rfl (.same rfl (.same rfl (.same rfl (.same rfl (.same rfl (.same rfl (.same rfl (.same rfl (.same rfl (.same rfl (.same rfl (.same rfl (.same rfl (.same rfl (.same rfl (.same rfl .nil)))))))))))))))))))))))))))) (NL sJ))
       refine bx.cut (γ:=Unit) 7 (Array.mk (true :: true :: true :: true :: true :: false :: false :: false :: true :: true :: false :: false :: false :: false :: [])) (fun zU=> [(0,I.of (aa)),(1,I.of (aj)),(4,I.of (false)),(5,I.eq (.pointer (some ⟨aW,0,none⟩))),(6,I.eq (.pointer (some ⟨cr,0,none⟩))),(7,I.of (bD.1)),(8,I.of (s1.1)),(9,I.of (cl.1)),(10,I.eq (.pointer (some ⟨a2,0,none⟩))),(11,I.eq (.pointer (some ⟨bF,0,none⟩))),(13,I.of (aZ.1)),(26,I.of ((decide (s1.1 < 20)) && b0)),(35,I.of (aR.1)),(36,I.of (aR.2.1)),(45,I.of (b3.1)),(49,I.of (b3.1 ==0)),(54,I.of (aZ.1)),(55,I.of (decide (aZ.1 < 5))),(56,I.of (aZ.1)),(57,I.of (aZ.1)),(58,I.eq (.pointer (some ⟨a2,0 + 0,none⟩))),(59,I.of (bg.1.bo)),(60,I.of (aZ.1 !=bg.1.bo)),(61,I.of (aZ.1 !=bg.1.bo)),(65,I.cond ((aZ.1 !=bg.1.bo)=true) (I.of (aZ.1))),(66,I.cond ((aZ.1 !=bg.1.bo)=true) (I.eq (.pointer (some ⟨bF,0 + bI * 1,none⟩))))]) (fun zU=>(⟨some cr,.var (b3.2:bf)⟩ :: ⟨some bF,.var (aR.2.2.1:Vector (List aw) 5)⟩ :: ⟨some a2,.var (bg.1:bh)⟩ :: ⟨some aW,.var (aH.1:a1)⟩ :: ⟨some ax,.var (aH.2:bf)⟩ :: aV aZ.2)) (fun zU=> ?_) (fun Ec=> ?_)
       ·refine bx.step [5,6,10] (by kernel_rfl) rfl ⟨⟨_,rfl,?_⟩,⟨_,rfl,?_⟩,⟨_,rfl,?_⟩,trivial⟩
        ·refine dB ch ?_
         refine ah.nil ?_
         exact ae.any rfl (bx.le (.same rfl (.same rfl (.same rfl (.same rfl (.same rfl (.same rfl (.same rfl (.same rfl (.same rfl (.same rfl (.same rfl (.same rfl (.same rfl (.same rfl (.same rfl (.same rfl (.same rfl (.same rfl (.same rfl (.same rfl (.same rfl (.same rfl (.same rfl (.same rfl (.same rfl (.same rfl (.same rfl .nil))))))))))))))))))))))))))) (An ()))
        ·refine dB ch ?_
         refine ah.nil ?_
         exact ae.any rfl (bx.le (.same rfl (.same rfl (.same rfl (.same rfl (.same rfl (.same rfl (.same rfl (.same rfl (.same rfl (.same rfl (.same rfl (.same rfl (.same rfl (.same rfl (.same rfl (.same rfl (.same rfl (.same rfl (.same rfl (.same rfl (.same rfl (.same rfl (.same rfl (.same rfl (.same rfl (.same rfl (.same rfl .nil))))))))))))))))))))))))))) (Am ()))
        ·refine eQ (fun hb=>e9 (i:=1) ((aQ.id (Vector (List aw) 5)).comp (aQ.idx (α:=List aw) 5 bI (da (ga cS hb)).1)) (r:=b7 aR.2.2.1 bI) mE (cq rfl hb) rfl rfl rfl) ?_
         refine ah.nil ?_
         exact ae.any rfl (bx.le (.same rfl (.same rfl (.same rfl (.same rfl (.same rfl (.same rfl (.same rfl (.same rfl (.same rfl (.same rfl (.same rfl (.same rfl (.same rfl (.same rfl (.same rfl (.same rfl (.same rfl (.same rfl (.same rfl (.same rfl (.same rfl (.same rfl (.same rfl (.same rfl (.same rfl (.same rfl (.same rfl .nil))))))))))))))))))))))))))) (Al ()))
       refine bx.cut (γ:=Unit) 7 (Array.mk (true :: true :: true :: true :: true :: false :: true :: false :: true :: false :: false :: false :: false :: false :: [])) (fun zV=> [(0,I.of (aa)),(1,I.of (aj)),(4,I.of (false)),(5,I.eq (.pointer (some ⟨aW,0,none⟩))),(6,I.eq (.pointer (some ⟨cr,0,none⟩))),(7,I.of (bD.1)),(8,I.of (s1.1)),(9,I.of (cl.1)),(10,I.eq (.pointer (some ⟨a2,0,none⟩))),(11,I.eq (.pointer (some ⟨bF,0,none⟩))),(13,I.of (aZ.1)),(26,I.of ((decide (s1.1 < 20)) && b0)),(35,I.of (aR.1)),(36,I.of (aR.2.1)),(45,I.of (b3.1)),(49,I.of (b3.1 ==0)),(54,I.of (aZ.1)),(55,I.of (decide (aZ.1 < 5))),(56,I.of (aZ.1)),(57,I.of (aZ.1)),(58,I.eq (.pointer (some ⟨a2,0 + 0,none⟩))),(59,I.of (bg.1.bo)),(60,I.of (aZ.1 !=bg.1.bo)),(61,I.of (aZ.1 !=bg.1.bo)),(63,I.cond ((aZ.1 !=bg.1.bo)=true) (I.of (aZ.1))),(65,I.cond ((aZ.1 !=bg.1.bo)=true) (I.of (aZ.1)))]) (fun zV=>(⟨some cr,.var (b3.2:bf)⟩ :: ⟨some bF,.var (aR.2.2.1:Vector (List aw) 5)⟩ :: ⟨some a2,.var (bg.1:bh)⟩ :: ⟨some aW,.var (aH.1:a1)⟩ :: ⟨some ax,.var (aH.2:bf)⟩ :: aV aZ.2)) (fun zV=> ?_) (fun Ao=> ?_)
       ·refine bx.step [5,9] (by kernel_rfl) rfl ⟨⟨_,rfl,?_⟩,⟨_,rfl,?_⟩,trivial⟩
        ·refine dB ch ?_
         refine ah.nil ?_
         exact ae.any rfl (bx.le (.same rfl (.same rfl (.same rfl (.same rfl (.same rfl (.same rfl (.same rfl (.same rfl (.same rfl (.same rfl (.same rfl (.same rfl (.same rfl (.same rfl (.same rfl (.same rfl (.same rfl (.same rfl (.same rfl (.same rfl (.same rfl (.same rfl (.same rfl (.same rfl (.same rfl (.same rfl (.same rfl .nil))))))))))))))))))))))))))) (uV ()))
        ·refine eQ (fun hb=>jH (k:=bI) xv (ab rfl) (cq rfl hb) (da (ga cS hb))) ?_
         refine ah.nil ?_
         exact ae.any rfl (bx.le (.same rfl (.same rfl (.same rfl (.same rfl (.same rfl (.same rfl (.same rfl (.same rfl (.same rfl (.same rfl (.same rfl (.same rfl (.same rfl (.same rfl (.same rfl (.same rfl (.same rfl (.same rfl (.same rfl (.same rfl (.same rfl (.same rfl (.same rfl (.same rfl (.same rfl (.same rfl (.same rfl .nil))))))))))))))))))))))))))) (Am ()))
       refine bx.cut (γ:=Unit) 7 (Array.mk (true :: true :: true :: true :: true :: true :: false :: false :: true :: false :: false :: false :: false :: false :: [])) (fun zW=> [(0,I.of (aa)),(1,I.of (aj)),(4,I.of (false)),(5,I.eq (.pointer (some ⟨aW,0,none⟩))),(6,I.eq (.pointer (some ⟨cr,0,none⟩))),(7,I.of (bD.1)),(8,I.of (s1.1)),(9,I.of (cl.1)),(10,I.eq (.pointer (some ⟨a2,0,none⟩))),(11,I.eq (.pointer (some ⟨bF,0,none⟩))),(13,I.of (aZ.1)),(26,I.of ((decide (s1.1 < 20)) && b0)),(35,I.of (aR.1)),(36,I.of (aR.2.1)),(45,I.of (b3.1)),(49,I.of (b3.1 ==0)),(54,I.of (aZ.1)),(55,I.of (decide (aZ.1 < 5))),(56,I.of (aZ.1)),(57,I.of (aZ.1)),(58,I.eq (.pointer (some ⟨a2,0 + 0,none⟩))),(59,I.of (bg.1.bo)),(60,I.of (aZ.1 !=bg.1.bo)),(61,I.of (aZ.1 !=bg.1.bo)),(62,I.cond ((aZ.1 !=bg.1.bo)=true) (I.of (bD.1))),(65,I.cond ((aZ.1 !=bg.1.bo)=true) (I.of (aZ.1)))]) (fun zW=>(⟨some cr,.var (b3.2:bf)⟩ :: ⟨some bF,.var (aR.2.2.1:Vector (List aw) 5)⟩ :: ⟨some a2,.var (bg.1:bh)⟩ :: ⟨some aW,.var (aH.1:a1)⟩ :: ⟨some ax,.var (aH.2:bf)⟩ :: aV aZ.2)) (fun zW=> ?_) (fun xn=> ?_)
       ·refine bx.step [6,9] (by kernel_rfl) rfl ⟨⟨_,rfl,?_⟩,⟨_,rfl,?_⟩,trivial⟩
        ·refine dB ch ?_
         refine ah.nil ?_
         exact ae.any rfl (bx.le (.same rfl (.same rfl (.same rfl (.same rfl (.same rfl (.same rfl (.same rfl (.same rfl (.same rfl (.same rfl (.same rfl (.same rfl (.same rfl (.same rfl (.same rfl (.same rfl (.same rfl (.same rfl (.same rfl (.same rfl (.same rfl (.same rfl (.same rfl (.same rfl (.same rfl (.same rfl (.same rfl .nil))))))))))))))))))))))))))) (uV ()))
        ·refine eQ (fun hb=>jH (k:=bI) xv (ab rfl) (cq rfl hb) (da (ga cS hb))) ?_
         refine ah.nil ?_
         exact ae.any rfl (bx.le (.same rfl (.same rfl (.same rfl (.same rfl (.same rfl (.same rfl (.same rfl (.same rfl (.same rfl (.same rfl (.same rfl (.same rfl (.same rfl (.same rfl (.same rfl (.same rfl (.same rfl (.same rfl (.same rfl (.same rfl (.same rfl (.same rfl (.same rfl (.same rfl (.same rfl (.same rfl (.same rfl .nil))))))))))))))))))))))))))) (An ()))
       refine bx.cut (γ:=Unit) 7 (Array.mk (true :: true :: true :: true :: true :: true :: true :: false :: false :: false :: false :: false :: false :: false :: [])) (fun zX=> [(0,I.of (aa)),(1,I.of (aj)),(4,I.of (false)),(5,I.eq (.pointer (some ⟨aW,0,none⟩))),(6,I.eq (.pointer (some ⟨cr,0,none⟩))),(7,I.of (bD.1)),(8,I.of (s1.1)),(9,I.of (cl.1)),(10,I.eq (.pointer (some ⟨a2,0,none⟩))),(11,I.eq (.pointer (some ⟨bF,0,none⟩))),(13,I.of (aZ.1)),(26,I.of ((decide (s1.1 < 20)) && b0)),(35,I.of (aR.1)),(36,I.of (aR.2.1)),(45,I.of (b3.1)),(49,I.of (b3.1 ==0)),(54,I.of (aZ.1)),(55,I.of (decide (aZ.1 < 5))),(56,I.of (aZ.1)),(57,I.of (aZ.1)),(58,I.eq (.pointer (some ⟨a2,0 + 0,none⟩))),(59,I.of (bg.1.bo)),(60,I.of (aZ.1 !=bg.1.bo)),(61,I.of (aZ.1 !=bg.1.bo)),(62,I.cond ((aZ.1 !=bg.1.bo)=true) (I.of (bD.1))),(63,I.cond ((aZ.1 !=bg.1.bo)=true) (I.of (aZ.1)))]) (fun zX=>(⟨some cr,.var (b3.2:bf)⟩ :: ⟨some bF,.var (aR.2.2.1:Vector (List aw) 5)⟩ :: ⟨some a2,.var (bg.1:bh)⟩ :: ⟨some aW,.var (aH.1:a1)⟩ :: ⟨some ax,.var (aH.2:bf)⟩ :: aV aZ.2)) (fun zX=> ?_) (fun Ed=> ?_)
       ·refine bx.step [7,8] (by kernel_rfl) rfl ⟨⟨_,rfl,?_⟩,⟨_,rfl,?_⟩,trivial⟩
        ·refine ah.Fj (γ:=Unit) (k:=aq.ret) (R:=s6) Ef (fun y=>I.of (y.1)) (fun y g=>(⟨some cr,.var (b3.2:bf)⟩ :: ⟨some bF,.var (aR.2.2.1:Vector (List aw) 5)⟩ :: ⟨some a2,.var (bg.1:bh)⟩ :: ⟨some aW,.var (aH.1:a1)⟩ :: ⟨some ax,.var (aH.2:bf)⟩ :: aV y.2)) () rfl rfl rfl (Du rfl) rfl rfl (fun hb hm=>by refine eN.to ?_ (eN.h1 5 0 rfl AX (yO hm) rfl rfl ?_); exact fun _=>rfl; exact⟨cq rfl hb,cq rfl hb,trivial⟩) fun fJ _ rp=> ?_
         refine ah.nil ?_
         exact ae.any rfl (bx.le (.same rfl (.same rfl (.same rfl (.same rfl (.same rfl (.same rfl (.same rfl (.same rfl (.same rfl (.same rfl (.same rfl (.same rfl (.same rfl (.same rfl (.same rfl (.same rfl (.same rfl (.same rfl (.same rfl (.same rfl (.same rfl (.same rfl (.same rfl (.same rfl (.same rfl (.same rfl (.same rfl .nil))))))))))))))))))))))))))) (HU ⟨fJ,rp⟩))
        ·refine dB ch ?_
         refine ah.nil ?_
         exact ae.any rfl (bx.le (.same rfl (.same rfl (.same rfl (.same rfl (.same rfl (.same rfl (.same rfl (.same rfl (.same rfl (.same rfl (.same rfl (.same rfl (.same rfl (.same rfl (.same rfl (.same rfl (.same rfl (.same rfl (.same rfl (.same rfl (.same rfl (.same rfl (.same rfl (.same rfl (.same rfl (.same rfl (.same rfl .nil))))))))))))))))))))))))))) (uV ()))
       refine bx.cut (γ:=Unit) 8 (Array.mk (true :: true :: true :: true :: true :: false :: false :: false :: true :: false :: false :: false :: false :: false :: [])) (fun zY=> [(0,I.of (aa)),(1,I.of (aj)),(4,I.of (false)),(5,I.eq (.pointer (some ⟨aW,0,none⟩))),(6,I.eq (.pointer (some ⟨cr,0,none⟩))),(7,I.of (bD.1)),(8,I.of (s1.1)),(9,I.of (cl.1)),(10,I.eq (.pointer (some ⟨a2,0,none⟩))),(11,I.eq (.pointer (some ⟨bF,0,none⟩))),(13,I.of (aZ.1)),(26,I.of ((decide (s1.1 < 20)) && b0)),(35,I.of (aR.1)),(36,I.of (aR.2.1)),(45,I.of (b3.1)),(49,I.of (b3.1 ==0)),(54,I.of (aZ.1)),(55,I.of (decide (aZ.1 < 5))),(56,I.of (aZ.1)),(57,I.of (aZ.1)),(58,I.eq (.pointer (some ⟨a2,0 + 0,none⟩))),(59,I.of (bg.1.bo)),(60,I.of (aZ.1 !=bg.1.bo)),(61,I.of (aZ.1 !=bg.1.bo)),(65,I.cond ((aZ.1 !=bg.1.bo)=true) (I.of (aZ.1)))]) (fun zY=>(⟨some cr,.var (b3.2:bf)⟩ :: ⟨some bF,.var (aR.2.2.1:Vector (List aw) 5)⟩ :: ⟨some a2,.var (bg.1:bh)⟩ :: ⟨some aW,.var (aH.1:a1)⟩ :: ⟨some ax,.var (aH.2:bf)⟩ :: aV aZ.2)) (fun zY=> ?_) (fun Ee=> ?_)
       ·refine bx.step [5,6,9] (by kernel_rfl) rfl ⟨⟨_,rfl,?_⟩,⟨_,rfl,?_⟩,⟨_,rfl,?_⟩,trivial⟩
        ·refine dB ch ?_
         refine ah.nil ?_
         exact ae.any rfl (bx.le (.same rfl (.same rfl (.same rfl (.same rfl (.same rfl (.same rfl (.same rfl (.same rfl (.same rfl (.same rfl (.same rfl (.same rfl (.same rfl (.same rfl (.same rfl (.same rfl (.same rfl (.same rfl (.same rfl (.same rfl (.same rfl (.same rfl (.same rfl (.same rfl (.same rfl (.same rfl .nil)))))))))))))))))))))))))) (xn ()))
        ·refine dB ch ?_
         refine ah.nil ?_
         exact ae.any rfl (bx.le (.same rfl (.same rfl (.same rfl (.same rfl (.same rfl (.same rfl (.same rfl (.same rfl (.same rfl (.same rfl (.same rfl (.same rfl (.same rfl (.same rfl (.same rfl (.same rfl (.same rfl (.same rfl (.same rfl (.same rfl (.same rfl (.same rfl (.same rfl (.same rfl (.same rfl (.same rfl .nil)))))))))))))))))))))))))) (Ao ()))
        ·refine eQ (fun hb=>jH (k:=bI) xv (ab rfl) (cq rfl hb) (da (ga cS hb))) ?_
         refine ah.nil ?_
         exact ae.any rfl (bx.le (.same rfl (.same rfl (.same rfl (.same rfl (.same rfl (.same rfl (.same rfl (.same rfl (.same rfl (.same rfl (.same rfl (.same rfl (.same rfl (.same rfl (.same rfl (.same rfl (.same rfl (.same rfl (.same rfl (.same rfl (.same rfl (.same rfl (.same rfl (.same rfl (.same rfl (.same rfl .nil)))))))))))))))))))))))))) (Ec ()))
       refine bx.cut (γ:=Unit) 8 (Array.mk (true :: true :: true :: true :: true :: false :: true :: false :: false :: false :: false :: false :: false :: false :: [])) (fun Ap=> [(0,I.of (aa)),(1,I.of (aj)),(4,I.of (false)),(5,I.eq (.pointer (some ⟨aW,0,none⟩))),(6,I.eq (.pointer (some ⟨cr,0,none⟩))),(7,I.of (bD.1)),(8,I.of (s1.1)),(9,I.of (cl.1)),(10,I.eq (.pointer (some ⟨a2,0,none⟩))),(11,I.eq (.pointer (some ⟨bF,0,none⟩))),(13,I.of (aZ.1)),(26,I.of ((decide (s1.1 < 20)) && b0)),(35,I.of (aR.1)),(36,I.of (aR.2.1)),(45,I.of (b3.1)),(49,I.of (b3.1 ==0)),(54,I.of (aZ.1)),(55,I.of (decide (aZ.1 < 5))),(56,I.of (aZ.1)),(57,I.of (aZ.1)),(58,I.eq (.pointer (some ⟨a2,0 + 0,none⟩))),(59,I.of (bg.1.bo)),(60,I.of (aZ.1 !=bg.1.bo)),(61,I.of (aZ.1 !=bg.1.bo)),(63,I.cond ((aZ.1 !=bg.1.bo)=true) (I.of (aZ.1)))]) (fun Ap=>(⟨some cr,.var (b3.2:bf)⟩ :: ⟨some bF,.var (aR.2.2.1:Vector (List aw) 5)⟩ :: ⟨some a2,.var (bg.1:bh)⟩ :: ⟨some aW,.var (aH.1:a1)⟩ :: ⟨some ax,.var (aH.2:bf)⟩ :: aV aZ.2)) (fun Ap=> ?_) (fun Et=> ?_)
       ·refine bx.step [5,8] (by kernel_rfl) rfl ⟨⟨_,rfl,?_⟩,⟨_,rfl,?_⟩,trivial⟩
        ·refine dB ch ?_
         refine ah.nil ?_
         exact ae.any rfl (bx.le (.same rfl (.same rfl (.same rfl (.same rfl (.same rfl (.same rfl (.same rfl (.same rfl (.same rfl (.same rfl (.same rfl (.same rfl (.same rfl (.same rfl (.same rfl (.same rfl (.same rfl (.same rfl (.same rfl (.same rfl (.same rfl (.same rfl (.same rfl (.same rfl (.same rfl (.same rfl .nil)))))))))))))))))))))))))) (Ed ()))
        ·refine dB ch ?_
         refine ah.nil ?_
         exact ae.any rfl (bx.le (.same rfl (.same rfl (.same rfl (.same rfl (.same rfl (.same rfl (.same rfl (.same rfl (.same rfl (.same rfl (.same rfl (.same rfl (.same rfl (.same rfl (.same rfl (.same rfl (.same rfl (.same rfl (.same rfl (.same rfl (.same rfl (.same rfl (.same rfl (.same rfl (.same rfl (.same rfl .nil)))))))))))))))))))))))))) (Ao ()))
       refine bx.cut (γ:=Unit) 8 (Array.mk (true :: true :: true :: true :: true :: true :: false :: false :: false :: false :: false :: false :: false :: false :: [])) (fun Aq=> [(0,I.of (aa)),(1,I.of (aj)),(4,I.of (false)),(5,I.eq (.pointer (some ⟨aW,0,none⟩))),(6,I.eq (.pointer (some ⟨cr,0,none⟩))),(7,I.of (bD.1)),(8,I.of (s1.1)),(9,I.of (cl.1)),(10,I.eq (.pointer (some ⟨a2,0,none⟩))),(11,I.eq (.pointer (some ⟨bF,0,none⟩))),(13,I.of (aZ.1)),(26,I.of ((decide (s1.1 < 20)) && b0)),(35,I.of (aR.1)),(36,I.of (aR.2.1)),(45,I.of (b3.1)),(49,I.of (b3.1 ==0)),(54,I.of (aZ.1)),(55,I.of (decide (aZ.1 < 5))),(56,I.of (aZ.1)),(57,I.of (aZ.1)),(58,I.eq (.pointer (some ⟨a2,0 + 0,none⟩))),(59,I.of (bg.1.bo)),(60,I.of (aZ.1 !=bg.1.bo)),(61,I.of (aZ.1 !=bg.1.bo)),(62,I.cond ((aZ.1 !=bg.1.bo)=true) (I.of (bD.1)))]) (fun Aq=>(⟨some cr,.var (b3.2:bf)⟩ :: ⟨some bF,.var (aR.2.2.1:Vector (List aw) 5)⟩ :: ⟨some a2,.var (bg.1:bh)⟩ :: ⟨some aW,.var (aH.1:a1)⟩ :: ⟨some ax,.var (aH.2:bf)⟩ :: aV aZ.2)) (fun Aq=> ?_) (fun AV=> ?_)
       ·refine bx.step [6,8] (by kernel_rfl) rfl ⟨⟨_,rfl,?_⟩,⟨_,rfl,?_⟩,trivial⟩
        ·refine dB ch ?_
         refine ah.nil ?_
         exact ae.any rfl (bx.le (.same rfl (.same rfl (.same rfl (.same rfl (.same rfl (.same rfl (.same rfl (.same rfl (.same rfl (.same rfl (.same rfl (.same rfl (.same rfl (.same rfl (.same rfl (.same rfl (.same rfl (.same rfl (.same rfl (.same rfl (.same rfl (.same rfl (.same rfl (.same rfl (.same rfl (.same rfl .nil)))))))))))))))))))))))))) (Ed ()))
        ·refine dB ch ?_
         refine ah.nil ?_
         exact ae.any rfl (bx.le (.same rfl (.same rfl (.same rfl (.same rfl (.same rfl (.same rfl (.same rfl (.same rfl (.same rfl (.same rfl (.same rfl (.same rfl (.same rfl (.same rfl (.same rfl (.same rfl (.same rfl (.same rfl (.same rfl (.same rfl (.same rfl (.same rfl (.same rfl (.same rfl (.same rfl (.same rfl .nil)))))))))))))))))))))))))) (xn ()))
       refine bx.cut (γ:=Unit) 9 (Array.mk (true :: true :: true :: true :: true :: false :: false :: false :: false :: false :: false :: false :: false :: false :: [])) (fun Ar=> [(0,I.of (aa)),(1,I.of (aj)),(4,I.of (false)),(5,I.eq (.pointer (some ⟨aW,0,none⟩))),(6,I.eq (.pointer (some ⟨cr,0,none⟩))),(7,I.of (bD.1)),(8,I.of (s1.1)),(9,I.of (cl.1)),(10,I.eq (.pointer (some ⟨a2,0,none⟩))),(11,I.eq (.pointer (some ⟨bF,0,none⟩))),(13,I.of (aZ.1)),(26,I.of ((decide (s1.1 < 20)) && b0)),(35,I.of (aR.1)),(36,I.of (aR.2.1)),(45,I.of (b3.1)),(49,I.of (b3.1 ==0)),(54,I.of (aZ.1)),(55,I.of (decide (aZ.1 < 5))),(56,I.of (aZ.1)),(57,I.of (aZ.1)),(58,I.eq (.pointer (some ⟨a2,0 + 0,none⟩))),(59,I.of (bg.1.bo)),(60,I.of (aZ.1 !=bg.1.bo)),(61,I.of (aZ.1 !=bg.1.bo))]) (fun Ar=>(⟨some cr,.var (b3.2:bf)⟩ :: ⟨some bF,.var (aR.2.2.1:Vector (List aw) 5)⟩ :: ⟨some a2,.var (bg.1:bh)⟩ :: ⟨some aW,.var (aH.1:a1)⟩ :: ⟨some ax,.var (aH.2:bf)⟩ :: aV aZ.2)) (fun Ar=> ?_) (fun Eu=> ?_)
       ·refine bx.step [5,6,8] (by kernel_rfl) rfl ⟨⟨_,rfl,?_⟩,⟨_,rfl,?_⟩,⟨_,rfl,?_⟩,trivial⟩
        ·refine dB ch ?_
         refine ah.nil ?_
         exact ae.any rfl (bx.le (.same rfl (.same rfl (.same rfl (.same rfl (.same rfl (.same rfl (.same rfl (.same rfl (.same rfl (.same rfl (.same rfl (.same rfl (.same rfl (.same rfl (.same rfl (.same rfl (.same rfl (.same rfl (.same rfl (.same rfl (.same rfl (.same rfl (.same rfl (.same rfl (.same rfl .nil))))))))))))))))))))))))) (AV ()))
        ·refine dB ch ?_
         refine ah.nil ?_
         exact ae.any rfl (bx.le (.same rfl (.same rfl (.same rfl (.same rfl (.same rfl (.same rfl (.same rfl (.same rfl (.same rfl (.same rfl (.same rfl (.same rfl (.same rfl (.same rfl (.same rfl (.same rfl (.same rfl (.same rfl (.same rfl (.same rfl (.same rfl (.same rfl (.same rfl (.same rfl (.same rfl .nil))))))))))))))))))))))))) (Et ()))
        ·refine dB ch ?_
         refine ah.nil ?_
         exact ae.any rfl (bx.le (.same rfl (.same rfl (.same rfl (.same rfl (.same rfl (.same rfl (.same rfl (.same rfl (.same rfl (.same rfl (.same rfl (.same rfl (.same rfl (.same rfl (.same rfl (.same rfl (.same rfl (.same rfl (.same rfl (.same rfl (.same rfl (.same rfl (.same rfl (.same rfl (.same rfl .nil))))))))))))))))))))))))) (Ee ()))
       refine bx.cut (γ:=Unit) 10 (Array.mk (true :: true :: true :: true :: false :: false :: false :: false :: false :: false :: false :: false :: false :: false :: [])) (fun As=> [(0,I.of (aa)),(1,I.of (aj)),(4,I.of (false)),(5,I.eq (.pointer (some ⟨aW,0,none⟩))),(6,I.eq (.pointer (some ⟨cr,0,none⟩))),(7,I.of (bD.1)),(8,I.of (s1.1)),(9,I.of (cl.1)),(10,I.eq (.pointer (some ⟨a2,0,none⟩))),(11,I.eq (.pointer (some ⟨bF,0,none⟩))),(13,I.of (aZ.1)),(26,I.of ((decide (s1.1 < 20)) && b0)),(35,I.of (aR.1)),(36,I.of (aR.2.1)),(45,I.of (b3.1)),(49,I.of (b3.1 ==0)),(54,I.of (aZ.1)),(55,I.of (decide (aZ.1 < 5))),(56,I.of (aZ.1)),(57,I.of (aZ.1)),(58,I.eq (.pointer (some ⟨a2,0 + 0,none⟩))),(59,I.of (bg.1.bo)),(60,I.of (aZ.1 !=bg.1.bo))]) (fun As=>(⟨some cr,.var (b3.2:bf)⟩ :: ⟨some bF,.var (aR.2.2.1:Vector (List aw) 5)⟩ :: ⟨some a2,.var (bg.1:bh)⟩ :: ⟨some aW,.var (aH.1:a1)⟩ :: ⟨some ax,.var (aH.2:bf)⟩ :: aV aZ.2)) (fun As=> ?_) (fun Ik=> ?_)
       ·refine bx.step [4] (by kernel_rfl) rfl ⟨⟨_,rfl,?_⟩,trivial⟩
        ·refine aC ?_
         refine ah.nil ?_
         exact ae.any rfl (bx.le (.same rfl (.same rfl (.same rfl (.same rfl (.same rfl (.same rfl (.same rfl (.same rfl (.same rfl (.same rfl (.same rfl (.same rfl (.same rfl (.same rfl (.same rfl (.same rfl (.same rfl (.same rfl (.same rfl (.same rfl (.same rfl (.same rfl (.same rfl (.same rfl .nil)))))))))))))))))))))))) (Eu ()))
       refine bx.cut (γ:=Unit) 11 (Array.mk (true :: true :: true :: false :: false :: false :: false :: false :: false :: false :: false :: false :: false :: false :: [])) (fun At=> [(0,I.of (aa)),(1,I.of (aj)),(4,I.of (false)),(5,I.eq (.pointer (some ⟨aW,0,none⟩))),(6,I.eq (.pointer (some ⟨cr,0,none⟩))),(7,I.of (bD.1)),(8,I.of (s1.1)),(9,I.of (cl.1)),(10,I.eq (.pointer (some ⟨a2,0,none⟩))),(11,I.eq (.pointer (some ⟨bF,0,none⟩))),(13,I.of (aZ.1)),(26,I.of ((decide (s1.1 < 20)) && b0)),(35,I.of (aR.1)),(36,I.of (aR.2.1)),(45,I.of (b3.1)),(49,I.of (b3.1 ==0)),(54,I.of (aZ.1)),(55,I.of (decide (aZ.1 < 5))),(56,I.of (aZ.1)),(57,I.of (aZ.1)),(58,I.eq (.pointer (some ⟨a2,0 + 0,none⟩))),(59,I.of (bg.1.bo))]) (fun At=>(⟨some cr,.var (b3.2:bf)⟩ :: ⟨some bF,.var (aR.2.2.1:Vector (List aw) 5)⟩ :: ⟨some a2,.var (bg.1:bh)⟩ :: ⟨some aW,.var (aH.1:a1)⟩ :: ⟨some ax,.var (aH.2:bf)⟩ :: aV aZ.2)) (fun At=> ?_) (fun AW=> ?_)
       ·refine bx.step [3] (by kernel_rfl) rfl ⟨⟨_,rfl,?_⟩,trivial⟩
        ·refine bs pd ?_
         refine ah.nil ?_
         exact ae.any rfl (bx.le (.same rfl (.same rfl (.same rfl (.same rfl (.same rfl (.same rfl (.same rfl (.same rfl (.same rfl (.same rfl (.same rfl (.same rfl (.same rfl (.same rfl (.same rfl (.same rfl (.same rfl (.same rfl (.same rfl (.same rfl (.same rfl (.same rfl (.same rfl .nil))))))))))))))))))))))) (Ik ()))
       refine bx.cut (γ:=Unit) 12 (Array.mk (false :: true :: true :: false :: false :: false :: false :: false :: false :: false :: false :: false :: false :: false :: [])) (fun Au=> [(0,I.of (aa)),(1,I.of (aj)),(4,I.of (false)),(5,I.eq (.pointer (some ⟨aW,0,none⟩))),(6,I.eq (.pointer (some ⟨cr,0,none⟩))),(7,I.of (bD.1)),(8,I.of (s1.1)),(9,I.of (cl.1)),(10,I.eq (.pointer (some ⟨a2,0,none⟩))),(11,I.eq (.pointer (some ⟨bF,0,none⟩))),(13,I.of (aZ.1)),(26,I.of ((decide (s1.1 < 20)) && b0)),(35,I.of (aR.1)),(36,I.of (aR.2.1)),(45,I.of (b3.1)),(49,I.of (b3.1 ==0)),(54,I.of (aZ.1)),(55,I.of (decide (aZ.1 < 5))),(56,I.of (aZ.1)),(58,I.eq (.pointer (some ⟨a2,0 + 0,none⟩))),(59,I.of (bg.1.bo))]) (fun Au=>(⟨some cr,.var (b3.2:bf)⟩ :: ⟨some bF,.var (aR.2.2.1:Vector (List aw) 5)⟩ :: ⟨some a2,.var (bg.1:bh)⟩ :: ⟨some aW,.var (aH.1:a1)⟩ :: ⟨some ax,.var (aH.2:bf)⟩ :: aV aZ.2)) (fun Au=> ?_) (fun Ev=> ?_)
       ·refine bx.step [0] (by kernel_rfl) rfl ⟨⟨_,rfl,?_⟩,trivial⟩
        ·refine aC ?_
         refine ah.nil ?_
         exact ae.any rfl (bx.le (.same rfl (.same rfl (.same rfl (.same rfl (.same rfl (.same rfl (.same rfl (.same rfl (.same rfl (.same rfl (.same rfl (.same rfl (.same rfl (.same rfl (.same rfl (.same rfl (.same rfl (.same rfl (.same rfl (.same rfl (.same rfl (.same rfl .nil)))))))))))))))))))))) (AW ()))
       refine bx.cut (γ:=Unit) 12 (Array.mk (true :: true :: false :: false :: false :: false :: false :: false :: false :: false :: false :: false :: false :: false :: [])) (fun Av=> [(0,I.of (aa)),(1,I.of (aj)),(4,I.of (false)),(5,I.eq (.pointer (some ⟨aW,0,none⟩))),(6,I.eq (.pointer (some ⟨cr,0,none⟩))),(7,I.of (bD.1)),(8,I.of (s1.1)),(9,I.of (cl.1)),(10,I.eq (.pointer (some ⟨a2,0,none⟩))),(11,I.eq (.pointer (some ⟨bF,0,none⟩))),(13,I.of (aZ.1)),(26,I.of ((decide (s1.1 < 20)) && b0)),(35,I.of (aR.1)),(36,I.of (aR.2.1)),(45,I.of (b3.1)),(49,I.of (b3.1 ==0)),(54,I.of (aZ.1)),(55,I.of (decide (aZ.1 < 5))),(56,I.of (aZ.1)),(57,I.of (aZ.1)),(58,I.eq (.pointer (some ⟨a2,0 + 0,none⟩)))]) (fun Av=>(⟨some cr,.var (b3.2:bf)⟩ :: ⟨some bF,.var (aR.2.2.1:Vector (List aw) 5)⟩ :: ⟨some a2,.var (bg.1:bh)⟩ :: ⟨some aW,.var (aH.1:a1)⟩ :: ⟨some ax,.var (aH.2:bf)⟩ :: aV aZ.2)) (fun Av=> ?_) (fun Ew=> ?_)
       ·refine bx.step [2] (by kernel_rfl) rfl ⟨⟨_,rfl,?_⟩,trivial⟩
        ·refine ct 2 mV bK ?_
         refine ah.nil ?_
         exact ae.any rfl (bx.le (.same rfl (.same rfl (.same rfl (.same rfl (.same rfl (.same rfl (.same rfl (.same rfl (.same rfl (.same rfl (.same rfl (.same rfl (.same rfl (.same rfl (.same rfl (.same rfl (.same rfl (.same rfl (.same rfl (.same rfl (.same rfl (.same rfl .nil)))))))))))))))))))))) (AW ()))
       refine bx.cut (γ:=Unit) 13 (Array.mk (false :: true :: false :: false :: false :: false :: false :: false :: false :: false :: false :: false :: false :: false :: [])) (fun Aw=> [(0,I.of (aa)),(1,I.of (aj)),(4,I.of (false)),(5,I.eq (.pointer (some ⟨aW,0,none⟩))),(6,I.eq (.pointer (some ⟨cr,0,none⟩))),(7,I.of (bD.1)),(8,I.of (s1.1)),(9,I.of (cl.1)),(10,I.eq (.pointer (some ⟨a2,0,none⟩))),(11,I.eq (.pointer (some ⟨bF,0,none⟩))),(13,I.of (aZ.1)),(26,I.of ((decide (s1.1 < 20)) && b0)),(35,I.of (aR.1)),(36,I.of (aR.2.1)),(45,I.of (b3.1)),(49,I.of (b3.1 ==0)),(54,I.of (aZ.1)),(55,I.of (decide (aZ.1 < 5))),(56,I.of (aZ.1)),(58,I.eq (.pointer (some ⟨a2,0 + 0,none⟩)))]) (fun Aw=>(⟨some cr,.var (b3.2:bf)⟩ :: ⟨some bF,.var (aR.2.2.1:Vector (List aw) 5)⟩ :: ⟨some a2,.var (bg.1:bh)⟩ :: ⟨some aW,.var (aH.1:a1)⟩ :: ⟨some ax,.var (aH.2:bf)⟩ :: aV aZ.2)) (fun Aw=> ?_) (fun Il=> ?_)
       ·refine bx.step [0,2] (by kernel_rfl) rfl ⟨⟨_,rfl,?_⟩,⟨_,rfl,?_⟩,trivial⟩
        ·refine aC ?_
         refine ah.nil ?_
         exact ae.any rfl (bx.le (.same rfl (.same rfl (.same rfl (.same rfl (.same rfl (.same rfl (.same rfl (.same rfl (.same rfl (.same rfl (.same rfl (.same rfl (.same rfl (.same rfl (.same rfl (.same rfl (.same rfl (.same rfl (.same rfl (.same rfl (.same rfl .nil))))))))))))))))))))) (Ew ()))
        ·refine ct 2 mV bK ?_
         refine ah.nil ?_
         exact ae.any rfl (bx.le (.same rfl (.same rfl (.same rfl (.same rfl (.same rfl (.same rfl (.same rfl (.same rfl (.same rfl (.same rfl (.same rfl (.same rfl (.same rfl (.same rfl (.same rfl (.same rfl (.same rfl (.same rfl (.same rfl (.same rfl (.same rfl .nil))))))))))))))))))))) (Ev ()))
       refine bx.cut (γ:=Unit) 13 (Array.mk (true :: false :: false :: false :: false :: false :: false :: false :: false :: false :: false :: false :: false :: false :: [])) (fun Ax=> [(0,I.of (aa)),(1,I.of (aj)),(4,I.of (false)),(5,I.eq (.pointer (some ⟨aW,0,none⟩))),(6,I.eq (.pointer (some ⟨cr,0,none⟩))),(7,I.of (bD.1)),(8,I.of (s1.1)),(9,I.of (cl.1)),(10,I.eq (.pointer (some ⟨a2,0,none⟩))),(11,I.eq (.pointer (some ⟨bF,0,none⟩))),(13,I.of (aZ.1)),(26,I.of ((decide (s1.1 < 20)) && b0)),(35,I.of (aR.1)),(36,I.of (aR.2.1)),(45,I.of (b3.1)),(49,I.of (b3.1 ==0)),(54,I.of (aZ.1)),(55,I.of (decide (aZ.1 < 5))),(56,I.of (aZ.1)),(57,I.of (aZ.1))]) (fun Ax=>(⟨some cr,.var (b3.2:bf)⟩ :: ⟨some bF,.var (aR.2.2.1:Vector (List aw) 5)⟩ :: ⟨some a2,.var (bg.1:bh)⟩ :: ⟨some aW,.var (aH.1:a1)⟩ :: ⟨some ax,.var (aH.2:bf)⟩ :: aV aZ.2)) (fun Ax=> ?_) (fun Im=> ?_)
       ·refine bx.step [1] (by kernel_rfl) rfl ⟨⟨_,rfl,?_⟩,trivial⟩
        ·refine a4 (aX oz) ?_
         refine ah.nil ?_
         exact ae.any rfl (bx.le (.same rfl (.same rfl (.same rfl (.same rfl (.same rfl (.same rfl (.same rfl (.same rfl (.same rfl (.same rfl (.same rfl (.same rfl (.same rfl (.same rfl (.same rfl (.same rfl (.same rfl (.same rfl (.same rfl (.same rfl (.same rfl .nil))))))))))))))))))))) (Ew ()))
       refine bx.step [0,1] (by kernel_rfl) rfl ⟨⟨_,rfl,?_⟩,⟨_,rfl,?_⟩,trivial⟩
       ·refine aC ?_
        refine ah.nil ?_
        exact ae.any rfl (bx.le (.same rfl (.same rfl (.same rfl (.same rfl (.same rfl (.same rfl (.same rfl (.same rfl (.same rfl (.same rfl (.same rfl (.same rfl (.same rfl (.same rfl (.same rfl (.same rfl (.same rfl (.same rfl (.same rfl (.same rfl .nil)))))))))))))))))))) (Im ()))
       ·refine a4 (aX oz) ?_
        refine ah.nil ?_
        exact ae.any rfl (bx.le (.same rfl (.same rfl (.same rfl (.same rfl (.same rfl (.same rfl (.same rfl (.same rfl (.same rfl (.same rfl (.same rfl (.same rfl (.same rfl (.same rfl (.same rfl (.same rfl (.same rfl (.same rfl (.same rfl (.same rfl .nil)))))))))))))))))))) (Il ()))
      ·replace h:=kF ak h
       refine ai.exit ?_
       refine ae.exit ?_
       exact ae.q7 h () 0 rfl (by simp) rfl (.same rfl (.same rfl (.same rfl (.same rfl (.same rfl (.same rfl (.same rfl (.same rfl (.same rfl (.same rfl (.same rfl (.same rfl (.same rfl (.same rfl (.same rfl (.same rfl (.same rfl .nil)))))))))))))))))
     ·rcases dh with dh | dh
      ·simp only [Sum.elim_inl] at h
       refine ae.gE ?_
       refine ae.eC ?_
       refine ae.next ?_
       refine ai.cE ?_
       refine aC ?_
       refine bs dX ?_
       refine aO ?_
       refine ah.nil ?_
       refine ae.bU 3 rfl ?_
       refine ae.bU 3 rfl ?_
       refine ae.bU 3 rfl ?_
       exact ae.w4 h () 2 rfl (.same rfl (.same rfl (.same rfl (.same rfl (.same rfl (.same rfl (.same rfl .nil)))))))
      ·simp only [Sum.elim_inr] at h
       refine ae.dR ?_
       refine ae.dR ?_
       refine ae.ret ?_
       refine ae.bU 3 rfl ?_
       refine ae.bU 3 rfl ?_
       refine ae.bU 3 rfl ?_
       exact ae.q7 h () 2 rfl (by simp) rfl (.same rfl (.same rfl (.same rfl (.same rfl (.same rfl (.same rfl (.same rfl (.same rfl (.same rfl (.same rfl (.same rfl (.same rfl (.same rfl (.same rfl (.same rfl (.same rfl (.same rfl .nil)))))))))))))))))
    ·refine ai.cE ?_
     refine aC ?_
     refine cR 2 fP ?_
     refine ah.h1 5 0 rfl Ov (Kc h) rfl rfl ⟨ab rfl,ab rfl,trivial⟩ rfl fun⟨⟨h6,h⟩,Zh⟩=> ?_
     refine ah.eo (L2:=(⟨some cr,.var (b3.2:bf)⟩ :: ⟨some bF,.var (aR.2.2.1:Vector (List aw) 5)⟩ :: ⟨some a2,.var (bg.1:bh)⟩ :: ⟨some aW,.var (aH.1:a1)⟩ :: ⟨some ax,.var (aH.2:bf)⟩ :: aV h6.2.2)) rfl ?_
     refine ah.nil ?_
     exact dT 0 (hm h6.2.2 () h)
    ·refine ai.cE ?_
     refine aC ?_
     refine cR 2 fP ?_
     refine ah.h1 5 0 rfl Ip (FQ h) rfl rfl ⟨ab rfl,ab rfl,bN 1,trivial⟩ rfl fun⟨⟨iW,h⟩,aa8⟩=> ?_
     refine ah.eo (L2:=(⟨some cr,.var (b3.2:bf)⟩ :: ⟨some bF,.var (aR.2.2.1:Vector (List aw) 5)⟩ :: ⟨some a2,.var (bg.1:bh)⟩ :: ⟨some aW,.var (aH.1:a1)⟩ :: ⟨some ax,.var (aH.2:bf)⟩ :: aV iW.2.2)) rfl ?_
     refine ah.nil ?_
     exact dT 0 (hm iW.2.2 () h)
  ·replace h:=kF ak h
   refine ai.exit ?_
   refine ae.exit ?_
   exact ae.q7 h () 0 rfl (by simp) rfl (.same rfl (.same rfl (.same rfl (.same rfl (.same rfl (.same rfl (.same rfl (.same rfl .nil))))))))
 ·rcases aF with aF | aF
  ·simp only [Sum.elim_inl] at h
   refine ae.gE ?_
   refine ae.next ?_
   refine aE ?_
   refine ah.h1 3 0 rfl YD (RM h) rfl rfl trivial rfl fun⟨⟨mJ,h⟩,aa9⟩=> ?_
   refine ah.eo (L2:=(⟨some aW,.var (aH.1:a1)⟩ :: ⟨some cr,.var (aF.2.2.1:bf)⟩ :: ⟨some ax,.var (aH.2:bf)⟩ :: aV mJ.2)) rfl ?_
   refine aO ?_
   refine aM ?_
   refine ai.ret ?_
   exact ae.eW (⟨⟨(mJ.1,mJ.2),h⟩,()⟩: {r // _} × _) (.cons _ (.cons _ (.cons _ (.refl _)))) rfl rfl (dH rfl)
  ·simp only [Sum.elim_inr] at h
   refine ae.dR ?_
   refine ae.ret ?_
   exact ae.eW (⟨⟨(false,aF.2.2.2.2.2.2.2.2.2.2.2.2),h⟩,()⟩: {r // _} × _) (.cons _ (.cons _ (.cons _ (.refl _)))) rfl rfl (dH rfl)
end Go.Proofs.YtmnggbjcnoffeaaGreat
