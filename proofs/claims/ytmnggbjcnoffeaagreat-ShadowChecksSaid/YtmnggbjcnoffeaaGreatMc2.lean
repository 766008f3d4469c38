/-
  Each function meets its functional program. Conditions: none.
-/
import Derived.Test.YtmnggbjcnoffeaaGreatMc0
import Derived.Test.YtmnggbjcnoffeaaGreatMc1
namespace Go.Proofs.YtmnggbjcnoffeaaGreat
open Go Gv
set_option linter.unusedVariables false
set_option linter.unusedSimpArgs false
set_option maxRecDepth 100000
set_option maxHeartbeats 2000000
theorem RS {hp:bg Cell} {aa:a0} {ai:bI} {aR:Int} {cQ:Int} {pe:Nat} {Q:Ref × (List aU) × bI × (bg Cell)→Prop} (h:yi hp aa ai aR cQ Q):cG Tryz.prog 35 [I.of (aa),I.eq (.pointer (some ⟨pe,0,none⟩)),I.of (aR),I.of (cQ)] ([⟨some pe,.var (ai:bI)⟩] ++ bz hp) (δ:= {r:Ref × (List aU) × bI × (bg Cell) // Q r} × Unit) (fun d=>I.eI [I.of (d.1.1.1),I.of (d.1.1.2.1)]) (fun d=> [⟨some pe,.var (d.1.1.2.2.1:bI)⟩] ++ bz d.1.1.2.2.2):=by
 unfold yi at h
 refine cG.of Tryz.func35 rfl Tryz.ntmps35 rfl fun W A=> ?_
 refine aA ?_
 refine ca fun bf=> ?_
 refine bh (eC (r2)) ?_
 refine bh (eC (look_nil (α:=aU))) ?_
 refine bx ?_
 obtain⟨aD,bp,h⟩:=aK.c4 h
 obtain⟨aV,b4,h⟩:=aK.c4 h
 refine ag.draw mixed 11 [some 14,some 15,some 16,some 17,some 18,some 19,some 20,some 21,some 22,some 23,some 24] [[],[],[1],[],[],[4],[5],[3,6],[2,7],[8],[9]] [.val _,.val _,.val _,.val _,.val _,.val _,.val _,.val _,.val _,.val _,.val _] [false,false,false,false,false,false,false,false,false,false,false] (by kernel_rfl) rfl rfl rfl (fun c5=>⟨fz 0 eP,H1 (a2 lE),dN 0 ly k2,cw,H1 (a2 lE),dN 0 ly k2,H1 (er Tryz.underlying28),fc OI (Kn bp),j0 b4 Tryz.underlying28 fO,m7 oN tQ,H1 (cK bM),trivial⟩) fun c5=> ?_
 refine ak.sw 2 0 rfl Yw (Sj h) rfl rfl ⟨ad rfl,ad rfl,trivial⟩ rfl fun⟨⟨aM,h⟩,az⟩=> ?_
 refine ak.gu (L2:=(⟨some bf,.var (aa:a0)⟩ :: ⟨some pe,.var (ai:bI)⟩ :: bz aM.2)) rfl ?_
 refine aH ?_
 refine bE ?_
 refine ak.own (α:=aU) 52 ?_
 refine bh (eC pI) ?_
 refine bx ?_
 refine aA ?_
 refine aH ?_
 refine aJ ?_
 refine ag.block ?_
 refine ag.MA (σ:=Int × (List aU) × bI × (bg Cell)) (ε:=(Int × Bool × (List aU) × bI × (bg Cell))) (γ:=(Option Nat × Nat)) (δ:=(Option Nat × Nat)) h (fun s1 au=> [(0,I.of (aa)),(1,I.eq (.pointer (some ⟨pe,0,none⟩))),(2,I.of (aR)),(3,I.of (cQ)),(4,I.eq (.pointer (some ⟨bf,0,none⟩))),(8,I.of (none:Ref)),(9,I.of ([]:List aU)),(10,I.of (aM.1)),(11,I.eq (aZ au.1 s1.2.1.length au.2)),(12,I.of (s1.1))]) (fun s1 au=>(⟨au.1,.row 52 (s1.2.1:List aU) au.2⟩ :: ⟨some bf,.var (aa:a0)⟩ :: ⟨some pe,.var (s1.2.2.1:bI)⟩ :: bz s1.2.2.2)) (fun ck=>Exit.exit 0) (fun ck au=> [(0,I.of (aa)),(1,I.eq (.pointer (some ⟨pe,0,none⟩))),(2,I.of (aR)),(3,I.of (cQ)),(4,I.eq (.pointer (some ⟨bf,0,none⟩))),(8,I.of (none:Ref)),(9,I.of ([]:List aU)),(10,I.of (aM.1)),(11,I.eq (aZ au.1 ck.2.2.1.length au.2)),(12,I.of (ck.1)),(32,I.of (ck.2.1))]) (fun ck au=>(⟨au.1,.row 52 (ck.2.2.1:List aU) au.2⟩ :: ⟨some bf,.var (aa:a0)⟩ :: ⟨some pe,.var (ck.2.2.2.1:bI)⟩ :: bz ck.2.2.2.2)) (none,0) rfl (.same rfl (.same rfl (.same rfl (.same rfl (.same rfl (.same rfl (.same rfl (.same rfl (.same rfl (.same rfl .nil)))))))))) (fun s1 R h au=> ?_) (fun ay h au=> ?_)
 ·refine ag.seq ?_
  refine aA ?_
  refine ax ?_
  refine ax ?_
  refine a5 dd ?_
  refine ax ?_
  refine eg cN ?_
  obtain⟨a8,dP,h⟩:=aK.c4 h
  refine eN (fun hb=>b3.N5 (z:=(s1.2.2.1:bI)) 2 30 rfl (fun _ _ _ h=>h.1 hb) rfl Ce (h1 Oo (QQ (fE dP hb)) ⟨ad rfl,trivial⟩)) ?_
  refine j4 ?_
  refine aJ ?_
  refine ag.cond (ad rfl) (fun ao=> ?_) (fun ao=> ?_)
  ·replace h:=qD ao h
   refine cn ?_
   refine ag.seq ?_
   refine ag.block ?_
   refine aA ?_
   refine ax ?_
   refine bY 1 eP ?_
   refine ax ?_
   refine ak.cd 2 rfl ?_
   obtain⟨br,eW,h⟩:=aK.c4 h
   refine eT 1 Yx (Q7 eW) fun fS=> ?_
   refine ax ?_
   refine a5 cL ?_
   obtain⟨bN,dg,h⟩:=aK.c4 h
   refine dm dg (cU (b:=({ (default:aU) with cr:=br.1,cg:=bm (s1.1 + 1) } :aU)) rfl Hr iI (.cons iO rfl (ad rfl) rfl (.cons ji rfl (ad rfl) rfl (.nil)))) ?_
   refine ch iI fun bw=> ?_
   refine bS 0 c9 ?_
   refine bE ?_
   refine ax ?_
   refine bY 0 c9 ?_
   refine ak.sw 4 0 rfl Yy (Rk h) rfl rfl ⟨ad rfl,ad rfl,trivial⟩ rfl fun⟨⟨cj,h⟩,je⟩=> ?_
   refine ak.gu (L2:=(⟨some bw,.var (bN:aU)⟩ :: ⟨some pe,.var (br.2:bI)⟩ :: ⟨au.1,.row 52 (s1.2.1:List aU) au.2⟩ :: ⟨some bf,.var (aa:a0)⟩ :: bz cj.2)) rfl ?_
   refine aJ ?_
   obtain⟨bJ,cB,h⟩:=aK.c4 h
   refine ag.cX (γ:=(Option Nat × Nat)) (fun aT=> [(0,I.of (aa)),(1,I.eq (.pointer (some ⟨pe,0,none⟩))),(2,I.of (aR)),(3,I.of (cQ)),(4,I.eq (.pointer (some ⟨bf,0,none⟩))),(8,I.of (none:Ref)),(9,I.of ([]:List aU)),(10,I.of (aM.1)),(11,I.eq (aZ aT.1 bJ.length aT.2)),(12,I.of (s1.1)),(13,I.eq (.pointer (some ⟨bw,0,none⟩))),(32,I.of ((decide (s1.1 < cQ)) && a8)),(44,I.of (cj.1))]) (fun aT=>(⟨some bw,.var (bN:aU)⟩ :: ⟨some pe,.var (br.2:bI)⟩ :: ⟨aT.1,.row 52 (bJ:List aU) aT.2⟩ :: ⟨some bf,.var (aa:a0)⟩ :: bz cj.2)) (ad rfl) (fun aT=> ?_) (fun hm ao=> ?_) (fun hm ao=> ?_)
   ·clear cB
    refine ae.db ?_
    refine ae.next ?_
    refine ag.b1 ?_
    refine ax ?_
    refine a5 cL ?_
    refine aH ?_
    refine ak.nil ?_
    refine ae.cd 3 rfl ?_
    refine ae.cd 3 rfl ?_
    refine ae.cd 2 rfl ?_
    exact ae.MB h (aT.1,aT.2) 1 rfl (.same rfl (.same rfl (.same rfl (.same rfl (.same rfl (.same rfl (.same rfl (.same rfl (.same rfl (.same rfl .nil))))))))))
   ·have h:=gK ao cB
    refine ag.b1 ?_
    refine ax ?_
    refine bY 0 c9 ?_
    refine fQ [bN] Tryz.underlying38 c9 iI ?_
    obtain⟨cM,hh,h⟩:=ar h
    refine jv 2 Tryz.underlying38 c9 iI hh fun gE e2=> ?_
    refine aH ?_
    refine ak.nil ?_
    obtain rfl:=aG h
    exact dj 0 (hm (gE,e2))
   ·have h:=gL ao cB
    refine ag.skip ?_
    obtain rfl:=aG h
    exact dj 0 (hm (au.1,au.2))
  ·replace h:=qE ao h
   refine ag.exit ?_
   refine ae.exit ?_
   exact ae.Ge h (au.1,au.2) 0 rfl (by simp) rfl (.same rfl (.same rfl (.same rfl (.same rfl (.same rfl (.same rfl (.same rfl (.same rfl (.same rfl (.same rfl (.same rfl .nil)))))))))))
 ·refine ae.dD ?_
  refine ae.next ?_
  refine aA ?_
  refine ax ?_
  refine ax ?_
  refine aH ?_
  refine aH ?_
  refine aJ ?_
  refine ag.ret ?_
  refine ae.kF (α:=aU) 0 [9,11,50] ⟨rfl,rfl,rfl,trivial⟩ rfl ?_
  refine ae.cd 2 rfl ?_
  exact ae.qU (⟨⟨(aM.1,ay.2.2.1,ay.2.2.2.1,ay.2.2.2.2),h⟩,()⟩: {r // _} × _) (.cons_cons _ (.cons _ (.cons _ (.refl _)))) rfl rfl (gf rfl) (gf rfl)
end Go.Proofs.YtmnggbjcnoffeaaGreat
namespace Go.Proofs.YtmnggbjcnoffeaaGreat
open Go Gv
set_option linter.unusedVariables false
set_option linter.unusedSimpArgs false
set_option maxRecDepth 100000
set_option maxHeartbeats 2000000
theorem QV {hp:bg Cell} {aa:List (BitVec 8)} {ai:List (BitVec 8)} {aR:Int} {cQ:Int} {Q:Bool × (bg Cell)→Prop} (h:xM hp aa ai aR cQ Q):cG Tryz.prog 10 [I.of (aa),I.of (ai),I.of (aR),I.of (cQ)] ([] ++ bz hp) (δ:= {r:Bool × (bg Cell) // Q r} × Unit) (fun d=>I.of (d.1.1.1)) (fun d=> [] ++ bz d.1.1.2):=by
 unfold xM at h
 refine cG.of Tryz.func10 rfl Tryz.ntmps10 rfl fun W A=> ?_
 refine aA ?_
 refine aH ?_
 refine bE ?_
 refine ax ?_
 obtain⟨aD,bp,h⟩:=aK.c4 h
 refine eT 0 Hp (EW bp) fun az=> ?_
 refine ak.cd 0 rfl ?_
 obtain⟨aM,b9,h⟩:=aK.c4 h
 refine eT 1 OH (JF b9) fun ck=> ?_
 refine ax ?_
 obtain⟨a8,dP,h⟩:=aK.c4 h
 refine eT 0 Hp (EW dP) fun fS=> ?_
 refine ch zJ fun bf=> ?_
 refine bS 0 eP ?_
 refine aH ?_
 refine bE ?_
 refine bY 0 eP ?_
 refine ax ?_
 refine ax ?_
 refine ak.cd 1 rfl ?_
 refine ak.PX (hi.sw 3 1 rfl Yz (RS h) rfl rfl ⟨ad rfl,ad rfl,ad rfl,bF 14,trivial⟩) rfl rfl rfl fun⟨⟨br,h⟩,je⟩=> ?_
 refine ak.gu (L2:=(⟨some fS,.var (br.2.2.1:bI)⟩ :: ⟨some bf,.var (aM.1:a0)⟩ :: ⟨some az,.var (aM.2:bI)⟩ :: bz br.2.2.2)) rfl ?_
 refine ax ?_
 refine dG ?_
 refine dG ?_
 refine aH ?_
 refine aH ?_
 refine bE ?_
 refine bY 1 eP ?_
 refine ax ?_
 obtain⟨cj,gH,h⟩:=aK.c4 h
 refine cH YA (RF gH) ?_
 refine aH ?_
 refine bx ?_
 refine aA ?_
 refine ax ?_
 refine aY (er Tryz.underlying94) ?_
 refine ax ?_
 refine aY (er Tryz.underlying38) ?_
 refine a5 mY ?_
 refine aJ ?_
 refine ag.cond (ad rfl) (fun ao=> ?_) (fun ao=> ?_)
 ·replace h:=qD ao h
  refine aA ?_
  refine aH ?_
  refine aJ ?_
  refine ag.ret ?_
  refine ae.ret ?_
  exact ae.ha (⟨⟨(false,br.2.2.2),h⟩,()⟩: {r // _} × _) (.cons _ (.cons _ (.cons _ (.refl _)))) rfl rfl (gf rfl)
 ·replace h:=qE ao h
  refine cn ?_
  refine ag.seq ?_
  refine aA ?_
  refine ax ?_
  refine aY (er Tryz.underlying38) ?_
  refine ax ?_
  refine aJ ?_
  refine ag.block ?_
  obtain⟨ay,al,h⟩:=aK.c4 h
  refine ag.zp (σ:=Int) (ε:=(Int × Bool) ⊕ (Int × Bool × Int × Bool × Int × Bool × Int × Int × Bool × Bool)) (γ:=Unit) (δ:=Unit) al (fun s1 au=> [(0,I.of (aa)),(1,I.of (ai)),(2,I.of (aR)),(3,I.of (cQ)),(8,I.of (false)),(9,I.eq (.pointer (some ⟨bf,0,none⟩))),(10,I.eq (.pointer (some ⟨fS,0,none⟩))),(12,I.of (br.2.1)),(13,I.of (cj)),(47,I.of ((cj.length:Int) !=(br.2.1.length:Int))),(48,I.of (br.2.1)),(49,I.of (br.2.1.length:Int)),(50,I.of (s1))]) (fun s1 au=>(⟨some fS,.var (br.2.2.1:bI)⟩ :: ⟨some bf,.var (aM.1:a0)⟩ :: ⟨some az,.var (aM.2:bI)⟩ :: bz br.2.2.2)) (fun ey=>Sum.elim (fun ey=>Exit.exit 0) (fun ey=>Exit.ret) ey) (fun ey au=>Sum.elim (fun ey=> [(0,I.of (aa)),(1,I.of (ai)),(2,I.of (aR)),(3,I.of (cQ)),(8,I.of (false)),(9,I.eq (.pointer (some ⟨bf,0,none⟩))),(10,I.eq (.pointer (some ⟨fS,0,none⟩))),(12,I.of (br.2.1)),(13,I.of (cj)),(47,I.of ((cj.length:Int) !=(br.2.1.length:Int))),(48,I.of (br.2.1)),(49,I.of (br.2.1.length:Int)),(50,I.of (ey.1)),(51,I.of (ey.2))]) (fun ey=> [(0,I.of (aa)),(1,I.of (ai)),(2,I.of (aR)),(3,I.of (cQ)),(8,I.of (false)),(9,I.eq (.pointer (some ⟨bf,0,none⟩))),(10,I.eq (.pointer (some ⟨fS,0,none⟩))),(12,I.of (br.2.1)),(13,I.of (cj)),(14,I.of (ey.1)),(16,I.of (ey.2.1)),(17,I.of (ey.2.2.1)),(19,I.of (ey.2.2.2.1)),(20,I.of (ey.2.2.2.2.1)),(22,I.of (ey.2.2.2.2.2.1)),(23,I.of (ey.2.2.2.2.2.2.1)),(47,I.of ((cj.length:Int) !=(br.2.1.length:Int))),(48,I.of (br.2.1)),(49,I.of (br.2.1.length:Int)),(50,I.of (ey.2.2.2.2.2.2.2.1)),(51,I.of (ey.2.2.2.2.2.2.2.2.1)),(105,I.of (ey.2.2.2.2.2.2.2.2.2))]) ey) (fun ey au=>Sum.elim (fun ey=>(⟨some fS,.var (br.2.2.1:bI)⟩ :: ⟨some bf,.var (aM.1:a0)⟩ :: ⟨some az,.var (aM.2:bI)⟩ :: bz br.2.2.2)) (fun ey=>(⟨some fS,.var (br.2.2.1:bI)⟩ :: ⟨some bf,.var (aM.1:a0)⟩ :: ⟨some az,.var (aM.2:bI)⟩ :: bz br.2.2.2)) ey) () rfl (.same rfl (.same rfl (.same rfl (.same rfl (.same rfl (.same rfl (.same rfl (.same rfl (.same rfl (.same rfl (.same rfl (.same rfl (.same rfl .nil))))))))))))) (fun s1 r h au=> ?_) (fun au=> ?_)
  ·clear al
   refine aA ?_
   refine a5 dd ?_
   refine bx ?_
   refine b0 h (fun h=>?_) fun h=>?_
   ·refine cn ?_
    refine ag.seq ?_
    refine ag.block ?_
    refine aA ?_
    refine ax ?_
    obtain⟨aV,b4,h⟩:=ar h
    refine fq b4 Tryz.underlying38 c9 ?_
    refine aY (cK c9) ?_
    refine ch iI fun bw=> ?_
    refine aH ?_
    refine bS 0 c9 ?_
    refine bE ?_
    refine bY 2 eP ?_
    refine ax ?_
    refine aY (a2 km) ?_
    refine b5 0 ji bM ?_
    obtain⟨cM,hh,h⟩:=ar h
    refine cH OJ (Kc hh) ?_
    refine ax ?_
    refine dG ?_
    refine dG ?_
    refine aH ?_
    refine aH ?_
    refine bE ?_
    refine bY 2 eP ?_
    refine ax ?_
    refine aY (a2 km) ?_
    refine b5 0 ji bM ?_
    obtain⟨dv,kM,h⟩:=ar h
    refine cH YB (RD kM) ?_
    refine ax ?_
    refine dG ?_
    refine dG ?_
    refine dG ?_
    refine ch iV fun cz=> ?_
    refine bS 0 dR ?_
    refine aH ?_
    refine aH ?_
    refine bE ?_
    refine bY 3 eP ?_
    refine ax ?_
    refine aY (a2 km) ?_
    refine b5 1 ji bM ?_
    obtain⟨eU,k9,h⟩:=ar h
    refine cH YC (Rr k9) ?_
    refine ax ?_
    refine dG ?_
    refine dG ?_
    refine dG ?_
    refine ch iV fun ff=> ?_
    refine bS 0 dR ?_
    refine aH ?_
    refine aH ?_
    refine bx ?_
    obtain⟨bu,cD,h⟩:=ar h
    obtain⟨bN,dg,h⟩:=ar h
    obtain⟨c7,gG,h⟩:=ar h
    refine ag.draw mixed 25 ((some 81) :: (some 82) :: (some 83) :: (some 84) :: (some 85) :: (some 86) :: (some 87) :: (some 88) :: (some 89) :: (some 90) :: (some 91) :: (some 92) :: (some 93) :: (some 94) :: (some 95) :: (some 96) :: (some 97) :: (some 98) :: (some 99) :: (some 100) :: (some 101) :: (some 102) :: (some 103) :: (some 104) :: (some 105) :: []) ([] :: [] :: [0,1] :: [2] :: [] :: [4] :: [] :: [] :: [5,6,7] :: [3,8] :: [9] :: [10] :: [10] :: [10,11,12] :: [10,13] :: [14] :: [15] :: [15] :: [15,16,17] :: [15,18] :: [19] :: [20] :: [20] :: [20,21,22] :: [20,23] :: []) (.val _ :: .val _ :: .val _ :: .val _ :: .val _ :: .val _ :: .val _ :: .val _ :: .val _ :: .val _ :: .val _ :: .val _ :: .val _ :: .val _ :: .val _ :: .val _ :: .val _ :: .val _ :: .val _ :: .val _ :: .val _ :: .val _ :: .val _ :: .val _ :: .val _ :: []) (false :: false :: false :: false :: false :: false :: false :: false :: false :: false :: false :: false :: false :: false :: false :: false :: false :: false :: false :: false :: false :: false :: false :: false :: false :: []) (by kernel_rfl) rfl rfl rfl (fun c5=>⟨cw,cw,j0 cD Tryz.underlying94 k3,H1 (cK k3),H1 (a2 km),dN 2 ji bM,cw,cw,AS dg fun aC av=>cU (b:= { cg:=(aB br.2.1 aV).cg,r5:=cM.1,sy:=cM.2:cP }) rfl OG zO (.cons vk rfl (ad rfl) rfl (.cons Bg rfl (ad rfl) rfl (.cons Bo rfl (ad rfl) rfl (.nil)))),lq (zn W9 rfl Xa rfl),cw,ew fun aC av=>fun hb=>fb (i:=1) (aI.id (Vector aw 4)) (r:=dv.1) dR (ad rfl) (av _ _ rfl rfl) rfl rfl,ew fun aC av=>fun hb=>fb (i:=0) (aI.id (Vector aw 4)) (r:=eU.1) dR (ad rfl) (av _ _ rfl rfl) rfl rfl,ew fun aC av=>fun hb=>zn C3 rfl Np rfl (ct rfl hb) (ct rfl hb),df fun aC av=>sF (ad rfl) (ad rfl) (fun h=>h),cw,ew fun aC av=>fun hb=>cN (ad rfl),ew fun aC av=>fun hb=>cN (ad rfl),ew fun aC av=>fun hb=>Xb Tryz.underlying4 (ct rfl hb) (ct rfl hb),AS gG fun aC av=>sF (ad rfl) (ad rfl) (fun h=>h),cw,ew fun aC av=>fun hb=>cN (ad rfl),ew fun aC av=>fun hb=>cN (ad rfl),ew fun aC av=>fun hb=>mY (ct rfl hb) (ct rfl hb),df fun aC av=>sF (ad rfl) (ad rfl) (fun h=>h),trivial⟩) fun c5=> ?_
    refine aJ ?_
    refine b0 h (fun h=>?_) fun h=>?_
    ·refine aA ?_
     refine aH ?_
     refine aJ ?_
     refine ag.ret ?_
     refine ae.dQ ?_
     refine ae.ret ?_
     obtain rfl:=aG h
     exact c6 () 3
    ·refine ag.skip ?_
     refine ae.db ?_
     refine ae.next ?_
     refine ag.b1 ?_
     refine a5 cL ?_
     refine ax ?_
     refine ak.nil ?_
     obtain rfl:=aG h
     exact dO () 3
   ·refine ag.exit ?_
    refine ae.exit ?_
    obtain rfl:=aG h
    exact c6 () 0
  ·clear al
   rcases ay with ay | ay
   ·simp only [Sum.elim_inl] at h
    refine ae.dD ?_
    refine ae.next ?_
    refine aA ?_
    refine bY 1 eP ?_
    refine ax ?_
    refine ax ?_
    obtain⟨fo,nJ,h⟩:=aK.c4 h
    refine cH Dm (BT nJ) ?_
    refine ax ?_
    refine dG ?_
    refine dG ?_
    refine aH ?_
    refine aH ?_
    refine bE ?_
    refine bY 1 eP ?_
    refine ax ?_
    refine ax ?_
    obtain⟨gP,o5,h⟩:=aK.c4 h
    refine cH OJ (Kc o5) ?_
    refine ax ?_
    refine dG ?_
    refine dG ?_
    refine aH ?_
    refine aH ?_
    refine bE ?_
    refine ax ?_
    refine ax ?_
    refine a5 (Xc Tryz.underlying4) ?_
    refine ax ?_
    refine eg cN ?_
    refine eg cN ?_
    refine k7 fW ?_
    refine j4 ?_
    refine ax ?_
    obtain⟨ik,q4,h⟩:=aK.c4 h
    refine eN (fun hb=>h1 YD (R0 (fE q4 hb)) trivial) ?_
    refine j4 ?_
    refine aH ?_
    refine aJ ?_
    refine ag.ret ?_
    exact ae.ha (⟨⟨(((fo.1 ==gP.1) && (fo.2 ==gP.2)) && ik,br.2.2.2),h⟩,()⟩: {r // _} × _) (.cons _ (.cons _ (.cons _ (.refl _)))) rfl rfl (gf rfl)
   ·simp only [Sum.elim_inr] at h
    refine ae.dQ ?_
    refine ae.ret ?_
    exact ae.ha (⟨⟨(false,br.2.2.2),h⟩,()⟩: {r // _} × _) (.cons _ (.cons _ (.cons _ (.refl _)))) rfl rfl (gf rfl)
end Go.Proofs.YtmnggbjcnoffeaaGreat
