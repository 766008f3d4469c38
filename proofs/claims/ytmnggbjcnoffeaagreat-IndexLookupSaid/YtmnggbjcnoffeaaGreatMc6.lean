/-
  Each function meets its functional program. Conditions: none.
-/
import Derived.Test.YtmnggbjcnoffeaaGreatMc0
import Derived.Test.YtmnggbjcnoffeaaGreatMc5
import Derived.Test.YtmnggbjcnoffeaaGreatMc4
import Derived.Test.YtmnggbjcnoffeaaGreatMd
import Derived.Test.YtmnggbjcnoffeaaGreatMc3
namespace Go.Proofs.YtmnggbjcnoffeaaGreat
open Go Gv
set_option linter.unusedVariables false
set_option linter.unusedSimpArgs false
set_option maxRecDepth 100000
set_option maxHeartbeats 2000000
theorem NR {hp:a1 Cell} {J:dY} {aj:aJ} {Q:(a1 Cell)→Prop} (h:wS hp J aj Q):cf Tryz.prog 237 [I.of (J),I.of (aj)] ([] ++ a3 hp) (δ:= {r:(a1 Cell) // Q r} × Unit) (fun d=>I.cG []) (fun d=> [] ++ a3 d.1.1):=by
 unfold wS at h
 refine cf.of Tryz.func237 rfl Tryz.ntmps237 rfl fun W A=> ?_
 refine aA ?_
 refine b8 fun aR=> ?_
 refine b8 fun a0=> ?_
 refine b2 ?_
 refine cm 1 BD ?_
 refine aT (aQ jx) ?_
 refine bL 0 jd g9 ?_
 obtain⟨ak,bt,h⟩:=aC.cJ h
 refine ev K4 (Hm bt) ?_
 refine aB ?_
 refine h6 ?_
 refine h6 ?_
 refine h6 ?_
 refine cM vm fun bF=> ?_
 refine cM et fun cA=> ?_
 refine ck 1 hJ ?_
 refine ck 0 bV ?_
 refine aM ?_
 refine bK ?_
 refine aA ?_
 refine aT (aQ nB) ?_
 refine bL 3 m1 nj ?_
 refine cm 1 hJ ?_
 obtain⟨cW,eA,h⟩:=aC.cJ h
 obtain⟨cd,ff,h⟩:=aC.cJ h
 obtain⟨bg,dd,h⟩:=aC.cJ h
 refine bj (xU (r:=bg) Tryz.underlying167 yA BO (n6 (ad rfl) eA) (ad rfl) (gn (n:=4) rfl (oc ff) rfl) (aH dd)) ?_
 refine bj (m9 Tryz.underlying321 (ad rfl)) ?_
 refine aI ?_
 refine ag.x9 (γ:=Unit) h (fun bB aw=> [(0,I.of (J)),(1,I.of (aj)),(2,I.eq (.pointer (some ⟨aR,0,none⟩))),(3,I.eq (.pointer (some ⟨a0,0,none⟩))),(4,I.eq (.pointer (some ⟨bF,0,none⟩))),(5,I.eq (.pointer (some ⟨cA,0,none⟩))),(6,I.of (ak.2.2)),(19,I.of (bg.isNone))]) (fun bB aw=>(⟨some cA,.var (ak.2.1:al)⟩ :: ⟨some bF,.var (ak.1:Vector al 4)⟩ :: ⟨some a0,.var (aj:aJ)⟩ :: ⟨some aR,.var (J:dY)⟩ :: a3 bB)) (ad rfl) (fun bB aw h=> ?_) (fun hm ar h=> ?_) (fun hm ar h=> ?_)
 ·refine ab.next ?_
  obtain⟨cS,gD,h⟩:=aC.cJ h
  obtain⟨dw,ha,h⟩:=aC.cJ h
  refine ag.draw mixed 8 [some 26,some 27,some 28,some 29,some 30,some 31,some 32,some 33] [[],[0],[],[1,2],[],[],[],[6]] [.val _,.val _,.val _,.val _,.val _,.val _,.val _,.val _] [false,false,false,false,false,false,false,false] (by kernel_rfl) rfl rfl rfl (fun c1=>⟨H1 (aQ nB),dI 3 m1 nj,e5 1 hJ,e0 fun L' ao=>xU (r:=dw) Tryz.underlying167 yA BO (n6 (ad rfl) eA) (ad rfl) (mM (fun i e q=>ao i e q rfl) (gn (n:=4) rfl (oc gD) rfl)) (aH ha),e5 0 bV,c3,H1 (aQ mC),dI 2 lN bo,trivial⟩) fun c1=> ?_
  refine ai.kj 4 0 rfl Ta (Ow h) rfl rfl ⟨ad rfl,ad rfl,ad rfl,ad rfl,trivial⟩ rfl fun⟨⟨aO,h⟩,az⟩=> ?_
  refine ai.en (L2:=(⟨some cA,.var (ak.2.1:al)⟩ :: ⟨some bF,.var (ak.1:Vector al 4)⟩ :: ⟨some a0,.var (aj:aJ)⟩ :: ⟨some aR,.var (J:dY)⟩ :: a3 aO.2)) rfl ?_
  refine ai.nil ?_
  refine ab.sZ ?_
  exact ab.o8 (⟨⟨aO.2,h⟩,()⟩: {r // _} × _) (.cons _ (.cons _ (.cons _ (.cons _ (.refl _))))) rfl rfl
 ·obtain⟨vX,vH,UB⟩:=aC.ex h
  refine ag.K7 mixed 7 (Array.mk (false :: false :: false :: false :: false :: false :: false :: [])) rfl rfl ?_
  refine bp.cut (γ:=Subtype vX) 1 (Array.mk (true :: true :: true :: true :: true :: true :: false :: [])) (fun yh=> [(0,I.of (J)),(1,I.of (aj)),(2,I.eq (.pointer (some ⟨aR,0,none⟩))),(3,I.eq (.pointer (some ⟨a0,0,none⟩))),(4,I.eq (.pointer (some ⟨bF,0,none⟩))),(5,I.eq (.pointer (some ⟨cA,0,none⟩))),(6,I.of (ak.2.2)),(7,I.cG [I.of (ak.1),I.of (ak.2.1),I.of (ak.2.2)]),(8,I.of (J)),(9,I.eq (.pointer (some ⟨a0,0 + 0,none⟩))),(10,I.of (aj.bH)),(11,I.cG [I.of (ak.1),I.of (ak.2.1),I.of (ak.2.2)]),(12,I.of (ak.1)),(13,I.of (ak.2.1)),(14,I.of (ak.2.2)),(15,I.eq (.pointer (some ⟨aR,0 + 2,none⟩))),(16,I.of (J.fE)),(17,I.of (ak.1)),(18,I.of (bg)),(19,I.of (bg.isNone)),(20,I.eq (.pointer (some ⟨aR,0 + 2,none⟩))),(21,I.of (J.fE)),(22,I.of (ak.1)),(23,I.eq (.pointer (some ⟨aR,0 + 1,none⟩))),(24,I.of (J.ey)),(25,I.of (yh.1.1))]) (fun yh=>(⟨some cA,.var (ak.2.1:al)⟩ :: ⟨some bF,.var (ak.1:Vector al 4)⟩ :: ⟨some a0,.var (aj:aJ)⟩ :: ⟨some aR,.var (J:dY)⟩ :: a3 yh.1.2)) (fun yh=> ?_) (fun Fa=> ?_)
  ·obtain⟨bc,nq⟩:=yh
   have h:=UB bc nq
   refine bp.tail 6 rfl (by kernel_rfl) ?_
   refine ai.en (L2:=(⟨some cA,.var (ak.2.1:al)⟩ :: ⟨some bF,.var (ak.1:Vector al 4)⟩ :: ⟨some a0,.var (aj:aJ)⟩ :: ⟨some aR,.var (J:dY)⟩ :: a3 bc.2)) rfl ?_
   refine ai.le (E':= [(0,I.of (J)),(1,I.of (aj)),(2,I.eq (.pointer (some ⟨aR,0,none⟩))),(3,I.eq (.pointer (some ⟨a0,0,none⟩))),(4,I.eq (.pointer (some ⟨bF,0,none⟩))),(5,I.eq (.pointer (some ⟨cA,0,none⟩))),(6,I.of (ak.2.2)),(7,I.cG [I.of (ak.1),I.of (ak.2.1),I.of (ak.2.2)]),(8,I.of (J)),(9,I.eq (.pointer (some ⟨a0,0 + 0,none⟩))),(10,I.of (aj.bH)),(11,I.cG [I.of (ak.1),I.of (ak.2.1),I.of (ak.2.2)]),(12,I.of (ak.1)),(13,I.of (ak.2.1)),(14,I.of (ak.2.2)),(15,I.eq (.pointer (some ⟨aR,0 + 2,none⟩))),(16,I.of (J.fE)),(17,I.of (ak.1)),(18,I.of (bg)),(19,I.of (bg.isNone)),(20,I.eq (.pointer (some ⟨aR,0 + 2,none⟩))),(21,I.of (J.fE)),(22,I.of (ak.1)),(23,I.eq (.pointer (some ⟨aR,0 + 1,none⟩))),(24,I.of (J.ey)),(25,I.of (bc.1))]) (.same rfl (.same rfl (.same rfl (.same rfl (.same rfl (.same rfl (.same rfl (.same rfl (.same rfl (.same rfl (.same rfl (.same rfl (.same rfl (.same rfl (.same rfl (.same rfl (.same rfl (.same rfl (.same rfl (.same rfl (.same rfl (.same rfl (.same rfl (.same rfl (.same rfl (.same rfl .nil)))))))))))))))))))))))))) ?_
   obtain⟨e2,l9,h⟩:=aC.cJ h
   obtain⟨dF,oq,h⟩:=aC.cJ h
   refine ai.EW (k':=Cell.mQ (g3 e2 ak.1 bc.1)) 4 rfl (by first | exact .inl rfl | exact .inr rfl) Tryz.underlying167 yA (n6 (ad rfl) eA) (ad rfl) (ad rfl) (oc l9) rfl rfl rfl (aH oq) ?_
   refine ai.nil ?_
   exact df 0 (hm dF () h)
  refine bp.cut (γ:=Subtype vX) 2 (Array.mk (true :: false :: true :: true :: true :: true :: false :: [])) (fun yi=> [(0,I.of (J)),(1,I.of (aj)),(2,I.eq (.pointer (some ⟨aR,0,none⟩))),(3,I.eq (.pointer (some ⟨a0,0,none⟩))),(4,I.eq (.pointer (some ⟨bF,0,none⟩))),(5,I.eq (.pointer (some ⟨cA,0,none⟩))),(6,I.of (ak.2.2)),(7,I.cG [I.of (ak.1),I.of (ak.2.1),I.of (ak.2.2)]),(8,I.of (J)),(9,I.eq (.pointer (some ⟨a0,0 + 0,none⟩))),(10,I.of (aj.bH)),(11,I.cG [I.of (ak.1),I.of (ak.2.1),I.of (ak.2.2)]),(12,I.of (ak.1)),(13,I.of (ak.2.1)),(14,I.of (ak.2.2)),(15,I.eq (.pointer (some ⟨aR,0 + 2,none⟩))),(16,I.of (J.fE)),(17,I.of (ak.1)),(18,I.of (bg)),(19,I.of (bg.isNone)),(20,I.eq (.pointer (some ⟨aR,0 + 2,none⟩))),(22,I.of (ak.1)),(23,I.eq (.pointer (some ⟨aR,0 + 1,none⟩))),(24,I.of (J.ey)),(25,I.of (yi.1.1))]) (fun yi=>(⟨some cA,.var (ak.2.1:al)⟩ :: ⟨some bF,.var (ak.1:Vector al 4)⟩ :: ⟨some a0,.var (aj:aJ)⟩ :: ⟨some aR,.var (J:dY)⟩ :: a3 yi.1.2)) (fun yi=> ?_) (fun Fb=> ?_)
  ·refine bp.step [1] (by kernel_rfl) rfl ⟨⟨_,rfl,?_⟩,trivial⟩
   ·refine bL 3 m1 nj ?_
    refine ai.nil ?_
    exact ab.any rfl (bp.le (.same rfl (.same rfl (.same rfl (.same rfl (.same rfl (.same rfl (.same rfl (.same rfl (.same rfl (.same rfl (.same rfl (.same rfl (.same rfl (.same rfl (.same rfl (.same rfl (.same rfl (.same rfl (.same rfl (.same rfl (.same rfl (.same rfl (.same rfl (.same rfl (.same rfl (.same rfl .nil)))))))))))))))))))))))))) (Fa yi))
  refine bp.cut (γ:=Subtype vX) 2 (Array.mk (true :: true :: false :: true :: true :: true :: false :: [])) (fun yj=> [(0,I.of (J)),(1,I.of (aj)),(2,I.eq (.pointer (some ⟨aR,0,none⟩))),(3,I.eq (.pointer (some ⟨a0,0,none⟩))),(4,I.eq (.pointer (some ⟨bF,0,none⟩))),(5,I.eq (.pointer (some ⟨cA,0,none⟩))),(6,I.of (ak.2.2)),(7,I.cG [I.of (ak.1),I.of (ak.2.1),I.of (ak.2.2)]),(8,I.of (J)),(9,I.eq (.pointer (some ⟨a0,0 + 0,none⟩))),(10,I.of (aj.bH)),(11,I.cG [I.of (ak.1),I.of (ak.2.1),I.of (ak.2.2)]),(12,I.of (ak.1)),(13,I.of (ak.2.1)),(14,I.of (ak.2.2)),(15,I.eq (.pointer (some ⟨aR,0 + 2,none⟩))),(16,I.of (J.fE)),(17,I.of (ak.1)),(18,I.of (bg)),(19,I.of (bg.isNone)),(20,I.eq (.pointer (some ⟨aR,0 + 2,none⟩))),(21,I.of (J.fE)),(23,I.eq (.pointer (some ⟨aR,0 + 1,none⟩))),(24,I.of (J.ey)),(25,I.of (yj.1.1))]) (fun yj=>(⟨some cA,.var (ak.2.1:al)⟩ :: ⟨some bF,.var (ak.1:Vector al 4)⟩ :: ⟨some a0,.var (aj:aJ)⟩ :: ⟨some aR,.var (J:dY)⟩ :: a3 yj.1.2)) (fun yj=> ?_) (fun K8=> ?_)
  ·refine bp.step [2] (by kernel_rfl) rfl ⟨⟨_,rfl,?_⟩,trivial⟩
   ·refine cm 1 hJ ?_
    refine ai.nil ?_
    exact ab.any rfl (bp.le (.same rfl (.same rfl (.same rfl (.same rfl (.same rfl (.same rfl (.same rfl (.same rfl (.same rfl (.same rfl (.same rfl (.same rfl (.same rfl (.same rfl (.same rfl (.same rfl (.same rfl (.same rfl (.same rfl (.same rfl (.same rfl (.same rfl (.same rfl (.same rfl (.same rfl (.same rfl .nil)))))))))))))))))))))))))) (Fa yj))
  refine bp.cut (γ:=Unit) 2 (Array.mk (true :: true :: true :: true :: true :: false :: false :: [])) (fun Kh=> [(0,I.of (J)),(1,I.of (aj)),(2,I.eq (.pointer (some ⟨aR,0,none⟩))),(3,I.eq (.pointer (some ⟨a0,0,none⟩))),(4,I.eq (.pointer (some ⟨bF,0,none⟩))),(5,I.eq (.pointer (some ⟨cA,0,none⟩))),(6,I.of (ak.2.2)),(7,I.cG [I.of (ak.1),I.of (ak.2.1),I.of (ak.2.2)]),(8,I.of (J)),(9,I.eq (.pointer (some ⟨a0,0 + 0,none⟩))),(10,I.of (aj.bH)),(11,I.cG [I.of (ak.1),I.of (ak.2.1),I.of (ak.2.2)]),(12,I.of (ak.1)),(13,I.of (ak.2.1)),(14,I.of (ak.2.2)),(15,I.eq (.pointer (some ⟨aR,0 + 2,none⟩))),(16,I.of (J.fE)),(17,I.of (ak.1)),(18,I.of (bg)),(19,I.of (bg.isNone)),(20,I.eq (.pointer (some ⟨aR,0 + 2,none⟩))),(21,I.of (J.fE)),(22,I.of (ak.1)),(23,I.eq (.pointer (some ⟨aR,0 + 1,none⟩))),(24,I.of (J.ey))]) (fun Kh=>(⟨some cA,.var (ak.2.1:al)⟩ :: ⟨some bF,.var (ak.1:Vector al 4)⟩ :: ⟨some a0,.var (aj:aJ)⟩ :: ⟨some aR,.var (J:dY)⟩ :: a3 hp)) (fun Kh=> ?_) (fun Fc=> ?_)
  ·refine bp.step [5] (by kernel_rfl) rfl ⟨⟨_,rfl,?_⟩,trivial⟩
   ·refine ai.kj 4 0 rfl vz (uR vH) rfl rfl ⟨ad rfl,trivial⟩ rfl fun⟨⟨bc,nq⟩,_⟩=> ?_
    refine ai.en (L2:=(⟨some cA,.var (ak.2.1:al)⟩ :: ⟨some bF,.var (ak.1:Vector al 4)⟩ :: ⟨some a0,.var (aj:aJ)⟩ :: ⟨some aR,.var (J:dY)⟩ :: a3 bc.2)) rfl ?_
    refine ai.nil ?_
    exact ab.any rfl (bp.le (.same rfl (.same rfl (.same rfl (.same rfl (.same rfl (.same rfl (.same rfl (.same rfl (.same rfl (.same rfl (.same rfl (.same rfl (.same rfl (.same rfl (.same rfl (.same rfl (.same rfl (.same rfl (.same rfl (.same rfl (.same rfl (.same rfl (.same rfl (.same rfl (.same rfl (.same rfl .nil)))))))))))))))))))))))))) (Fa ⟨bc,nq⟩))
  refine bp.cut (γ:=Subtype vX) 3 (Array.mk (false :: false :: true :: true :: true :: true :: false :: [])) (fun rf=> [(0,I.of (J)),(1,I.of (aj)),(2,I.eq (.pointer (some ⟨aR,0,none⟩))),(3,I.eq (.pointer (some ⟨a0,0,none⟩))),(4,I.eq (.pointer (some ⟨bF,0,none⟩))),(5,I.eq (.pointer (some ⟨cA,0,none⟩))),(6,I.of (ak.2.2)),(7,I.cG [I.of (ak.1),I.of (ak.2.1),I.of (ak.2.2)]),(8,I.of (J)),(9,I.eq (.pointer (some ⟨a0,0 + 0,none⟩))),(10,I.of (aj.bH)),(11,I.cG [I.of (ak.1),I.of (ak.2.1),I.of (ak.2.2)]),(12,I.of (ak.1)),(13,I.of (ak.2.1)),(14,I.of (ak.2.2)),(15,I.eq (.pointer (some ⟨aR,0 + 2,none⟩))),(16,I.of (J.fE)),(17,I.of (ak.1)),(18,I.of (bg)),(19,I.of (bg.isNone)),(22,I.of (ak.1)),(23,I.eq (.pointer (some ⟨aR,0 + 1,none⟩))),(24,I.of (J.ey)),(25,I.of (rf.1.1))]) (fun rf=>(⟨some cA,.var (ak.2.1:al)⟩ :: ⟨some bF,.var (ak.1:Vector al 4)⟩ :: ⟨some a0,.var (aj:aJ)⟩ :: ⟨some aR,.var (J:dY)⟩ :: a3 rf.1.2)) (fun rf=> ?_) (fun vv=> ?_)
  ·refine bp.step [0] (by kernel_rfl) rfl ⟨⟨_,rfl,?_⟩,trivial⟩
   ·refine aT (aQ nB) ?_
    refine ai.nil ?_
    exact ab.any rfl (bp.le (.same rfl (.same rfl (.same rfl (.same rfl (.same rfl (.same rfl (.same rfl (.same rfl (.same rfl (.same rfl (.same rfl (.same rfl (.same rfl (.same rfl (.same rfl (.same rfl (.same rfl (.same rfl (.same rfl (.same rfl (.same rfl (.same rfl (.same rfl (.same rfl (.same rfl .nil))))))))))))))))))))))))) (Fb rf))
  refine bp.cut (γ:=Subtype vX) 3 (Array.mk (true :: false :: false :: true :: true :: true :: false :: [])) (fun pU=> [(0,I.of (J)),(1,I.of (aj)),(2,I.eq (.pointer (some ⟨aR,0,none⟩))),(3,I.eq (.pointer (some ⟨a0,0,none⟩))),(4,I.eq (.pointer (some ⟨bF,0,none⟩))),(5,I.eq (.pointer (some ⟨cA,0,none⟩))),(6,I.of (ak.2.2)),(7,I.cG [I.of (ak.1),I.of (ak.2.1),I.of (ak.2.2)]),(8,I.of (J)),(9,I.eq (.pointer (some ⟨a0,0 + 0,none⟩))),(10,I.of (aj.bH)),(11,I.cG [I.of (ak.1),I.of (ak.2.1),I.of (ak.2.2)]),(12,I.of (ak.1)),(13,I.of (ak.2.1)),(14,I.of (ak.2.2)),(15,I.eq (.pointer (some ⟨aR,0 + 2,none⟩))),(16,I.of (J.fE)),(17,I.of (ak.1)),(18,I.of (bg)),(19,I.of (bg.isNone)),(20,I.eq (.pointer (some ⟨aR,0 + 2,none⟩))),(23,I.eq (.pointer (some ⟨aR,0 + 1,none⟩))),(24,I.of (J.ey)),(25,I.of (pU.1.1))]) (fun pU=>(⟨some cA,.var (ak.2.1:al)⟩ :: ⟨some bF,.var (ak.1:Vector al 4)⟩ :: ⟨some a0,.var (aj:aJ)⟩ :: ⟨some aR,.var (J:dY)⟩ :: a3 pU.1.2)) (fun pU=> ?_) (fun yB=> ?_)
  ·refine bp.step [1,2] (by kernel_rfl) rfl ⟨⟨_,rfl,?_⟩,⟨_,rfl,?_⟩,trivial⟩
   ·refine bL 3 m1 nj ?_
    refine ai.nil ?_
    exact ab.any rfl (bp.le (.same rfl (.same rfl (.same rfl (.same rfl (.same rfl (.same rfl (.same rfl (.same rfl (.same rfl (.same rfl (.same rfl (.same rfl (.same rfl (.same rfl (.same rfl (.same rfl (.same rfl (.same rfl (.same rfl (.same rfl (.same rfl (.same rfl (.same rfl (.same rfl (.same rfl .nil))))))))))))))))))))))))) (K8 pU))
   ·refine cm 1 hJ ?_
    refine ai.nil ?_
    exact ab.any rfl (bp.le (.same rfl (.same rfl (.same rfl (.same rfl (.same rfl (.same rfl (.same rfl (.same rfl (.same rfl (.same rfl (.same rfl (.same rfl (.same rfl (.same rfl (.same rfl (.same rfl (.same rfl (.same rfl (.same rfl (.same rfl (.same rfl (.same rfl (.same rfl (.same rfl (.same rfl .nil))))))))))))))))))))))))) (Fb pU))
  refine bp.cut (γ:=Unit) 3 (Array.mk (true :: false :: true :: true :: true :: false :: false :: [])) (fun ya=> [(0,I.of (J)),(1,I.of (aj)),(2,I.eq (.pointer (some ⟨aR,0,none⟩))),(3,I.eq (.pointer (some ⟨a0,0,none⟩))),(4,I.eq (.pointer (some ⟨bF,0,none⟩))),(5,I.eq (.pointer (some ⟨cA,0,none⟩))),(6,I.of (ak.2.2)),(7,I.cG [I.of (ak.1),I.of (ak.2.1),I.of (ak.2.2)]),(8,I.of (J)),(9,I.eq (.pointer (some ⟨a0,0 + 0,none⟩))),(10,I.of (aj.bH)),(11,I.cG [I.of (ak.1),I.of (ak.2.1),I.of (ak.2.2)]),(12,I.of (ak.1)),(13,I.of (ak.2.1)),(14,I.of (ak.2.2)),(15,I.eq (.pointer (some ⟨aR,0 + 2,none⟩))),(16,I.of (J.fE)),(17,I.of (ak.1)),(18,I.of (bg)),(19,I.of (bg.isNone)),(20,I.eq (.pointer (some ⟨aR,0 + 2,none⟩))),(22,I.of (ak.1)),(23,I.eq (.pointer (some ⟨aR,0 + 1,none⟩))),(24,I.of (J.ey))]) (fun ya=>(⟨some cA,.var (ak.2.1:al)⟩ :: ⟨some bF,.var (ak.1:Vector al 4)⟩ :: ⟨some a0,.var (aj:aJ)⟩ :: ⟨some aR,.var (J:dY)⟩ :: a3 hp)) (fun ya=> ?_) (fun vw=> ?_)
  ·refine bp.step [1,5] (by kernel_rfl) rfl ⟨⟨_,rfl,?_⟩,⟨_,rfl,?_⟩,trivial⟩
   ·refine bL 3 m1 nj ?_
    refine ai.nil ?_
    exact ab.any rfl (bp.le (.same rfl (.same rfl (.same rfl (.same rfl (.same rfl (.same rfl (.same rfl (.same rfl (.same rfl (.same rfl (.same rfl (.same rfl (.same rfl (.same rfl (.same rfl (.same rfl (.same rfl (.same rfl (.same rfl (.same rfl (.same rfl (.same rfl (.same rfl (.same rfl (.same rfl .nil))))))))))))))))))))))))) (Fc ()))
   ·refine ai.kj 4 0 rfl vz (uR vH) rfl rfl ⟨ad rfl,trivial⟩ rfl fun⟨⟨bc,nq⟩,_⟩=> ?_
    refine ai.en (L2:=(⟨some cA,.var (ak.2.1:al)⟩ :: ⟨some bF,.var (ak.1:Vector al 4)⟩ :: ⟨some a0,.var (aj:aJ)⟩ :: ⟨some aR,.var (J:dY)⟩ :: a3 bc.2)) rfl ?_
    refine ai.nil ?_
    exact ab.any rfl (bp.le (.same rfl (.same rfl (.same rfl (.same rfl (.same rfl (.same rfl (.same rfl (.same rfl (.same rfl (.same rfl (.same rfl (.same rfl (.same rfl (.same rfl (.same rfl (.same rfl (.same rfl (.same rfl (.same rfl (.same rfl (.same rfl (.same rfl (.same rfl (.same rfl (.same rfl .nil))))))))))))))))))))))))) (Fb ⟨bc,nq⟩))
  refine bp.cut (γ:=Unit) 3 (Array.mk (true :: true :: false :: true :: true :: false :: false :: [])) (fun yb=> [(0,I.of (J)),(1,I.of (aj)),(2,I.eq (.pointer (some ⟨aR,0,none⟩))),(3,I.eq (.pointer (some ⟨a0,0,none⟩))),(4,I.eq (.pointer (some ⟨bF,0,none⟩))),(5,I.eq (.pointer (some ⟨cA,0,none⟩))),(6,I.of (ak.2.2)),(7,I.cG [I.of (ak.1),I.of (ak.2.1),I.of (ak.2.2)]),(8,I.of (J)),(9,I.eq (.pointer (some ⟨a0,0 + 0,none⟩))),(10,I.of (aj.bH)),(11,I.cG [I.of (ak.1),I.of (ak.2.1),I.of (ak.2.2)]),(12,I.of (ak.1)),(13,I.of (ak.2.1)),(14,I.of (ak.2.2)),(15,I.eq (.pointer (some ⟨aR,0 + 2,none⟩))),(16,I.of (J.fE)),(17,I.of (ak.1)),(18,I.of (bg)),(19,I.of (bg.isNone)),(20,I.eq (.pointer (some ⟨aR,0 + 2,none⟩))),(21,I.of (J.fE)),(23,I.eq (.pointer (some ⟨aR,0 + 1,none⟩))),(24,I.of (J.ey))]) (fun yb=>(⟨some cA,.var (ak.2.1:al)⟩ :: ⟨some bF,.var (ak.1:Vector al 4)⟩ :: ⟨some a0,.var (aj:aJ)⟩ :: ⟨some aR,.var (J:dY)⟩ :: a3 hp)) (fun yb=> ?_) (fun vx=> ?_)
  ·refine bp.step [2,5] (by kernel_rfl) rfl ⟨⟨_,rfl,?_⟩,⟨_,rfl,?_⟩,trivial⟩
   ·refine cm 1 hJ ?_
    refine ai.nil ?_
    exact ab.any rfl (bp.le (.same rfl (.same rfl (.same rfl (.same rfl (.same rfl (.same rfl (.same rfl (.same rfl (.same rfl (.same rfl (.same rfl (.same rfl (.same rfl (.same rfl (.same rfl (.same rfl (.same rfl (.same rfl (.same rfl (.same rfl (.same rfl (.same rfl (.same rfl (.same rfl (.same rfl .nil))))))))))))))))))))))))) (Fc ()))
   ·refine ai.kj 4 0 rfl vz (uR vH) rfl rfl ⟨ad rfl,trivial⟩ rfl fun⟨⟨bc,nq⟩,_⟩=> ?_
    refine ai.en (L2:=(⟨some cA,.var (ak.2.1:al)⟩ :: ⟨some bF,.var (ak.1:Vector al 4)⟩ :: ⟨some a0,.var (aj:aJ)⟩ :: ⟨some aR,.var (J:dY)⟩ :: a3 bc.2)) rfl ?_
    refine ai.nil ?_
    exact ab.any rfl (bp.le (.same rfl (.same rfl (.same rfl (.same rfl (.same rfl (.same rfl (.same rfl (.same rfl (.same rfl (.same rfl (.same rfl (.same rfl (.same rfl (.same rfl (.same rfl (.same rfl (.same rfl (.same rfl (.same rfl (.same rfl (.same rfl (.same rfl (.same rfl (.same rfl (.same rfl .nil))))))))))))))))))))))))) (K8 ⟨bc,nq⟩))
  refine bp.cut (γ:=Unit) 3 (Array.mk (true :: true :: true :: true :: false :: false :: false :: [])) (fun yc=> [(0,I.of (J)),(1,I.of (aj)),(2,I.eq (.pointer (some ⟨aR,0,none⟩))),(3,I.eq (.pointer (some ⟨a0,0,none⟩))),(4,I.eq (.pointer (some ⟨bF,0,none⟩))),(5,I.eq (.pointer (some ⟨cA,0,none⟩))),(6,I.of (ak.2.2)),(7,I.cG [I.of (ak.1),I.of (ak.2.1),I.of (ak.2.2)]),(8,I.of (J)),(9,I.eq (.pointer (some ⟨a0,0 + 0,none⟩))),(10,I.of (aj.bH)),(11,I.cG [I.of (ak.1),I.of (ak.2.1),I.of (ak.2.2)]),(12,I.of (ak.1)),(13,I.of (ak.2.1)),(14,I.of (ak.2.2)),(15,I.eq (.pointer (some ⟨aR,0 + 2,none⟩))),(16,I.of (J.fE)),(17,I.of (ak.1)),(18,I.of (bg)),(19,I.of (bg.isNone)),(20,I.eq (.pointer (some ⟨aR,0 + 2,none⟩))),(21,I.of (J.fE)),(22,I.of (ak.1)),(23,I.eq (.pointer (some ⟨aR,0 + 1,none⟩)))]) (fun yc=>(⟨some cA,.var (ak.2.1:al)⟩ :: ⟨some bF,.var (ak.1:Vector al 4)⟩ :: ⟨some a0,.var (aj:aJ)⟩ :: ⟨some aR,.var (J:dY)⟩ :: a3 hp)) (fun yc=> ?_) (fun yC=> ?_)
  ·refine bp.step [4] (by kernel_rfl) rfl ⟨⟨_,rfl,?_⟩,trivial⟩
   ·refine bL 3 qO bo ?_
    refine ai.nil ?_
    exact ab.any rfl (bp.le (.same rfl (.same rfl (.same rfl (.same rfl (.same rfl (.same rfl (.same rfl (.same rfl (.same rfl (.same rfl (.same rfl (.same rfl (.same rfl (.same rfl (.same rfl (.same rfl (.same rfl (.same rfl (.same rfl (.same rfl (.same rfl (.same rfl (.same rfl (.same rfl (.same rfl .nil))))))))))))))))))))))))) (Fc ()))
  refine bp.cut (γ:=Subtype vX) 4 (Array.mk (false :: false :: false :: true :: true :: true :: false :: [])) (fun pV=> [(0,I.of (J)),(1,I.of (aj)),(2,I.eq (.pointer (some ⟨aR,0,none⟩))),(3,I.eq (.pointer (some ⟨a0,0,none⟩))),(4,I.eq (.pointer (some ⟨bF,0,none⟩))),(5,I.eq (.pointer (some ⟨cA,0,none⟩))),(6,I.of (ak.2.2)),(7,I.cG [I.of (ak.1),I.of (ak.2.1),I.of (ak.2.2)]),(8,I.of (J)),(9,I.eq (.pointer (some ⟨a0,0 + 0,none⟩))),(10,I.of (aj.bH)),(11,I.cG [I.of (ak.1),I.of (ak.2.1),I.of (ak.2.2)]),(12,I.of (ak.1)),(13,I.of (ak.2.1)),(14,I.of (ak.2.2)),(15,I.eq (.pointer (some ⟨aR,0 + 2,none⟩))),(16,I.of (J.fE)),(17,I.of (ak.1)),(18,I.of (bg)),(19,I.of (bg.isNone)),(23,I.eq (.pointer (some ⟨aR,0 + 1,none⟩))),(24,I.of (J.ey)),(25,I.of (pV.1.1))]) (fun pV=>(⟨some cA,.var (ak.2.1:al)⟩ :: ⟨some bF,.var (ak.1:Vector al 4)⟩ :: ⟨some a0,.var (aj:aJ)⟩ :: ⟨some aR,.var (J:dY)⟩ :: a3 pV.1.2)) (fun pV=> ?_) (fun BP=> ?_)
  ·refine bp.step [0,2] (by kernel_rfl) rfl ⟨⟨_,rfl,?_⟩,⟨_,rfl,?_⟩,trivial⟩
   ·refine aT (aQ nB) ?_
    refine ai.nil ?_
    exact ab.any rfl (bp.le (.same rfl (.same rfl (.same rfl (.same rfl (.same rfl (.same rfl (.same rfl (.same rfl (.same rfl (.same rfl (.same rfl (.same rfl (.same rfl (.same rfl (.same rfl (.same rfl (.same rfl (.same rfl (.same rfl (.same rfl (.same rfl (.same rfl (.same rfl (.same rfl .nil)))))))))))))))))))))))) (yB pV))
   ·refine cm 1 hJ ?_
    refine ai.nil ?_
    exact ab.any rfl (bp.le (.same rfl (.same rfl (.same rfl (.same rfl (.same rfl (.same rfl (.same rfl (.same rfl (.same rfl (.same rfl (.same rfl (.same rfl (.same rfl (.same rfl (.same rfl (.same rfl (.same rfl (.same rfl (.same rfl (.same rfl (.same rfl (.same rfl (.same rfl (.same rfl .nil)))))))))))))))))))))))) (vv pV))
  refine bp.cut (γ:=Unit) 4 (Array.mk (false :: false :: true :: true :: true :: false :: false :: [])) (fun yd=> [(0,I.of (J)),(1,I.of (aj)),(2,I.eq (.pointer (some ⟨aR,0,none⟩))),(3,I.eq (.pointer (some ⟨a0,0,none⟩))),(4,I.eq (.pointer (some ⟨bF,0,none⟩))),(5,I.eq (.pointer (some ⟨cA,0,none⟩))),(6,I.of (ak.2.2)),(7,I.cG [I.of (ak.1),I.of (ak.2.1),I.of (ak.2.2)]),(8,I.of (J)),(9,I.eq (.pointer (some ⟨a0,0 + 0,none⟩))),(10,I.of (aj.bH)),(11,I.cG [I.of (ak.1),I.of (ak.2.1),I.of (ak.2.2)]),(12,I.of (ak.1)),(13,I.of (ak.2.1)),(14,I.of (ak.2.2)),(15,I.eq (.pointer (some ⟨aR,0 + 2,none⟩))),(16,I.of (J.fE)),(17,I.of (ak.1)),(18,I.of (bg)),(19,I.of (bg.isNone)),(22,I.of (ak.1)),(23,I.eq (.pointer (some ⟨aR,0 + 1,none⟩))),(24,I.of (J.ey))]) (fun yd=>(⟨some cA,.var (ak.2.1:al)⟩ :: ⟨some bF,.var (ak.1:Vector al 4)⟩ :: ⟨some a0,.var (aj:aJ)⟩ :: ⟨some aR,.var (J:dY)⟩ :: a3 hp)) (fun yd=> ?_) (fun yD=> ?_)
  ·refine bp.step [0,5] (by kernel_rfl) rfl ⟨⟨_,rfl,?_⟩,⟨_,rfl,?_⟩,trivial⟩
   ·refine aT (aQ nB) ?_
    refine ai.nil ?_
    exact ab.any rfl (bp.le (.same rfl (.same rfl (.same rfl (.same rfl (.same rfl (.same rfl (.same rfl (.same rfl (.same rfl (.same rfl (.same rfl (.same rfl (.same rfl (.same rfl (.same rfl (.same rfl (.same rfl (.same rfl (.same rfl (.same rfl (.same rfl (.same rfl (.same rfl (.same rfl .nil)))))))))))))))))))))))) (vw ()))
   ·refine ai.kj 4 0 rfl vz (uR vH) rfl rfl ⟨ad rfl,trivial⟩ rfl fun⟨⟨bc,nq⟩,_⟩=> ?_
    refine ai.en (L2:=(⟨some cA,.var (ak.2.1:al)⟩ :: ⟨some bF,.var (ak.1:Vector al 4)⟩ :: ⟨some a0,.var (aj:aJ)⟩ :: ⟨some aR,.var (J:dY)⟩ :: a3 bc.2)) rfl ?_
    refine ai.nil ?_
    exact ab.any rfl (bp.le (.same rfl (.same rfl (.same rfl (.same rfl (.same rfl (.same rfl (.same rfl (.same rfl (.same rfl (.same rfl (.same rfl (.same rfl (.same rfl (.same rfl (.same rfl (.same rfl (.same rfl (.same rfl (.same rfl (.same rfl (.same rfl (.same rfl (.same rfl (.same rfl .nil)))))))))))))))))))))))) (vv ⟨bc,nq⟩))
  refine bp.cut (γ:=Unit) 4 (Array.mk (true :: false :: false :: true :: true :: false :: false :: [])) (fun ye=> [(0,I.of (J)),(1,I.of (aj)),(2,I.eq (.pointer (some ⟨aR,0,none⟩))),(3,I.eq (.pointer (some ⟨a0,0,none⟩))),(4,I.eq (.pointer (some ⟨bF,0,none⟩))),(5,I.eq (.pointer (some ⟨cA,0,none⟩))),(6,I.of (ak.2.2)),(7,I.cG [I.of (ak.1),I.of (ak.2.1),I.of (ak.2.2)]),(8,I.of (J)),(9,I.eq (.pointer (some ⟨a0,0 + 0,none⟩))),(10,I.of (aj.bH)),(11,I.cG [I.of (ak.1),I.of (ak.2.1),I.of (ak.2.2)]),(12,I.of (ak.1)),(13,I.of (ak.2.1)),(14,I.of (ak.2.2)),(15,I.eq (.pointer (some ⟨aR,0 + 2,none⟩))),(16,I.of (J.fE)),(17,I.of (ak.1)),(18,I.of (bg)),(19,I.of (bg.isNone)),(20,I.eq (.pointer (some ⟨aR,0 + 2,none⟩))),(23,I.eq (.pointer (some ⟨aR,0 + 1,none⟩))),(24,I.of (J.ey))]) (fun ye=>(⟨some cA,.var (ak.2.1:al)⟩ :: ⟨some bF,.var (ak.1:Vector al 4)⟩ :: ⟨some a0,.var (aj:aJ)⟩ :: ⟨some aR,.var (J:dY)⟩ :: a3 hp)) (fun ye=> ?_) (fun vy=> ?_)
  ·refine bp.step [1,2,5] (by kernel_rfl) rfl ⟨⟨_,rfl,?_⟩,⟨_,rfl,?_⟩,⟨_,rfl,?_⟩,trivial⟩
   ·refine bL 3 m1 nj ?_
    refine ai.nil ?_
    exact ab.any rfl (bp.le (.same rfl (.same rfl (.same rfl (.same rfl (.same rfl (.same rfl (.same rfl (.same rfl (.same rfl (.same rfl (.same rfl (.same rfl (.same rfl (.same rfl (.same rfl (.same rfl (.same rfl (.same rfl (.same rfl (.same rfl (.same rfl (.same rfl (.same rfl (.same rfl .nil)))))))))))))))))))))))) (vx ()))
   ·refine cm 1 hJ ?_
    refine ai.nil ?_
    exact ab.any rfl (bp.le (.same rfl (.same rfl (.same rfl (.same rfl (.same rfl (.same rfl (.same rfl (.same rfl (.same rfl (.same rfl (.same rfl (.same rfl (.same rfl (.same rfl (.same rfl (.same rfl (.same rfl (.same rfl (.same rfl (.same rfl (.same rfl (.same rfl (.same rfl (.same rfl .nil)))))))))))))))))))))))) (vw ()))
   ·refine ai.kj 4 0 rfl vz (uR vH) rfl rfl ⟨ad rfl,trivial⟩ rfl fun⟨⟨bc,nq⟩,_⟩=> ?_
    refine ai.en (L2:=(⟨some cA,.var (ak.2.1:al)⟩ :: ⟨some bF,.var (ak.1:Vector al 4)⟩ :: ⟨some a0,.var (aj:aJ)⟩ :: ⟨some aR,.var (J:dY)⟩ :: a3 bc.2)) rfl ?_
    refine ai.nil ?_
    exact ab.any rfl (bp.le (.same rfl (.same rfl (.same rfl (.same rfl (.same rfl (.same rfl (.same rfl (.same rfl (.same rfl (.same rfl (.same rfl (.same rfl (.same rfl (.same rfl (.same rfl (.same rfl (.same rfl (.same rfl (.same rfl (.same rfl (.same rfl (.same rfl (.same rfl (.same rfl .nil)))))))))))))))))))))))) (yB ⟨bc,nq⟩))
  refine bp.cut (γ:=Unit) 4 (Array.mk (true :: false :: true :: true :: false :: false :: false :: [])) (fun yf=> [(0,I.of (J)),(1,I.of (aj)),(2,I.eq (.pointer (some ⟨aR,0,none⟩))),(3,I.eq (.pointer (some ⟨a0,0,none⟩))),(4,I.eq (.pointer (some ⟨bF,0,none⟩))),(5,I.eq (.pointer (some ⟨cA,0,none⟩))),(6,I.of (ak.2.2)),(7,I.cG [I.of (ak.1),I.of (ak.2.1),I.of (ak.2.2)]),(8,I.of (J)),(9,I.eq (.pointer (some ⟨a0,0 + 0,none⟩))),(10,I.of (aj.bH)),(11,I.cG [I.of (ak.1),I.of (ak.2.1),I.of (ak.2.2)]),(12,I.of (ak.1)),(13,I.of (ak.2.1)),(14,I.of (ak.2.2)),(15,I.eq (.pointer (some ⟨aR,0 + 2,none⟩))),(16,I.of (J.fE)),(17,I.of (ak.1)),(18,I.of (bg)),(19,I.of (bg.isNone)),(20,I.eq (.pointer (some ⟨aR,0 + 2,none⟩))),(22,I.of (ak.1)),(23,I.eq (.pointer (some ⟨aR,0 + 1,none⟩)))]) (fun yf=>(⟨some cA,.var (ak.2.1:al)⟩ :: ⟨some bF,.var (ak.1:Vector al 4)⟩ :: ⟨some a0,.var (aj:aJ)⟩ :: ⟨some aR,.var (J:dY)⟩ :: a3 hp)) (fun yf=> ?_) (fun yE=> ?_)
  ·refine bp.step [1,4] (by kernel_rfl) rfl ⟨⟨_,rfl,?_⟩,⟨_,rfl,?_⟩,trivial⟩
   ·refine bL 3 m1 nj ?_
    refine ai.nil ?_
    exact ab.any rfl (bp.le (.same rfl (.same rfl (.same rfl (.same rfl (.same rfl (.same rfl (.same rfl (.same rfl (.same rfl (.same rfl (.same rfl (.same rfl (.same rfl (.same rfl (.same rfl (.same rfl (.same rfl (.same rfl (.same rfl (.same rfl (.same rfl (.same rfl (.same rfl (.same rfl .nil)))))))))))))))))))))))) (yC ()))
   ·refine bL 3 qO bo ?_
    refine ai.nil ?_
    exact ab.any rfl (bp.le (.same rfl (.same rfl (.same rfl (.same rfl (.same rfl (.same rfl (.same rfl (.same rfl (.same rfl (.same rfl (.same rfl (.same rfl (.same rfl (.same rfl (.same rfl (.same rfl (.same rfl (.same rfl (.same rfl (.same rfl (.same rfl (.same rfl (.same rfl (.same rfl .nil)))))))))))))))))))))))) (vw ()))
  refine bp.cut (γ:=Unit) 4 (Array.mk (true :: true :: false :: true :: false :: false :: false :: [])) (fun yg=> [(0,I.of (J)),(1,I.of (aj)),(2,I.eq (.pointer (some ⟨aR,0,none⟩))),(3,I.eq (.pointer (some ⟨a0,0,none⟩))),(4,I.eq (.pointer (some ⟨bF,0,none⟩))),(5,I.eq (.pointer (some ⟨cA,0,none⟩))),(6,I.of (ak.2.2)),(7,I.cG [I.of (ak.1),I.of (ak.2.1),I.of (ak.2.2)]),(8,I.of (J)),(9,I.eq (.pointer (some ⟨a0,0 + 0,none⟩))),(10,I.of (aj.bH)),(11,I.cG [I.of (ak.1),I.of (ak.2.1),I.of (ak.2.2)]),(12,I.of (ak.1)),(13,I.of (ak.2.1)),(14,I.of (ak.2.2)),(15,I.eq (.pointer (some ⟨aR,0 + 2,none⟩))),(16,I.of (J.fE)),(17,I.of (ak.1)),(18,I.of (bg)),(19,I.of (bg.isNone)),(20,I.eq (.pointer (some ⟨aR,0 + 2,none⟩))),(21,I.of (J.fE)),(23,I.eq (.pointer (some ⟨aR,0 + 1,none⟩)))]) (fun yg=>(⟨some cA,.var (ak.2.1:al)⟩ :: ⟨some bF,.var (ak.1:Vector al 4)⟩ :: ⟨some a0,.var (aj:aJ)⟩ :: ⟨some aR,.var (J:dY)⟩ :: a3 hp)) (fun yg=> ?_) (fun yF=> ?_)
  ·refine bp.step [2,4] (by kernel_rfl) rfl ⟨⟨_,rfl,?_⟩,⟨_,rfl,?_⟩,trivial⟩
   ·refine cm 1 hJ ?_
    refine ai.nil ?_
    exact ab.any rfl (bp.le (.same rfl (.same rfl (.same rfl (.same rfl (.same rfl (.same rfl (.same rfl (.same rfl (.same rfl (.same rfl (.same rfl (.same rfl (.same rfl (.same rfl (.same rfl (.same rfl (.same rfl (.same rfl (.same rfl (.same rfl (.same rfl (.same rfl (.same rfl (.same rfl .nil)))))))))))))))))))))))) (yC ()))
   ·refine bL 3 qO bo ?_
    refine ai.nil ?_
    exact ab.any rfl (bp.le (.same rfl (.same rfl (.same rfl (.same rfl (.same rfl (.same rfl (.same rfl (.same rfl (.same rfl (.same rfl (.same rfl (.same rfl (.same rfl (.same rfl (.same rfl (.same rfl (.same rfl (.same rfl (.same rfl (.same rfl (.same rfl (.same rfl (.same rfl (.same rfl .nil)))))))))))))))))))))))) (vx ()))
  refine bp.cut (γ:=Unit) 4 (Array.mk (true :: true :: true :: false :: false :: false :: false :: [])) (fun yG=> [(0,I.of (J)),(1,I.of (aj)),(2,I.eq (.pointer (some ⟨aR,0,none⟩))),(3,I.eq (.pointer (some ⟨a0,0,none⟩))),(4,I.eq (.pointer (some ⟨bF,0,none⟩))),(5,I.eq (.pointer (some ⟨cA,0,none⟩))),(6,I.of (ak.2.2)),(7,I.cG [I.of (ak.1),I.of (ak.2.1),I.of (ak.2.2)]),(8,I.of (J)),(9,I.eq (.pointer (some ⟨a0,0 + 0,none⟩))),(10,I.of (aj.bH)),(11,I.cG [I.of (ak.1),I.of (ak.2.1),I.of (ak.2.2)]),(12,I.of (ak.1)),(13,I.of (ak.2.1)),(14,I.of (ak.2.2)),(15,I.eq (.pointer (some ⟨aR,0 + 2,none⟩))),(16,I.of (J.fE)),(17,I.of (ak.1)),(18,I.of (bg)),(19,I.of (bg.isNone)),(20,I.eq (.pointer (some ⟨aR,0 + 2,none⟩))),(21,I.of (J.fE)),(22,I.of (ak.1))]) (fun yG=>(⟨some cA,.var (ak.2.1:al)⟩ :: ⟨some bF,.var (ak.1:Vector al 4)⟩ :: ⟨some a0,.var (aj:aJ)⟩ :: ⟨some aR,.var (J:dY)⟩ :: a3 hp)) (fun yG=> ?_) (fun zb=> ?_)
  ·refine bp.step [3] (by kernel_rfl) rfl ⟨⟨_,rfl,?_⟩,trivial⟩
   ·refine aT (aQ sy) ?_
    refine ai.nil ?_
    exact ab.any rfl (bp.le (.same rfl (.same rfl (.same rfl (.same rfl (.same rfl (.same rfl (.same rfl (.same rfl (.same rfl (.same rfl (.same rfl (.same rfl (.same rfl (.same rfl (.same rfl (.same rfl (.same rfl (.same rfl (.same rfl (.same rfl (.same rfl (.same rfl (.same rfl (.same rfl .nil)))))))))))))))))))))))) (yC ()))
  refine bp.cut (γ:=Unit) 5 (Array.mk (false :: false :: false :: true :: true :: false :: false :: [])) (fun yH=> [(0,I.of (J)),(1,I.of (aj)),(2,I.eq (.pointer (some ⟨aR,0,none⟩))),(3,I.eq (.pointer (some ⟨a0,0,none⟩))),(4,I.eq (.pointer (some ⟨bF,0,none⟩))),(5,I.eq (.pointer (some ⟨cA,0,none⟩))),(6,I.of (ak.2.2)),(7,I.cG [I.of (ak.1),I.of (ak.2.1),I.of (ak.2.2)]),(8,I.of (J)),(9,I.eq (.pointer (some ⟨a0,0 + 0,none⟩))),(10,I.of (aj.bH)),(11,I.cG [I.of (ak.1),I.of (ak.2.1),I.of (ak.2.2)]),(12,I.of (ak.1)),(13,I.of (ak.2.1)),(14,I.of (ak.2.2)),(15,I.eq (.pointer (some ⟨aR,0 + 2,none⟩))),(16,I.of (J.fE)),(17,I.of (ak.1)),(18,I.of (bg)),(19,I.of (bg.isNone)),(23,I.eq (.pointer (some ⟨aR,0 + 1,none⟩))),(24,I.of (J.ey))]) (fun yH=>(⟨some cA,.var (ak.2.1:al)⟩ :: ⟨some bF,.var (ak.1:Vector al 4)⟩ :: ⟨some a0,.var (aj:aJ)⟩ :: ⟨some aR,.var (J:dY)⟩ :: a3 hp)) (fun yH=> ?_) (fun zc=> ?_)
  ·refine bp.step [0,2,5] (by kernel_rfl) rfl ⟨⟨_,rfl,?_⟩,⟨_,rfl,?_⟩,⟨_,rfl,?_⟩,trivial⟩
   ·refine aT (aQ nB) ?_
    refine ai.nil ?_
    exact ab.any rfl (bp.le (.same rfl (.same rfl (.same rfl (.same rfl (.same rfl (.same rfl (.same rfl (.same rfl (.same rfl (.same rfl (.same rfl (.same rfl (.same rfl (.same rfl (.same rfl (.same rfl (.same rfl (.same rfl (.same rfl (.same rfl (.same rfl (.same rfl (.same rfl .nil))))))))))))))))))))))) (vy ()))
   ·refine cm 1 hJ ?_
    refine ai.nil ?_
    exact ab.any rfl (bp.le (.same rfl (.same rfl (.same rfl (.same rfl (.same rfl (.same rfl (.same rfl (.same rfl (.same rfl (.same rfl (.same rfl (.same rfl (.same rfl (.same rfl (.same rfl (.same rfl (.same rfl (.same rfl (.same rfl (.same rfl (.same rfl (.same rfl (.same rfl .nil))))))))))))))))))))))) (yD ()))
   ·refine ai.kj 4 0 rfl vz (uR vH) rfl rfl ⟨ad rfl,trivial⟩ rfl fun⟨⟨bc,nq⟩,_⟩=> ?_
    refine ai.en (L2:=(⟨some cA,.var (ak.2.1:al)⟩ :: ⟨some bF,.var (ak.1:Vector al 4)⟩ :: ⟨some a0,.var (aj:aJ)⟩ :: ⟨some aR,.var (J:dY)⟩ :: a3 bc.2)) rfl ?_
    refine ai.nil ?_
    exact ab.any rfl (bp.le (.same rfl (.same rfl (.same rfl (.same rfl (.same rfl (.same rfl (.same rfl (.same rfl (.same rfl (.same rfl (.same rfl (.same rfl (.same rfl (.same rfl (.same rfl (.same rfl (.same rfl (.same rfl (.same rfl (.same rfl (.same rfl (.same rfl (.same rfl .nil))))))))))))))))))))))) (BP ⟨bc,nq⟩))
  refine bp.cut (γ:=Unit) 5 (Array.mk (false :: false :: true :: true :: false :: false :: false :: [])) (fun yI=> [(0,I.of (J)),(1,I.of (aj)),(2,I.eq (.pointer (some ⟨aR,0,none⟩))),(3,I.eq (.pointer (some ⟨a0,0,none⟩))),(4,I.eq (.pointer (some ⟨bF,0,none⟩))),(5,I.eq (.pointer (some ⟨cA,0,none⟩))),(6,I.of (ak.2.2)),(7,I.cG [I.of (ak.1),I.of (ak.2.1),I.of (ak.2.2)]),(8,I.of (J)),(9,I.eq (.pointer (some ⟨a0,0 + 0,none⟩))),(10,I.of (aj.bH)),(11,I.cG [I.of (ak.1),I.of (ak.2.1),I.of (ak.2.2)]),(12,I.of (ak.1)),(13,I.of (ak.2.1)),(14,I.of (ak.2.2)),(15,I.eq (.pointer (some ⟨aR,0 + 2,none⟩))),(16,I.of (J.fE)),(17,I.of (ak.1)),(18,I.of (bg)),(19,I.of (bg.isNone)),(22,I.of (ak.1)),(23,I.eq (.pointer (some ⟨aR,0 + 1,none⟩)))]) (fun yI=>(⟨some cA,.var (ak.2.1:al)⟩ :: ⟨some bF,.var (ak.1:Vector al 4)⟩ :: ⟨some a0,.var (aj:aJ)⟩ :: ⟨some aR,.var (J:dY)⟩ :: a3 hp)) (fun yI=> ?_) (fun zd=> ?_)
  ·refine bp.step [0,4] (by kernel_rfl) rfl ⟨⟨_,rfl,?_⟩,⟨_,rfl,?_⟩,trivial⟩
   ·refine aT (aQ nB) ?_
    refine ai.nil ?_
    exact ab.any rfl (bp.le (.same rfl (.same rfl (.same rfl (.same rfl (.same rfl (.same rfl (.same rfl (.same rfl (.same rfl (.same rfl (.same rfl (.same rfl (.same rfl (.same rfl (.same rfl (.same rfl (.same rfl (.same rfl (.same rfl (.same rfl (.same rfl (.same rfl (.same rfl .nil))))))))))))))))))))))) (yE ()))
   ·refine bL 3 qO bo ?_
    refine ai.nil ?_
    exact ab.any rfl (bp.le (.same rfl (.same rfl (.same rfl (.same rfl (.same rfl (.same rfl (.same rfl (.same rfl (.same rfl (.same rfl (.same rfl (.same rfl (.same rfl (.same rfl (.same rfl (.same rfl (.same rfl (.same rfl (.same rfl (.same rfl (.same rfl (.same rfl (.same rfl .nil))))))))))))))))))))))) (yD ()))
  refine bp.cut (γ:=Unit) 5 (Array.mk (true :: false :: false :: true :: false :: false :: false :: [])) (fun yJ=> [(0,I.of (J)),(1,I.of (aj)),(2,I.eq (.pointer (some ⟨aR,0,none⟩))),(3,I.eq (.pointer (some ⟨a0,0,none⟩))),(4,I.eq (.pointer (some ⟨bF,0,none⟩))),(5,I.eq (.pointer (some ⟨cA,0,none⟩))),(6,I.of (ak.2.2)),(7,I.cG [I.of (ak.1),I.of (ak.2.1),I.of (ak.2.2)]),(8,I.of (J)),(9,I.eq (.pointer (some ⟨a0,0 + 0,none⟩))),(10,I.of (aj.bH)),(11,I.cG [I.of (ak.1),I.of (ak.2.1),I.of (ak.2.2)]),(12,I.of (ak.1)),(13,I.of (ak.2.1)),(14,I.of (ak.2.2)),(15,I.eq (.pointer (some ⟨aR,0 + 2,none⟩))),(16,I.of (J.fE)),(17,I.of (ak.1)),(18,I.of (bg)),(19,I.of (bg.isNone)),(20,I.eq (.pointer (some ⟨aR,0 + 2,none⟩))),(23,I.eq (.pointer (some ⟨aR,0 + 1,none⟩)))]) (fun yJ=>(⟨some cA,.var (ak.2.1:al)⟩ :: ⟨some bF,.var (ak.1:Vector al 4)⟩ :: ⟨some a0,.var (aj:aJ)⟩ :: ⟨some aR,.var (J:dY)⟩ :: a3 hp)) (fun yJ=> ?_) (fun B2=> ?_)
  ·refine bp.step [1,2,4] (by kernel_rfl) rfl ⟨⟨_,rfl,?_⟩,⟨_,rfl,?_⟩,⟨_,rfl,?_⟩,trivial⟩
   ·refine bL 3 m1 nj ?_
    refine ai.nil ?_
    exact ab.any rfl (bp.le (.same rfl (.same rfl (.same rfl (.same rfl (.same rfl (.same rfl (.same rfl (.same rfl (.same rfl (.same rfl (.same rfl (.same rfl (.same rfl (.same rfl (.same rfl (.same rfl (.same rfl (.same rfl (.same rfl (.same rfl (.same rfl (.same rfl (.same rfl .nil))))))))))))))))))))))) (yF ()))
   ·refine cm 1 hJ ?_
    refine ai.nil ?_
    exact ab.any rfl (bp.le (.same rfl (.same rfl (.same rfl (.same rfl (.same rfl (.same rfl (.same rfl (.same rfl (.same rfl (.same rfl (.same rfl (.same rfl (.same rfl (.same rfl (.same rfl (.same rfl (.same rfl (.same rfl (.same rfl (.same rfl (.same rfl (.same rfl (.same rfl .nil))))))))))))))))))))))) (yE ()))
   ·refine bL 3 qO bo ?_
    refine ai.nil ?_
    exact ab.any rfl (bp.le (.same rfl (.same rfl (.same rfl (.same rfl (.same rfl (.same rfl (.same rfl (.same rfl (.same rfl (.same rfl (.same rfl (.same rfl (.same rfl (.same rfl (.same rfl (.same rfl (.same rfl (.same rfl (.same rfl (.same rfl (.same rfl (.same rfl (.same rfl .nil))))))))))))))))))))))) (vy ()))
  refine bp.cut (γ:=Unit) 5 (Array.mk (true :: false :: true :: false :: false :: false :: false :: [])) (fun yK=> [(0,I.of (J)),(1,I.of (aj)),(2,I.eq (.pointer (some ⟨aR,0,none⟩))),(3,I.eq (.pointer (some ⟨a0,0,none⟩))),(4,I.eq (.pointer (some ⟨bF,0,none⟩))),(5,I.eq (.pointer (some ⟨cA,0,none⟩))),(6,I.of (ak.2.2)),(7,I.cG [I.of (ak.1),I.of (ak.2.1),I.of (ak.2.2)]),(8,I.of (J)),(9,I.eq (.pointer (some ⟨a0,0 + 0,none⟩))),(10,I.of (aj.bH)),(11,I.cG [I.of (ak.1),I.of (ak.2.1),I.of (ak.2.2)]),(12,I.of (ak.1)),(13,I.of (ak.2.1)),(14,I.of (ak.2.2)),(15,I.eq (.pointer (some ⟨aR,0 + 2,none⟩))),(16,I.of (J.fE)),(17,I.of (ak.1)),(18,I.of (bg)),(19,I.of (bg.isNone)),(20,I.eq (.pointer (some ⟨aR,0 + 2,none⟩))),(22,I.of (ak.1))]) (fun yK=>(⟨some cA,.var (ak.2.1:al)⟩ :: ⟨some bF,.var (ak.1:Vector al 4)⟩ :: ⟨some a0,.var (aj:aJ)⟩ :: ⟨some aR,.var (J:dY)⟩ :: a3 hp)) (fun yK=> ?_) (fun ze=> ?_)
  ·refine bp.step [1,3] (by kernel_rfl) rfl ⟨⟨_,rfl,?_⟩,⟨_,rfl,?_⟩,trivial⟩
   ·refine bL 3 m1 nj ?_
    refine ai.nil ?_
    exact ab.any rfl (bp.le (.same rfl (.same rfl (.same rfl (.same rfl (.same rfl (.same rfl (.same rfl (.same rfl (.same rfl (.same rfl (.same rfl (.same rfl (.same rfl (.same rfl (.same rfl (.same rfl (.same rfl (.same rfl (.same rfl (.same rfl (.same rfl (.same rfl (.same rfl .nil))))))))))))))))))))))) (zb ()))
   ·refine aT (aQ sy) ?_
    refine ai.nil ?_
    exact ab.any rfl (bp.le (.same rfl (.same rfl (.same rfl (.same rfl (.same rfl (.same rfl (.same rfl (.same rfl (.same rfl (.same rfl (.same rfl (.same rfl (.same rfl (.same rfl (.same rfl (.same rfl (.same rfl (.same rfl (.same rfl (.same rfl (.same rfl (.same rfl (.same rfl .nil))))))))))))))))))))))) (yE ()))
  refine bp.cut (γ:=Unit) 5 (Array.mk (true :: true :: false :: false :: false :: false :: false :: [])) (fun yL=> [(0,I.of (J)),(1,I.of (aj)),(2,I.eq (.pointer (some ⟨aR,0,none⟩))),(3,I.eq (.pointer (some ⟨a0,0,none⟩))),(4,I.eq (.pointer (some ⟨bF,0,none⟩))),(5,I.eq (.pointer (some ⟨cA,0,none⟩))),(6,I.of (ak.2.2)),(7,I.cG [I.of (ak.1),I.of (ak.2.1),I.of (ak.2.2)]),(8,I.of (J)),(9,I.eq (.pointer (some ⟨a0,0 + 0,none⟩))),(10,I.of (aj.bH)),(11,I.cG [I.of (ak.1),I.of (ak.2.1),I.of (ak.2.2)]),(12,I.of (ak.1)),(13,I.of (ak.2.1)),(14,I.of (ak.2.2)),(15,I.eq (.pointer (some ⟨aR,0 + 2,none⟩))),(16,I.of (J.fE)),(17,I.of (ak.1)),(18,I.of (bg)),(19,I.of (bg.isNone)),(20,I.eq (.pointer (some ⟨aR,0 + 2,none⟩))),(21,I.of (J.fE))]) (fun yL=>(⟨some cA,.var (ak.2.1:al)⟩ :: ⟨some bF,.var (ak.1:Vector al 4)⟩ :: ⟨some a0,.var (aj:aJ)⟩ :: ⟨some aR,.var (J:dY)⟩ :: a3 hp)) (fun yL=> ?_) (fun B3=> ?_)
  ·refine bp.step [2,3] (by kernel_rfl) rfl ⟨⟨_,rfl,?_⟩,⟨_,rfl,?_⟩,trivial⟩
   ·refine cm 1 hJ ?_
    refine ai.nil ?_
    exact ab.any rfl (bp.le (.same rfl (.same rfl (.same rfl (.same rfl (.same rfl (.same rfl (.same rfl (.same rfl (.same rfl (.same rfl (.same rfl (.same rfl (.same rfl (.same rfl (.same rfl (.same rfl (.same rfl (.same rfl (.same rfl (.same rfl (.same rfl (.same rfl (.same rfl .nil))))))))))))))))))))))) (zb ()))
   ·refine aT (aQ sy) ?_
    refine ai.nil ?_
    exact ab.any rfl (bp.le (.same rfl (.same rfl (.same rfl (.same rfl (.same rfl (.same rfl (.same rfl (.same rfl (.same rfl (.same rfl (.same rfl (.same rfl (.same rfl (.same rfl (.same rfl (.same rfl (.same rfl (.same rfl (.same rfl (.same rfl (.same rfl (.same rfl (.same rfl .nil))))))))))))))))))))))) (yF ()))
  refine bp.cut (γ:=Unit) 6 (Array.mk (false :: false :: false :: true :: false :: false :: false :: [])) (fun yM=> [(0,I.of (J)),(1,I.of (aj)),(2,I.eq (.pointer (some ⟨aR,0,none⟩))),(3,I.eq (.pointer (some ⟨a0,0,none⟩))),(4,I.eq (.pointer (some ⟨bF,0,none⟩))),(5,I.eq (.pointer (some ⟨cA,0,none⟩))),(6,I.of (ak.2.2)),(7,I.cG [I.of (ak.1),I.of (ak.2.1),I.of (ak.2.2)]),(8,I.of (J)),(9,I.eq (.pointer (some ⟨a0,0 + 0,none⟩))),(10,I.of (aj.bH)),(11,I.cG [I.of (ak.1),I.of (ak.2.1),I.of (ak.2.2)]),(12,I.of (ak.1)),(13,I.of (ak.2.1)),(14,I.of (ak.2.2)),(15,I.eq (.pointer (some ⟨aR,0 + 2,none⟩))),(16,I.of (J.fE)),(17,I.of (ak.1)),(18,I.of (bg)),(19,I.of (bg.isNone)),(23,I.eq (.pointer (some ⟨aR,0 + 1,none⟩)))]) (fun yM=>(⟨some cA,.var (ak.2.1:al)⟩ :: ⟨some bF,.var (ak.1:Vector al 4)⟩ :: ⟨some a0,.var (aj:aJ)⟩ :: ⟨some aR,.var (J:dY)⟩ :: a3 hp)) (fun yM=> ?_) (fun Fx=> ?_)
  ·refine bp.step [0,2,4] (by kernel_rfl) rfl ⟨⟨_,rfl,?_⟩,⟨_,rfl,?_⟩,⟨_,rfl,?_⟩,trivial⟩
   ·refine aT (aQ nB) ?_
    refine ai.nil ?_
    exact ab.any rfl (bp.le (.same rfl (.same rfl (.same rfl (.same rfl (.same rfl (.same rfl (.same rfl (.same rfl (.same rfl (.same rfl (.same rfl (.same rfl (.same rfl (.same rfl (.same rfl (.same rfl (.same rfl (.same rfl (.same rfl (.same rfl (.same rfl (.same rfl .nil)))))))))))))))))))))) (B2 ()))
   ·refine cm 1 hJ ?_
    refine ai.nil ?_
    exact ab.any rfl (bp.le (.same rfl (.same rfl (.same rfl (.same rfl (.same rfl (.same rfl (.same rfl (.same rfl (.same rfl (.same rfl (.same rfl (.same rfl (.same rfl (.same rfl (.same rfl (.same rfl (.same rfl (.same rfl (.same rfl (.same rfl (.same rfl (.same rfl .nil)))))))))))))))))))))) (zd ()))
   ·refine bL 3 qO bo ?_
    refine ai.nil ?_
    exact ab.any rfl (bp.le (.same rfl (.same rfl (.same rfl (.same rfl (.same rfl (.same rfl (.same rfl (.same rfl (.same rfl (.same rfl (.same rfl (.same rfl (.same rfl (.same rfl (.same rfl (.same rfl (.same rfl (.same rfl (.same rfl (.same rfl (.same rfl (.same rfl .nil)))))))))))))))))))))) (zc ()))
  refine bp.cut (γ:=Unit) 6 (Array.mk (false :: false :: true :: false :: false :: false :: false :: [])) (fun yN=> [(0,I.of (J)),(1,I.of (aj)),(2,I.eq (.pointer (some ⟨aR,0,none⟩))),(3,I.eq (.pointer (some ⟨a0,0,none⟩))),(4,I.eq (.pointer (some ⟨bF,0,none⟩))),(5,I.eq (.pointer (some ⟨cA,0,none⟩))),(6,I.of (ak.2.2)),(7,I.cG [I.of (ak.1),I.of (ak.2.1),I.of (ak.2.2)]),(8,I.of (J)),(9,I.eq (.pointer (some ⟨a0,0 + 0,none⟩))),(10,I.of (aj.bH)),(11,I.cG [I.of (ak.1),I.of (ak.2.1),I.of (ak.2.2)]),(12,I.of (ak.1)),(13,I.of (ak.2.1)),(14,I.of (ak.2.2)),(15,I.eq (.pointer (some ⟨aR,0 + 2,none⟩))),(16,I.of (J.fE)),(17,I.of (ak.1)),(18,I.of (bg)),(19,I.of (bg.isNone)),(22,I.of (ak.1))]) (fun yN=>(⟨some cA,.var (ak.2.1:al)⟩ :: ⟨some bF,.var (ak.1:Vector al 4)⟩ :: ⟨some a0,.var (aj:aJ)⟩ :: ⟨some aR,.var (J:dY)⟩ :: a3 hp)) (fun yN=> ?_) (fun Fy=> ?_)
  ·refine bp.step [0,3] (by kernel_rfl) rfl ⟨⟨_,rfl,?_⟩,⟨_,rfl,?_⟩,trivial⟩
   ·refine aT (aQ nB) ?_
    refine ai.nil ?_
    exact ab.any rfl (bp.le (.same rfl (.same rfl (.same rfl (.same rfl (.same rfl (.same rfl (.same rfl (.same rfl (.same rfl (.same rfl (.same rfl (.same rfl (.same rfl (.same rfl (.same rfl (.same rfl (.same rfl (.same rfl (.same rfl (.same rfl (.same rfl (.same rfl .nil)))))))))))))))))))))) (ze ()))
   ·refine aT (aQ sy) ?_
    refine ai.nil ?_
    exact ab.any rfl (bp.le (.same rfl (.same rfl (.same rfl (.same rfl (.same rfl (.same rfl (.same rfl (.same rfl (.same rfl (.same rfl (.same rfl (.same rfl (.same rfl (.same rfl (.same rfl (.same rfl (.same rfl (.same rfl (.same rfl (.same rfl (.same rfl (.same rfl .nil)))))))))))))))))))))) (zd ()))
  refine bp.cut (γ:=Unit) 6 (Array.mk (true :: false :: false :: false :: false :: false :: false :: [])) (fun yO=> [(0,I.of (J)),(1,I.of (aj)),(2,I.eq (.pointer (some ⟨aR,0,none⟩))),(3,I.eq (.pointer (some ⟨a0,0,none⟩))),(4,I.eq (.pointer (some ⟨bF,0,none⟩))),(5,I.eq (.pointer (some ⟨cA,0,none⟩))),(6,I.of (ak.2.2)),(7,I.cG [I.of (ak.1),I.of (ak.2.1),I.of (ak.2.2)]),(8,I.of (J)),(9,I.eq (.pointer (some ⟨a0,0 + 0,none⟩))),(10,I.of (aj.bH)),(11,I.cG [I.of (ak.1),I.of (ak.2.1),I.of (ak.2.2)]),(12,I.of (ak.1)),(13,I.of (ak.2.1)),(14,I.of (ak.2.2)),(15,I.eq (.pointer (some ⟨aR,0 + 2,none⟩))),(16,I.of (J.fE)),(17,I.of (ak.1)),(18,I.of (bg)),(19,I.of (bg.isNone)),(20,I.eq (.pointer (some ⟨aR,0 + 2,none⟩)))]) (fun yO=>(⟨some cA,.var (ak.2.1:al)⟩ :: ⟨some bF,.var (ak.1:Vector al 4)⟩ :: ⟨some a0,.var (aj:aJ)⟩ :: ⟨some aR,.var (J:dY)⟩ :: a3 hp)) (fun yO=> ?_) (fun Fz=> ?_)
  ·refine bp.step [1,2,3] (by kernel_rfl) rfl ⟨⟨_,rfl,?_⟩,⟨_,rfl,?_⟩,⟨_,rfl,?_⟩,trivial⟩
   ·refine bL 3 m1 nj ?_
    refine ai.nil ?_
    exact ab.any rfl (bp.le (.same rfl (.same rfl (.same rfl (.same rfl (.same rfl (.same rfl (.same rfl (.same rfl (.same rfl (.same rfl (.same rfl (.same rfl (.same rfl (.same rfl (.same rfl (.same rfl (.same rfl (.same rfl (.same rfl (.same rfl (.same rfl (.same rfl .nil)))))))))))))))))))))) (B3 ()))
   ·refine cm 1 hJ ?_
    refine ai.nil ?_
    exact ab.any rfl (bp.le (.same rfl (.same rfl (.same rfl (.same rfl (.same rfl (.same rfl (.same rfl (.same rfl (.same rfl (.same rfl (.same rfl (.same rfl (.same rfl (.same rfl (.same rfl (.same rfl (.same rfl (.same rfl (.same rfl (.same rfl (.same rfl (.same rfl .nil)))))))))))))))))))))) (ze ()))
   ·refine aT (aQ sy) ?_
    refine ai.nil ?_
    exact ab.any rfl (bp.le (.same rfl (.same rfl (.same rfl (.same rfl (.same rfl (.same rfl (.same rfl (.same rfl (.same rfl (.same rfl (.same rfl (.same rfl (.same rfl (.same rfl (.same rfl (.same rfl (.same rfl (.same rfl (.same rfl (.same rfl (.same rfl (.same rfl .nil)))))))))))))))))))))) (B2 ()))
  refine bp.step [0,2,3] (by kernel_rfl) rfl ⟨⟨_,rfl,?_⟩,⟨_,rfl,?_⟩,⟨_,rfl,?_⟩,trivial⟩
  ·refine aT (aQ nB) ?_
   refine ai.nil ?_
   exact ab.any rfl (bp.le (.same rfl (.same rfl (.same rfl (.same rfl (.same rfl (.same rfl (.same rfl (.same rfl (.same rfl (.same rfl (.same rfl (.same rfl (.same rfl (.same rfl (.same rfl (.same rfl (.same rfl (.same rfl (.same rfl (.same rfl (.same rfl .nil))))))))))))))))))))) (Fz ()))
  ·refine cm 1 hJ ?_
   refine ai.nil ?_
   exact ab.any rfl (bp.le (.same rfl (.same rfl (.same rfl (.same rfl (.same rfl (.same rfl (.same rfl (.same rfl (.same rfl (.same rfl (.same rfl (.same rfl (.same rfl (.same rfl (.same rfl (.same rfl (.same rfl (.same rfl (.same rfl (.same rfl (.same rfl .nil))))))))))))))))))))) (Fy ()))
  ·refine aT (aQ sy) ?_
   refine ai.nil ?_
   exact ab.any rfl (bp.le (.same rfl (.same rfl (.same rfl (.same rfl (.same rfl (.same rfl (.same rfl (.same rfl (.same rfl (.same rfl (.same rfl (.same rfl (.same rfl (.same rfl (.same rfl (.same rfl (.same rfl (.same rfl (.same rfl (.same rfl (.same rfl .nil))))))))))))))))))))) (Fx ()))
 ·refine ag.skip ?_
  exact df 0 (hm hp () h)
end Go.Proofs.YtmnggbjcnoffeaaGreat
namespace Go.Proofs.YtmnggbjcnoffeaaGreat
open Go Gv
set_option linter.unusedVariables false
set_option linter.unusedSimpArgs false
set_option maxRecDepth 100000
set_option maxHeartbeats 2000000
theorem N1 {hp:a1 Cell} {J:je} {aj:bu} {r:Int × Bool} (h:w2 hp J aj=some r):cf Tryz.prog 260 [I.of (J),I.of (aj)] ([] ++ a3 hp) (δ:=Unit) (fun _=>I.cG [I.of (r.1),I.of (r.2)]) (fun _=> [] ++ a3 hp):=by
 unfold w2 at h
 refine cf.of Tryz.func260 rfl Tryz.ntmps260 rfl fun W A=> ?_
 refine aA ?_
 refine b8 fun aR=> ?_
 refine b8 fun a0=> ?_
 refine aM ?_
 refine aM ?_
 refine bK ?_
 refine aA ?_
 refine aT (aQ Ef) ?_
 refine bL 1 AO BQ ?_
 obtain⟨cW,eA,h⟩:=ay h
 obtain⟨cd,ff,h⟩:=ay h
 obtain⟨ak,bt,h⟩:=ay h
 refine ai.lf (gO.obj 2 rfl (vb ff) Tb (ND bt) rfl ⟨fv (ad rfl) eA,trivial⟩) rfl rfl rfl ?_
 refine aT (ej Tryz.underlying38) ?_
 refine aB ?_
 refine aI ?_
 refine ag.block ?_
 obtain⟨av,an,h⟩:=ay h
 refine ag.sR (σ:=Int) (ε:=(Int × Bool) ⊕ (Int × Bool × Int × Bool × Bool)) (γ:=Unit) (δ:=Unit) an (fun s1 aw=> [(0,I.of (J)),(1,I.of (aj)),(2,I.eq (.pointer (some ⟨aR,0,none⟩))),(3,I.eq (.pointer (some ⟨a0,0,none⟩))),(4,I.of (0:Int)),(5,I.of (false)),(10,I.of (ak)),(11,I.of (ak.length:Int)),(12,I.of (s1))]) (fun s1 aw=>(⟨some a0,.var (aj:bu)⟩ :: ⟨some aR,.var (J:je)⟩ :: a3 hp)) (fun az=>Sum.elim (fun az=>Exit.exit 0) (fun az=>Exit.ret) az) (fun az aw=>Sum.elim (fun az=> [(0,I.of (J)),(1,I.of (aj)),(2,I.eq (.pointer (some ⟨aR,0,none⟩))),(3,I.eq (.pointer (some ⟨a0,0,none⟩))),(4,I.of (0:Int)),(5,I.of (false)),(10,I.of (ak)),(11,I.of (ak.length:Int)),(12,I.of (az.1)),(13,I.of (az.2))]) (fun az=> [(0,I.of (J)),(1,I.of (aj)),(2,I.eq (.pointer (some ⟨aR,0,none⟩))),(3,I.eq (.pointer (some ⟨a0,0,none⟩))),(4,I.of (az.1)),(5,I.of (az.2.1)),(10,I.of (ak)),(11,I.of (ak.length:Int)),(12,I.of (az.2.2.1)),(13,I.of (az.2.2.2.1)),(19,I.of (az.2.2.2.2))]) az) (fun az aw=>Sum.elim (fun az=>(⟨some a0,.var (aj:bu)⟩ :: ⟨some aR,.var (J:je)⟩ :: a3 hp)) (fun az=>(⟨some a0,.var (aj:bu)⟩ :: ⟨some aR,.var (J:je)⟩ :: a3 hp)) az) () rfl (.same rfl (.same rfl (.same rfl (.same rfl (.same rfl (.same rfl (.same rfl (.same rfl (.same rfl .nil))))))))) (fun s1 r h aw=> ?_) (fun aw=> ?_)
 ·clear an
  refine aA ?_
  refine bd dJ ?_
  refine bK ?_
  refine b4 h (fun h=>?_) fun h=>?_
  ·refine cP ?_
   refine ag.seq ?_
   refine ag.block ?_
   refine aA ?_
   obtain⟨aW,cc,h⟩:=ay h
   refine gk cc Tryz.underlying38 cO ?_
   refine aT (c7 cO) ?_
   refine cM hn fun bF=> ?_
   refine ck 0 cO ?_
   refine b2 ?_
   refine aT (aQ jx) ?_
   refine bL 0 jd g9 ?_
   refine cm 1 g9 ?_
   obtain⟨aO,cq,h⟩:=ay h
   refine ev Tc (Ol cq) ?_
   refine aI ?_
   refine b4 h (fun h=>?_) fun h=>?_
   ·refine aA ?_
    refine aT (aQ mC) ?_
    refine bL 0 lN bo ?_
    refine aM ?_
    refine aM ?_
    refine aI ?_
    refine ag.ret ?_
    refine ab.c5 ?_
    refine ab.ret ?_
    obtain rfl:=aH h
    exact dE () 1
   ·refine ag.skip ?_
    refine ab.dz ?_
    refine ab.next ?_
    refine ag.cj ?_
    refine bd c8 ?_
    refine aB ?_
    refine ai.nil ?_
    obtain rfl:=aH h
    exact fe () 1
  ·refine ag.exit ?_
   refine ab.exit ?_
   obtain rfl:=aH h
   exact dE () 0
 ·clear an
  rcases av with av | av
  ·simp only [Sum.elim_inl] at h
   refine ab.e4 ?_
   refine ab.next ?_
   refine aA ?_
   refine aM ?_
   refine aM ?_
   refine aI ?_
   refine ag.ret ?_
   obtain rfl:=aH h
   exact ab.kF () (.cons _ (.cons _ (.refl _))) rfl rfl (dV rfl) (dV rfl)
  ·simp only [Sum.elim_inr] at h
   refine ab.c5 ?_
   refine ab.ret ?_
   obtain rfl:=aH h
   exact ab.kF () (.cons _ (.cons _ (.refl _))) rfl rfl (dV rfl) (dV rfl)
end Go.Proofs.YtmnggbjcnoffeaaGreat
namespace Go.Proofs.YtmnggbjcnoffeaaGreat
open Go Gv
set_option linter.unusedVariables false
set_option linter.unusedSimpArgs false
set_option maxRecDepth 100000
set_option maxHeartbeats 2000000
theorem Nk {J aS:List aJ} {aj:Int} {vu K9:Option Nat} {hk sT:Nat} {r:List aJ} (h:As J aj aS=some r):cf Tryz.prog 275 [I.eq (aV vu J.length hk),I.of aj,I.eq (aV K9 aS.length sT)] [⟨vu,.row 52 J hk⟩,⟨K9,.row 52 aS sT⟩] (δ:=(Option Nat × Nat)) (fun d=>I.eq (aV d.1 r.length d.2)) (fun d=> [⟨d.1,.row 52 r d.2⟩]):=by
 unfold As at h
 obtain⟨k,rfl,ax,a2,ts,ql,rfl⟩:=PU h
 refine cf.of Tryz.func275 rfl Tryz.ntmps275 rfl fun W A=> ?_
 refine ag.seq ?_
 refine ag.cj ?_
 refine ai.v (eW xN) rfl rfl rfl ?_
 refine ai.nil ?_
 refine ab.next ?_
 refine ag.seq ?_
 refine ag.cj ?_
 refine ai.v (cU (ad rfl)) rfl rfl rfl ?_
 refine ai.v (cU (ad rfl)) rfl rfl rfl ?_
 refine ai.v (I8 (i:=0) (xs:=J) Tryz.underlying38 cO (ad rfl) rfl (.some (ad rfl)) .none rfl rfl ⟨ax,Nat.le_refl _⟩) rfl rfl rfl ?_
 refine ai.nil ?_
 refine ab.next ?_
 refine ag.seq ?_
 refine ag.cj ?_
 refine ai.v (cU (ad rfl)) rfl rfl rfl ?_
 refine ai.v (sH (i:=1) (xs:=aS) Tryz.underlying38 (ad rfl) rfl rfl) rfl rfl rfl ?_
 refine ai.v (eW (ad rfl)) rfl rfl rfl ?_
 refine ai.nil ?_
 refine ab.next ?_
 refine ag.seq ?_
 refine ag.seq ?_
 refine ag.cj ?_
 refine ai.v (cU (ad rfl)) rfl rfl rfl ?_
 refine ai.v (fz (ad rfl) (bD 0)) rfl rfl rfl ?_
 refine ai.nil ?_
 refine ab.next ?_
 refine ag.cond (ad rfl) (fun ar=> ?_) (fun _=> ?_)
 ·exfalso; simp only [beq_iff_eq] at ar; omega
 refine ag.skip ?_
 refine ab.next ?_
 refine ag.seq ?_
 refine ag.cj ?_
 refine ai.v (cU (ad rfl)) rfl rfl rfl ?_
 refine ai.v (sH (i:=0) (xs:=J) Tryz.underlying38 (ad rfl) rfl rfl) rfl rfl rfl ?_
 refine ai.v (eW (ad rfl)) rfl rfl rfl ?_
 refine ai.nil ?_
 refine ab.next ?_
 refine ag.seq ?_
 refine ag.seq ?_
 refine ag.cj ?_
 refine ai.v (cU (ad rfl)) rfl rfl rfl ?_
 refine ai.v (cU (ad rfl)) rfl rfl rfl ?_
 refine ai.v (fz (ad rfl) (ad rfl)) rfl rfl rfl ?_
 refine ai.nil ?_
 refine ab.next ?_
 refine ag.cond (ad rfl) (fun ar=> ?_) (fun ar=> ?_)
 ·have Mi:k=J.length:=by simp only [beq_iff_eq] at ar; omega
  subst Mi
  refine ag.seq ?_
  refine ag.cj ?_
  refine ai.v (cU (ad rfl)) rfl rfl rfl ?_
  refine ai.my (α:=aJ) 1 [2,13] ⟨rfl,rfl,trivial⟩ rfl ?_
  refine ai.v (cU (ad rfl)) rfl rfl rfl ?_
  refine ai.app (i:=0) (xs:=J) (ys:=aS) (r:=J ++ aS) Tryz.underlying38 cO hn (by kernel_rfl) (ad rfl) rfl (ad rfl) (by unfold gB; rw [if_pos ⟨ts,ql⟩]) rfl fun gR fH=> ?_
  refine ai.v (eW (ad rfl)) rfl rfl rfl ?_
  refine ai.nil ?_
  refine ab.next ?_
  refine ag.ret ?_
  have aU:J.take J.length ++ aS ++ J.drop J.length=J ++ aS:=by simp
  rw [aU]
  exact ab.gv (gR,fH) (.cons_cons _ (List.nil_sublist _)) rfl rfl (dV rfl)
 have Mi:k < J.length:=by simp only [beq_eq_false_iff_ne] at ar; omega
 refine ag.skip ?_
 refine ab.next ?_
 refine ag.some (i:=0) (xs:=J) rfl (by omega) fun p hp zf vY=> ?_
 subst hp
 refine ag.some (i:=1) (xs:=aS) rfl (by omega) fun q hq WY W1=> ?_
 subst hq
 refine ag.apart rfl fun Cr=> ?_
 refine ag.seq ?_
 refine ag.seq ?_
 refine ag.cj ?_
 refine ai.v (cU (ad rfl)) rfl rfl rfl ?_
 refine ai.v (cU (ad rfl)) rfl rfl rfl ?_
 refine ai.v (c8 (ad rfl) (ad rfl)) rfl rfl rfl ?_
 refine ai.v (cU (ad rfl)) rfl rfl rfl ?_
 refine ai.v (RM Tryz.underlying38 (ad rfl)) rfl rfl rfl ?_
 refine ai.v (ni (ad rfl) (ad rfl)) rfl rfl rfl ?_
 refine ai.nil ?_
 refine ab.next ?_
 have hw:bw ((J.length:Int) + (aS.length:Int))=((J.length + aS.length:Nat):Int):=by
  have oC:maxLen=9223372036854775807:=rfl
  rw [hD (by omega) (by omega)]; simp
 refine ag.cond (ad rfl) (fun gD=> ?_) (fun gD=> ?_)
 ·have vA:hk < J.length + aS.length:=by rw [hw] at gD; simp only [decide_eq_true_eq] at gD; omega
  have oC:maxLen=9223372036854775807:=rfl
  have aG:bw (bw ((J.length:Int) + (aS.length:Int)) - (k:Int))=((J.length + aS.length - k:Nat):Int):=by
   rw [hw,hD (by omega) (by omega)]; omega
  refine ag.seq ?_
  refine ag.cj ?_
  refine ai.v (cU (ad rfl)) rfl rfl rfl ?_
  refine ai.v (cU (ad rfl)) rfl rfl rfl ?_
  refine ai.v (I8 (i:=0) (xs:=J) Tryz.underlying38 cO (ad rfl) rfl .none (.some (ad rfl)) rfl rfl ⟨Nat.zero_le _,ax⟩) rfl rfl rfl ?_
  refine ai.v (cU (ad rfl)) rfl rfl rfl ?_
  refine ai.v (cU (ad rfl)) rfl rfl rfl ?_
  refine ai.v (c8 (ad rfl) (ad rfl)) rfl rfl rfl ?_
  refine ai.v (cU (ad rfl)) rfl rfl rfl ?_
  refine ai.v (lT (ad rfl) (ad rfl)) rfl rfl rfl ?_
  refine ai.UC (i:=0) (m:=k) (k:=J.length + aS.length - k) (xs:=J) (z:=(default:aJ)) Tryz.underlying38 Tryz.underlying3 cO hn (by rfl) (by kernel_rfl) (ad rfl) (by rw [← aG]; exact ad rfl) rfl ax (by omega) (by omega) (by rw [show k + (J.length + aS.length - k)=J.length + aS.length by omega]; exact ts) (by omega) rfl fun az fH=> ?_
  refine ai.v (eW (ad rfl)) rfl rfl rfl ?_
  refine ai.nil ?_
  refine ab.next ?_
  have hlen:(J.take k ++ List.replicate (J.length + aS.length - k) (default:aJ)).length=J.length + aS.length:=by simp; omega
  refine ag.some (i:=0) (xs:=J.take k ++ List.replicate (J.length + aS.length - k) (default:aJ)) rfl (by omega) fun c6 pt Td W2=> ?_
  rw [hlen] at Td
  refine ag.seq ?_
  refine ag.cj ?_
  refine ai.v (cU (ad rfl)) rfl rfl rfl ?_
  refine ai.v (cU (ad rfl)) rfl rfl rfl ?_
  refine ai.v (q0 (α:=aJ) (m:=k) (h:=k + (J.length + aS.length - k)) Tryz.underlying38 cO (ad rfl) (.some (ad rfl)) .none rfl rfl ⟨by omega,by omega⟩) rfl rfl rfl ?_
  refine ai.v (cU (ad rfl)) rfl rfl rfl ?_
  refine ai.BR (i:=0) (p:=az) (off:=k * ah.size aJ) (dLen:=k + (J.length + aS.length - k) - k) (dCap:=fH - k) (N:=aS.length) (vs:=aS) (T:=52) Tryz.underlying38 cO (by rw [← Eg (by omega)]; exact ad rfl) (JH (i:=2) (ad rfl) rfl a2) (Nat.min_eq_left (by omega)) rfl rfl (fun A W o cells h cX=>I9 (by omega) h cX) ?_
  refine ai.nil ?_
  refine ab.next ?_
  have av:(J.take k ++ List.replicate (J.length + aS.length - k) (default:aJ)).take k ++ aS ++ (J.take k ++ List.replicate (J.length + aS.length - k) (default:aJ)).drop (k + aS.length)=J.take k ++ aS ++ List.replicate (J.length - k) (default:aJ):=by
   have jI:(J.take k).length=k:=by rw [List.length_take]; omega
   rw [List.take_left' jI,List.drop_append,jI,List.drop_eq_nil_of_le (by omega),List.nil_append,List.drop_replicate]
   congr 2
   omega
  have Cs:bw ((k:Int) + (aS.length:Int))=((k + aS.length:Nat):Int):=by rw [hD (by omega) (by omega)]; simp
  refine ag.seq ?_
  refine ag.le (E':= [(0,I.eq (aV (some p) J.length hk)),(1,I.of (k:Int)),(7,I.of (aS.length:Int)),(9,I.eq (aV (some az) (k + (J.length + aS.length - k)) fH))]) (.same rfl (.same rfl (.same rfl (.same rfl .nil)))) ?_
  refine ag.jV mixed (⟨some 46,[],[],[],fun _=>I.eq (aV (some az) (k + (J.length + aS.length - k)) fH),fun _ _=>⟨none,.dead⟩⟩ :: ⟨some 47,[],[],[],fun _=>I.of (k:Int),fun _ _=>⟨none,.dead⟩⟩ :: ⟨some 48,[],[],[],fun _=>I.of (aS.length:Int),fun _ _=>⟨none,.dead⟩⟩ :: ⟨some 49,(1 :: 2 :: []),[],[],fun _=>I.of (bw ((k:Int) + (aS.length:Int))),fun _ _=>⟨none,.dead⟩⟩ :: ⟨some 50,(0 :: 3 :: []),[],[],fun _=>I.eq (ie (some az) (k + aS.length) ((k + (J.length + aS.length - k)) - (k + aS.length)) fH (ah.size aJ)),fun _ _=>⟨none,.dead⟩⟩ :: ⟨some 51,[],[],[],fun _=>I.eq (aV (some p) J.length hk),fun _ _=>⟨none,.dead⟩⟩ :: ⟨some 52,[],[],[],fun _=>I.of (k:Int),fun _ _=>⟨none,.dead⟩⟩ :: ⟨some 53,(5 :: 6 :: []),[],[],fun _=>I.eq (ie (some p) k (J.length - k) hk (ah.size aJ)),fun _ _=>⟨none,.dead⟩⟩ :: ⟨some 54,(4 :: 7 :: []),(0 :: 1 :: []),(0 :: []),fun _=>I.of ((((J.drop k).take (J.length - k)).length:Nat):Int),fun _ _=>⟨some az,.row 52 ((J.take k ++ aS ++ List.replicate (J.length - k) (default:aJ)).take (k + aS.length) ++ (J.drop k).take (J.length - k) ++ (J.take k ++ aS ++ List.replicate (J.length - k) (default:aJ)).drop (k + aS.length + ((J.drop k).take (J.length - k)).length)) fH⟩⟩ :: []) ((some 46,[],[],[]) :: (some 47,[],[],[]) :: (some 48,[],[],[]) :: (some 49,(1 :: 2 :: []),[],[]) :: (some 50,(0 :: 3 :: []),[],[]) :: (some 51,[],[],[]) :: (some 52,[],[],[]) :: (some 53,(5 :: 6 :: []),[],[]) :: (some 54,(4 :: 7 :: []),(0 :: 1 :: []),(0 :: [])) :: []) (0 :: 1 :: 7 :: 9 :: []) rfl rfl (by kernel_rfl) ⟨?_,?_,?_,?_,?_,?_,?_,?_,?_,trivial⟩ fun hd=> ?_
  ·exact ji rfl rfl rfl fun hd E' L' aE ao=>cU (ad (aE _ _ rfl))
  ·exact ji rfl rfl rfl fun hd E' L' aE ao=>cU (ad (aE _ _ rfl))
  ·exact ji rfl rfl rfl fun hd E' L' aE ao=>cU (ad (aE _ _ rfl))
  ·exact ji rfl rfl rfl fun hd E' L' aE ao=>c8 (ad (aE _ _ rfl)) (ad (aE _ _ rfl))
  ·exact ji rfl rfl rfl fun hd E' L' aE ao=>q0 (α:=aJ) (m:=k + aS.length) (h:=(k + (J.length + aS.length - k))) Tryz.underlying38 cO (ad (aE _ _ rfl)) (.some (ad (aE _ _ rfl))) .none Cs rfl ⟨by omega,by omega⟩
  ·exact ji rfl rfl rfl fun hd E' L' aE ao=>cU (ad (aE _ _ rfl))
  ·exact ji rfl rfl rfl fun hd E' L' aE ao=>cU (ad (aE _ _ rfl))
  ·exact ji rfl rfl rfl fun hd E' L' aE ao=>q0 (α:=aJ) (m:=k) (h:=J.length) Tryz.underlying38 cO (ad (aE _ _ rfl)) (.some (ad (aE _ _ rfl))) .none rfl rfl ⟨by omega,by omega⟩
  ·intro hd E' L' aE ao
   have bT:=ao 0 _ rfl rfl
   rw [av] at bT
   refine ai.BR (i:=0) (p:=az) (off:=(k + aS.length) * ah.size aJ) (T:=52) (vs:=(J.drop k).take (J.length - k)) (N:=J.length - k) (dLen:=(k + (J.length + aS.length - k)) - (k + aS.length)) (dCap:=fH - (k + aS.length)) Tryz.underlying38 cO (by rw [← Eg (p:=az) (lo:=k + aS.length) (cap:=fH) (size:=ah.size aJ) (by omega)]; exact ad (aE _ _ rfl)) (Eh (i:=1) (ad (aE _ _ rfl)) (ao 1 _ rfl rfl) (by omega) (by omega)) (by rw [show((J.drop k).take (J.length - k)).length=J.length - k by simp]; exact Nat.min_eq_left (by omega)) bT rfl (fun A W o cells h cX=>I9 (by simp; omega) h cX) ?_
   refine ai.nil ?_
   exact ab.fin (eh []) rfl rfl
  have aX:((J.take k ++ aS ++ List.replicate (J.length - k) (default:aJ)).take (k + aS.length) ++ (J.drop k).take (J.length - k) ++ (J.take k ++ aS ++ List.replicate (J.length - k) (default:aJ)).drop (k + aS.length + ((J.drop k).take (J.length - k)).length))=J.take k ++ aS ++ J.drop k:=by
   have jI:(J.take k ++ aS).length=k + aS.length:=by simp; omega
   have cN:(J.drop k).take (J.length - k)=J.drop k:=List.take_of_length_le (by simp)
   have gp:(J.take k ++ aS ++ List.replicate (J.length - k) (default:aJ)).drop (k + aS.length + (J.drop k).length)= []:=List.drop_eq_nil_of_le (by rw [List.length_append,jI,List.length_replicate,List.length_drop]; omega)
   rw [cN,List.take_left' jI,gp,List.append_nil]
  refine ab.en (L2:= [⟨some az,.row 52 ((J.take k ++ aS ++ List.replicate (J.length - k) (default:aJ)).take (k + aS.length) ++ (J.drop k).take (J.length - k) ++ (J.take k ++ aS ++ List.replicate (J.length - k) (default:aJ)).drop (k + aS.length + ((J.drop k).take (J.length - k)).length)) fH⟩,⟨some p,.row 52 J hk⟩,⟨some q,.row 52 aS sT⟩]) rfl ?_
  rw [aX]
  refine ab.le (E':= [(9,I.eq (aV (some az) (k + (J.length + aS.length - k)) fH))]) (.same rfl .nil) ?_
  refine ab.next ?_
  refine ag.seq ?_
  refine ag.cj ?_
  refine ai.v (cU (ad rfl)) rfl rfl rfl ?_
  refine ai.v (eW (ad rfl)) rfl rfl rfl ?_
  refine ai.nil ?_
  refine ab.next ?_
  refine ag.ret ?_
  have dk:k + (J.length + aS.length - k)=(J.take k ++ aS ++ J.drop k).length:=by simp; omega
  rw [dk]
  exact ab.gv (some az,fH) (.cons_cons _ (List.nil_sublist _)) rfl rfl (dV rfl)
 have vA:J.length + aS.length≤hk:=by rw [hw] at gD; simp only [decide_eq_false_iff_not] at gD; omega
 have oC:maxLen=9223372036854775807:=rfl
 have Cs:bw ((k:Int) + (aS.length:Int))=((k + aS.length:Nat):Int):=by rw [hD (by omega) (by omega)]; simp
 refine ag.skip ?_
 refine ab.next ?_
 refine ag.seq ?_
 refine ag.cj ?_
 refine ai.v (cU (ad rfl)) rfl rfl rfl ?_
 refine ai.v (cU (ad rfl)) rfl rfl rfl ?_
 refine ai.v (cU (ad rfl)) rfl rfl rfl ?_
 refine ai.v (c8 (ad rfl) (ad rfl)) rfl rfl rfl ?_
 refine ai.v (q0 (α:=aJ) (m:=0) (h:=J.length + aS.length) Tryz.underlying38 cO (ad rfl) .none (.some (ad rfl)) rfl hw ⟨by omega,by omega⟩) rfl rfl rfl ?_
 refine ai.v (eW (ad rfl)) rfl rfl rfl ?_
 refine ai.nil ?_
 refine ab.next ?_
 refine ag.seq ?_
 refine ag.seq ?_
 refine ag.cj ?_
 refine ai.v (cU (ad rfl)) rfl rfl rfl ?_
 refine ai.v (cU (ad rfl)) rfl rfl rfl ?_
 refine ai.v (cU (ad rfl)) rfl rfl rfl ?_
 refine ai.v (cU (ad rfl)) rfl rfl rfl ?_
 refine ai.v (c8 (ad rfl) (ad rfl)) rfl rfl rfl ?_
 refine ai.v (q0 (α:=aJ) (p:=p) (n:=J.length + aS.length) (cap:=hk) (m:=k + aS.length) (h:=J.length + aS.length) Tryz.underlying38 cO (Bt (size:=ah.size aJ) (ad rfl)) (.some (ad rfl)) .none Cs rfl ⟨by omega,by omega⟩) rfl rfl rfl ?_
 refine ai.v (Te (α:=aJ) (p:=p) (q:=q) (T:=52) (U:=52) (xs:=J) (vs:=aS) (cap:=hk) (cap':=sT) (i:=0) (j:=1) (tR:=4) (by kernel_rfl) Tryz.func280 (by kernel_rfl) (by kernel_rfl) (by kernel_rfl) (by kernel_rfl) Tryz.underlying38 cO (ad rfl) (EI (p:=p) (lo:=k + aS.length) (cap:=hk) (size:=ah.size aJ) (by omega) (ad rfl)) rfl rfl Cr (by omega)) rfl rfl rfl ?_
 refine ai.v (iy (ad rfl)) rfl rfl rfl ?_
 refine ai.nil ?_
 refine ab.next ?_
 refine ag.cond (ad rfl) (fun _=> ?_) (fun l9=>by cases l9)
 ·have jJ:(J.length + aS.length - 0)=J.length + aS.length:=by omega
  have Mj:(J.drop k).take (J.length - k)=J.drop k:=List.take_of_length_le (by simp)
  refine ag.seq ?_
  refine ag.le (E':= [(0,I.eq (ie (some p) 0 (J.length + aS.length - 0) hk (ah.size aJ))),(1,I.of (k:Int)),(2,I.eq (aV (some q) aS.length sT)),(7,I.of (aS.length:Int))]) (.same rfl (.same rfl (.same rfl (.same rfl .nil)))) ?_
  refine ag.jV mixed (⟨some 69,[],[],[],fun _=>I.eq (ie (some p) 0 (J.length + aS.length - 0) hk (ah.size aJ)),fun _ _=>⟨none,.dead⟩⟩ :: ⟨some 70,[],[],[],fun _=>I.of (k:Int),fun _ _=>⟨none,.dead⟩⟩ :: ⟨some 71,[],[],[],fun _=>I.of (aS.length:Int),fun _ _=>⟨none,.dead⟩⟩ :: ⟨some 72,(1 :: 2 :: []),[],[],fun _=>I.of (bw ((k:Int) + (aS.length:Int))),fun _ _=>⟨none,.dead⟩⟩ :: ⟨some 73,(0 :: 3 :: []),[],[],fun _=>I.eq (ie (some p) (k + aS.length) (J.length + aS.length - (k + aS.length)) hk (ah.size aJ)),fun _ _=>⟨none,.dead⟩⟩ :: ⟨some 74,[],[],[],fun _=>I.eq (ie (some p) 0 (J.length + aS.length - 0) hk (ah.size aJ)),fun _ _=>⟨none,.dead⟩⟩ :: ⟨some 75,[],[],[],fun _=>I.of (k:Int),fun _ _=>⟨none,.dead⟩⟩ :: ⟨some 76,(5 :: 6 :: []),[],[],fun _=>I.eq (ie (some p) k (J.length + aS.length - k) hk (ah.size aJ)),fun _ _=>⟨none,.dead⟩⟩ :: ⟨some 77,(4 :: 7 :: []),(0 :: []),(0 :: []),fun _=>I.of ((((J.drop k).take (J.length - k)).length:Nat):Int),fun _ _=>⟨some p,.zu 52 J k aS.length hk⟩⟩ :: []) ((some 69,[],[],[]) :: (some 70,[],[],[]) :: (some 71,[],[],[]) :: (some 72,(1 :: 2 :: []),[],[]) :: (some 73,(0 :: 3 :: []),[],[]) :: (some 74,[],[],[]) :: (some 75,[],[],[]) :: (some 76,(5 :: 6 :: []),[],[]) :: (some 77,(4 :: 7 :: []),(0 :: []),(0 :: [])) :: []) (0 :: 1 :: 2 :: 7 :: []) rfl rfl (by kernel_rfl) ⟨?_,?_,?_,?_,?_,?_,?_,?_,?_,trivial⟩ fun hd=> ?_
  ·exact ji rfl rfl rfl fun hd E' L' aE ao=>cU (ad (aE _ _ rfl))
  ·exact ji rfl rfl rfl fun hd E' L' aE ao=>cU (ad (aE _ _ rfl))
  ·exact ji rfl rfl rfl fun hd E' L' aE ao=>cU (ad (aE _ _ rfl))
  ·exact ji rfl rfl rfl fun hd E' L' aE ao=>c8 (ad (aE _ _ rfl)) (ad (aE _ _ rfl))
  ·exact ji rfl rfl rfl fun hd E' L' aE ao=>q0 (α:=aJ) (n:=J.length + aS.length) (m:=k + aS.length) (h:=J.length + aS.length) Tryz.underlying38 cO (Bt (size:=ah.size aJ) (ad (aE _ _ rfl))) (.some (ad (aE _ _ rfl))) .none Cs rfl ⟨by omega,by omega⟩
  ·exact ji rfl rfl rfl fun hd E' L' aE ao=>cU (ad (aE _ _ rfl))
  ·exact ji rfl rfl rfl fun hd E' L' aE ao=>cU (ad (aE _ _ rfl))
  ·exact ji rfl rfl rfl fun hd E' L' aE ao=>q0 (α:=aJ) (n:=J.length + aS.length) (m:=k) (h:=J.length + aS.length) Tryz.underlying38 cO (Bt (size:=ah.size aJ) (ad (aE _ _ rfl))) (.some (ad (aE _ _ rfl))) .none rfl rfl ⟨by omega,by omega⟩
  ·intro hd E' L' aE ao
   have bT:=ao 0 _ rfl rfl
   refine ai.BR (i:=0) (p:=p) (off:=(k + aS.length) * ah.size aJ) (T:=52) (vs:=(J.drop k).take (J.length - k)) (N:=J.length + aS.length - k) (dLen:=J.length + aS.length - (k + aS.length)) (dCap:=hk - (k + aS.length)) (cp':= .zu 52 J k aS.length hk) Tryz.underlying38 cO (EI (p:=p) (lo:=k + aS.length) (cap:=hk) (size:=ah.size aJ) (by omega) (ad (aE _ _ rfl))) (Eh (i:=0) (ad (aE _ _ rfl)) bT (by omega) (by omega)) (by rw [Mj]; rw [show(J.drop k).length=J.length + aS.length - (k + aS.length) by simp; omega]; exact Nat.min_eq_right (by omega)) bT rfl (fun A W o cells h cX=>Q5 ax vA h (by rw [← Mj]; exact cX)) ?_
   refine ai.nil ?_
   exact ab.fin (eh []) rfl rfl
  refine ab.en (L2:= [⟨some p,.zu 52 J k aS.length hk⟩,⟨some q,.row 52 aS sT⟩]) rfl ?_
  refine ab.le (E':= [(0,I.eq (ie (some p) 0 (J.length + aS.length - 0) hk (ah.size aJ))),(1,I.of (k:Int)),(2,I.eq (aV (some q) aS.length sT))]) (.same rfl (.same rfl (.same rfl .nil))) ?_
  refine ab.next ?_
  refine ag.seq ?_
  refine ag.cj ?_
  refine ai.v (cU (ad rfl)) rfl rfl rfl ?_
  refine ai.v (cU (ad rfl)) rfl rfl rfl ?_
  refine ai.v (q0 (α:=aJ) (n:=J.length + aS.length) (m:=k) (h:=J.length + aS.length) Tryz.underlying38 cO (Bt (size:=ah.size aJ) (ad rfl)) (.some (ad rfl)) .none rfl rfl ⟨by omega,by omega⟩) rfl rfl rfl ?_
  refine ai.v (cU (ad rfl)) rfl rfl rfl ?_
  refine ai.BR (i:=0) (p:=p) (off:=k * ah.size aJ) (dLen:=J.length + aS.length - k) (dCap:=hk - k) (N:=aS.length) (vs:=aS) (T:=52) (cp':= .row 52 (J.take k ++ aS ++ J.drop k) hk) Tryz.underlying38 cO (EI (p:=p) (lo:=k) (cap:=hk) (size:=ah.size aJ) (by omega) (ad rfl)) (JH (i:=1) (ad rfl) rfl a2) (Nat.min_eq_left (by omega)) rfl rfl (fun A W o cells h cX=>Qt ax h cX) ?_
  refine ai.nil ?_
  refine ab.next ?_
  refine ag.seq ?_
  refine ag.cj ?_
  refine ai.v (cU (ad rfl)) rfl rfl rfl ?_
  refine ai.v (eW (ad rfl)) rfl rfl rfl ?_
  refine ai.nil ?_
  refine ab.next ?_
  refine ag.ret ?_
  have dk:J.length + aS.length - 0=(J.take k ++ aS ++ J.drop k).length:=by simp; omega
  rw [A9,dk]
  exact ab.gv (some p,hk) (.cons_cons _ (List.nil_sublist _)) rfl rfl (dV rfl)
end Go.Proofs.YtmnggbjcnoffeaaGreat
namespace Go.Proofs.YtmnggbjcnoffeaaGreat
open Go Gv
set_option linter.unusedVariables false
set_option linter.unusedSimpArgs false
set_option maxRecDepth 100000
set_option maxHeartbeats 2000000
theorem NF {J:cF} {aj:aJ} {aS:aJ} {r:Int} (h:ud J aj aS=some r):bE Tryz.prog 273 [I.ptr J,I.of (aj),I.of (aS)] (I.of (r)):=by
 unfold ud at h
 refine bE.of Tryz.func273 rfl Tryz.ntmps273 rfl fun W A=> ?_
 refine aA ?_
 refine b8 fun aR=> ?_
 refine b8 fun a0=> ?_
 refine aM ?_
 refine bK ?_
 refine ag.block ?_
 refine ag.seq ?_
 obtain⟨ak,bt,h⟩:=ay h
 refine ag.draw mixed 7 [some 8,some 9,some 10,some 11,some 12,some 13,some 14] [[],[0],[1],[2],[],[],[3,4,5]] [.val _,.val _,.val _,.val _,.val _,.val _,.val _] [false,false,false,false,false,false,false] (by kernel_rfl) rfl rfl rfl (fun c1=>⟨c3,H1 x3,qi At Ee,H1 (c7 fs),e5 1 cO,e5 0 cO,fm La (HY bt),trivial⟩) fun c1=> ?_
 refine aM ?_
 refine aI ?_
 refine b4 h (fun h=>?_) fun h=>?_
 ·refine aA ?_
  refine aM ?_
  refine aI ?_
  refine ag.ret ?_
  refine ab.c5 ?_
  refine ab.ret ?_
  obtain rfl:=aH h
  exact cv
 ·refine ag.seq ?_
  obtain⟨aO,cq,h⟩:=ay h
  refine ag.draw mixed 7 [some 16,some 17,some 18,some 19,some 20,some 21,some 22] [[],[0],[1],[2],[],[],[3,4,5]] [.val _,.val _,.val _,.val _,.val _,.val _,.val _] [false,false,false,false,false,false,false] (by kernel_rfl) rfl rfl rfl (fun jk=>⟨c3,H1 x3,qi At Ee,H1 (c7 fs),e5 0 cO,e5 1 cO,fm La (HY cq),trivial⟩) fun jk=> ?_
  refine aM ?_
  refine aI ?_
  refine b4 h (fun h=>?_) fun h=>?_
  ·refine aA ?_
   refine aM ?_
   refine aI ?_
   refine ag.ret ?_
   refine ab.c5 ?_
   refine ab.ret ?_
   obtain rfl:=aH h
   exact cv
  ·refine ag.skip ?_
   refine ab.dz ?_
   refine ab.next ?_
   refine aA ?_
   refine aM ?_
   refine aI ?_
   refine ag.ret ?_
   obtain rfl:=aH h
   exact cv
end Go.Proofs.YtmnggbjcnoffeaaGreat
