/-
  Each function meets its functional program. Conditions: none.
-/
import Derived.Test.YtmnggbjcnoffeaaGreatMc0
import Derived.Test.YtmnggbjcnoffeaaGreatMc3
import Derived.Test.YtmnggbjcnoffeaaGreatMc4
namespace Go.Proofs.YtmnggbjcnoffeaaGreat
open Go Gv
set_option linter.unusedVariables false
set_option linter.unusedSimpArgs false
set_option maxRecDepth 100000
set_option maxHeartbeats 2000000
theorem Ow {hp:a1 Cell} {J:Ref} {aj:al} {aS:Int} {cn:Int} {Q:Bool × (a1 Cell)→Prop} (h:uA hp J aj aS cn Q):cf Tryz.prog 244 [I.of (J),I.of (aj),I.of (aS),I.of (cn)] ([] ++ a3 hp) (δ:= {r:Bool × (a1 Cell) // Q r} × Unit) (fun d=>I.of (d.1.1.1)) (fun d=> [] ++ a3 d.1.1.2):=by
 unfold uA at h
 refine cf.ofM Tryz.func244 rfl Tryz.ntmps244 rfl fun W A=> ?_
 refine aA ?_
 refine b8 fun aR=> ?_
 refine aM ?_
 refine bK ?_
 refine aA ?_
 refine aB ?_
 refine cm 0 bV ?_
 refine aB ?_
 obtain⟨ak,bt,h⟩:=aC.cJ h
 refine ai.lf (gO.lr 1 rfl K1 (HB bt) ⟨ad rfl,ad rfl,ad rfl,trivial⟩) rfl rfl rfl ?_
 refine aT iy ?_
 refine aI ?_
 refine ag.cond (ad rfl) (fun ar=> ?_) (fun ar=> ?_)
 ·replace h:=q5 ar h
  refine aA ?_
  refine aM ?_
  refine aI ?_
  refine ag.ret ?_
  refine ab.ret ?_
  refine ab.B0 ?_
  exact ab.gv (⟨⟨(false,hp),h⟩,()⟩: {r // _} × _) (.cons _ (.refl _)) rfl rfl (dV rfl)
 ·replace h:=q6 ar h
  refine cP ?_
  refine ag.seq ?_
  refine aA ?_
  refine aB ?_
  refine cm 0 bV ?_
  refine aB ?_
  obtain⟨aO,cq,h⟩:=aC.cJ h
  refine ai.lf (gO.lr 1 rfl K3 (HF cq) ⟨ad rfl,ad rfl,ad rfl,trivial⟩) rfl rfl rfl ?_
  refine aM ?_
  refine b2 ?_
  refine aB ?_
  refine bj (DF Tryz.underlying331 (ad rfl)) ?_
  refine aB ?_
  refine dK cU ?_
  obtain⟨cW,eA,h⟩:=aC.cJ h
  refine ea (fun hb=>eI (fv (b3 rfl hb) (fC eA hb))) ?_
  refine dK (aQ sx) ?_
  obtain⟨cd,ff,h⟩:=aC.cJ h
  refine ea (fun hb=>hj ((aK.id ep).comp sa) (r:=cd.eV) fk (b3 rfl hb) (gn (n:=1) rfl (lp (fC ff hb)) rfl) rfl rfl) ?_
  refine ig ?_
  refine aI ?_
  refine ag.cond (ad rfl) (fun ar=> ?_) (fun ar=> ?_)
  ·replace h:=q5 ar h
   refine aA ?_
   refine aM ?_
   refine aI ?_
   refine ag.ret ?_
   refine ab.ret ?_
   refine ab.B0 ?_
   exact ab.gv (⟨⟨(false,hp),h⟩,()⟩: {r // _} × _) (.cons _ (.refl _)) rfl rfl (dV rfl)
  ·replace h:=q6 ar h
   refine cP ?_
   refine ag.seq ?_
   refine aA ?_
   refine aB ?_
   obtain⟨ct,fQ,h⟩:=aC.cJ h
   refine bj (eI (fv (ad rfl) fQ)) ?_
   refine aT (aQ xV) ?_
   obtain⟨cS,gD,h⟩:=aC.cJ h
   refine bj (hj ((aK.id fM).comp w1) (r:=cS.cV) eX (ad rfl) (gn (n:=1) rfl (nG gD) rfl) rfl rfl) ?_
   refine bj (m9 Tryz.underlying331 (ad rfl)) ?_
   refine aI ?_
   refine ag.x9 (γ:=Unit) h (fun bB aw=> [(0,I.of (J)),(1,I.of (aj)),(2,I.of (aS)),(3,I.of (cn)),(5,I.eq (.pointer (some ⟨aR,0,none⟩))),(8,I.of (false)),(9,I.of (aO)),(16,I.of (!ak)),(28,I.of (aO.isSome && cd.eV)),(33,I.of (cS.cV.isNone))]) (fun bB aw=>(⟨some aR,.var (aj:al)⟩ :: a3 bB)) (ad rfl) (fun bB aw h=> ?_) (fun hm ar h=> ?_) (fun hm ar h=> ?_)
   ·refine ab.next ?_
    refine aA ?_
    refine aB ?_
    refine bj (eI (fv (ad rfl) fQ)) ?_
    refine aT (aQ xV) ?_
    obtain⟨e2,l9,h⟩:=aC.cJ h
    refine bj (hj ((aK.id fM).comp w1) (r:=e2.cV) eX (ad rfl) (gn (n:=1) rfl (nG l9) rfl) rfl rfl) ?_
    refine cM BN fun a0=> ?_
    refine ck 0 eX ?_
    refine bK ?_
    refine aA ?_
    refine aB ?_
    refine cm 1 bV ?_
    refine aB ?_
    obtain⟨bc,fb,h⟩:=aC.cJ h
    refine ev E8 (Dn fb) ?_
    refine aI ?_
    refine ag.block ?_
    refine PT (σ:=Ref × (a1 Cell)) (ε:=Empty) (γ:=Unit) (g0:=()) (Ls:=fun s2 bA=>(⟨some a0,.var (s2.1:Ref)⟩ :: ⟨some aR,.var (aj:al)⟩ :: a3 s2.2)) (Lx:=fun c6 bA=>Empty.elim c6) (hq:=fun s2=>s2.2) (fun s2 bA=> [⟨some a0,.var (s2.1:Ref)⟩,⟨some aR,.var (aj:al)⟩]) (fun c6=>Empty.elim c6) rfl E9 rfl NQ h (fun _ _=>rfl) rfl rfl (fun vW s2 R h bA kp kz kq l D rec tq=> ?_) (fun s2 h bA D=> ?_) (fun c6 h bA D=> ?_)
    ·refine ag.cj ?_
     refine aM ?_
     refine ai.nil ?_
     refine ab.begin 0 rfl tq ?_
     refine ag.block ?_
     refine ag.seq ?_
     refine aA ?_
     refine cm 2 eX ?_
     refine aB ?_
     obtain⟨oP,tr,h⟩:=aC.cJ h
     refine bj (eI (fv (ad rfl) tr)) ?_
     refine aT (aQ xW) ?_
     obtain⟨aW,cc,h⟩:=aC.cJ h
     refine bj (fj (k:=aW) yz (ad rfl) (ad rfl) (cK cc)) ?_
     obtain⟨r1,FW,h⟩:=aC.cJ h
     refine bj (hj (((aK.id ep).comp wE).comp (aK.idx (α:=Ref) 2 aW (cK cc).1)) (r:=bJ r1.er aW) eX (ad rfl) (gn (n:=4) rfl (lp FW) rfl) rfl rfl) ?_
     refine bj (m9 Tryz.underlying331 (ad rfl)) ?_
     refine aI ?_
     refine ag.x9 (γ:=Unit) h (fun cu cD=> [(0,I.of (J)),(1,I.of (aj)),(2,I.of (aS)),(3,I.of (cn)),(5,I.eq (.pointer (some ⟨aR,0,none⟩))),(8,I.of (false)),(9,I.of (aO)),(10,I.eq (.pointer (some ⟨a0,0,none⟩))),(11,I.of (vW)),(16,I.of (!ak)),(28,I.of (aO.isSome && cd.eV)),(33,I.of (cS.cV.isNone)),(46,I.gE 255 [I.ptr bc.1,I.ptr bc.2.1,I.ptr bc.2.2]),(47,I.of (vW)),(54,I.of ((bJ r1.er aW).isNone))]) (fun cu cD=>(⟨some l,.is (.loop { rec with state:= .busy })⟩ :: ⟨some D,.db⟩ :: ⟨some a0,.var (s2.1:Ref)⟩ :: ⟨some aR,.var (aj:al)⟩ :: a3 cu)) (ad rfl) (fun cu cD h=> ?_) (fun hm ar h=> ?_) (fun hm ar h=> ?_)
     ·refine ab.next ?_
      refine ag.cj ?_
      refine cm 2 eX ?_
      refine aB ?_
      refine bj (eI (fv (ad rfl) tr)) ?_
      refine aT (aQ xW) ?_
      obtain⟨bR,cN,h⟩:=aC.cJ h
      refine bj (fj (k:=bR) yz (ad rfl) (ad rfl) (cK cN)) ?_
      obtain⟨tP,FX,h⟩:=aC.cJ h
      refine bj (hj (((aK.id ep).comp wE).comp (aK.idx (α:=Ref) 2 bR (cK cN).1)) (r:=bJ tP.er bR) eX (ad rfl) (gn (n:=4) rfl (lp FX) rfl) rfl rfl) ?_
      refine ck 2 eX ?_
      refine ai.nil ?_
      refine ab.dz ?_
      exact ab.Uz h () 0 rfl
     ·refine ag.cj ?_
      refine cm 2 eX ?_
      refine aB ?_
      refine ho K5 K6 (default:ep) .nil ?_
      refine ai.yZ 4 rfl (Cell.gS (default:ep)) (fun _=>rfl) (ad rfl) rfl fun dL ti=> ?_
      replace h:=aC.q3 h dL ti
      refine bj (eI (fv (ad rfl) tr)) ?_
      refine aT (aQ xW) ?_
      obtain⟨dj,gp,h⟩:=aC.cJ h
      refine bj (fj (k:=dj) yz (ad rfl) (ad rfl) (cK gp)) ?_
      obtain⟨qG,FY,h⟩:=aC.cJ h
      obtain⟨dF,oq,h⟩:=aC.cJ h
      refine ai.o4 (k':=Cell.gS ({ qG with er:=c2 qG.er dj (some dL.1:Ref) } :ep)) 4 rfl (((aK.id ep).comp wE).comp (aK.idx (α:=Ref) 2 dj (cK gp).1)) (v:=((some dL.1:Ref):Ref)) eX (ad rfl) (ad rfl) (lp FY) rfl rfl rfl rfl (aH oq) ?_
      refine ai.nil ?_
      exact df 0 (hm dF () h)
     ·refine ag.skip ?_
      exact df 0 (hm s2.2 () h)
    ·simp only [Sum.elim_inl] at h
     refine ab.en (L2:=(⟨some D,.db⟩ :: ⟨some a0,.var (s2.1:Ref)⟩ :: ⟨some aR,.var (aj:al)⟩ :: a3 s2.2)) rfl ?_
     refine ab.dz ?_
     refine ab.next ?_
     refine ag.seq ?_
     obtain⟨iZ,Co,h⟩:=aC.cJ h
     obtain⟨wi,Cp,h⟩:=aC.cJ h
     obtain⟨eJ,vF,h⟩:=aC.cJ h
     refine ag.K7 mixed 9 (Array.mk (false :: false :: false :: false :: false :: false :: false :: false :: false :: [])) rfl rfl ?_
     refine bp.cut (γ:=Unit) 3 (Array.mk (true :: true :: true :: true :: true :: true :: false :: false :: false :: [])) (fun rf=> [(0,I.of (J)),(1,I.of (aj)),(2,I.of (aS)),(3,I.of (cn)),(5,I.eq (.pointer (some ⟨aR,0,none⟩))),(8,I.of (false)),(9,I.of (aO)),(10,I.eq (.pointer (some ⟨a0,0,none⟩))),(16,I.of (!ak)),(28,I.of (aO.isSome && cd.eV)),(33,I.of (cS.cV.isNone)),(39,I.of (J)),(40,I.eq (.pointer (some ⟨ct,0,none⟩))),(41,I.eq (.pointer (some ⟨ct,0 + 1,none⟩))),(42,I.of (e2.cV)),(43,I.of (J)),(44,I.of (aj)),(45,I.of (aS)),(46,I.gE 255 [I.ptr bc.1,I.ptr bc.2.1,I.ptr bc.2.2]),(68,I.of (s2.1)),(69,I.of (s2.1)),(70,I.of (cn)),(71,I.eq (.pointer (some ⟨iZ,0,none⟩))),(72,I.eq (.pointer (some ⟨iZ,0 + 2,none⟩)))]) (fun rf=>(⟨some D,.db⟩ :: ⟨some a0,.var (s2.1:Ref)⟩ :: ⟨some aR,.var (aj:al)⟩ :: a3 eJ)) (fun rf=> ?_) (fun vv=> ?_)
     ·refine bp.tail 6 rfl (by kernel_rfl) ?_
      obtain⟨GV,Vr,h⟩:=aC.cJ h
      refine bj (eI (fv (ad rfl) Vr)) ?_
      refine aT (aQ Eb) ?_
      obtain⟨GW,Vs,h⟩:=aC.cJ h
      obtain⟨h7,Fv,h⟩:=aC.cJ h
      refine ai.o4 (k':=Cell.gS ({ GW with jC:=cn } :ep)) 3 rfl ((aK.id ep).comp Dl) (v:=(cn:Int)) bo (ad rfl) (ad rfl) (lp Vs) rfl rfl rfl rfl (aH Fv) ?_
      refine b2 ?_
      refine aM ?_
      refine aI ?_
      refine ag.ret ?_
      refine ab.s8 0 rfl rfl ?_
      exact ab.gv (⟨⟨(true,h7),h⟩,()⟩: {r // _} × _) (.cons _ (.cons _ (.cons _ (.refl _)))) rfl rfl (dV rfl)
     refine bp.cut (γ:=Unit) 4 (Array.mk (true :: false :: true :: true :: true :: true :: false :: false :: false :: [])) (fun pU=> [(0,I.of (J)),(1,I.of (aj)),(2,I.of (aS)),(3,I.of (cn)),(5,I.eq (.pointer (some ⟨aR,0,none⟩))),(8,I.of (false)),(9,I.of (aO)),(10,I.eq (.pointer (some ⟨a0,0,none⟩))),(16,I.of (!ak)),(28,I.of (aO.isSome && cd.eV)),(33,I.of (cS.cV.isNone)),(39,I.of (J)),(40,I.eq (.pointer (some ⟨ct,0,none⟩))),(41,I.eq (.pointer (some ⟨ct,0 + 1,none⟩))),(42,I.of (e2.cV)),(43,I.of (J)),(44,I.of (aj)),(45,I.of (aS)),(46,I.gE 255 [I.ptr bc.1,I.ptr bc.2.1,I.ptr bc.2.2]),(68,I.of (s2.1)),(70,I.of (cn)),(71,I.eq (.pointer (some ⟨iZ,0,none⟩))),(72,I.eq (.pointer (some ⟨iZ,0 + 2,none⟩)))]) (fun pU=>(⟨some D,.db⟩ :: ⟨some a0,.var (s2.1:Ref)⟩ :: ⟨some aR,.var (aj:al)⟩ :: a3 eJ)) (fun pU=> ?_) (fun yB=> ?_)
     ·clear h
      refine bp.step [1] (by kernel_rfl) rfl ⟨⟨_,rfl,?_⟩,trivial⟩
      ·refine cm 1 eX ?_
       refine ai.nil ?_
       exact ab.any rfl (bp.le (.same rfl (.same rfl (.same rfl (.same rfl (.same rfl (.same rfl (.same rfl (.same rfl (.same rfl (.same rfl (.same rfl (.same rfl (.same rfl (.same rfl (.same rfl (.same rfl (.same rfl (.same rfl (.same rfl (.same rfl (.same rfl (.same rfl (.same rfl (.same rfl .nil)))))))))))))))))))))))) (vv ()))
     refine bp.cut (γ:=Unit) 4 (Array.mk (true :: true :: false :: true :: true :: true :: false :: false :: false :: [])) (fun ya=> [(0,I.of (J)),(1,I.of (aj)),(2,I.of (aS)),(3,I.of (cn)),(5,I.eq (.pointer (some ⟨aR,0,none⟩))),(8,I.of (false)),(9,I.of (aO)),(10,I.eq (.pointer (some ⟨a0,0,none⟩))),(16,I.of (!ak)),(28,I.of (aO.isSome && cd.eV)),(33,I.of (cS.cV.isNone)),(39,I.of (J)),(40,I.eq (.pointer (some ⟨ct,0,none⟩))),(41,I.eq (.pointer (some ⟨ct,0 + 1,none⟩))),(42,I.of (e2.cV)),(43,I.of (J)),(44,I.of (aj)),(45,I.of (aS)),(46,I.gE 255 [I.ptr bc.1,I.ptr bc.2.1,I.ptr bc.2.2]),(68,I.of (s2.1)),(69,I.of (s2.1)),(71,I.eq (.pointer (some ⟨iZ,0,none⟩))),(72,I.eq (.pointer (some ⟨iZ,0 + 2,none⟩)))]) (fun ya=>(⟨some D,.db⟩ :: ⟨some a0,.var (s2.1:Ref)⟩ :: ⟨some aR,.var (aj:al)⟩ :: a3 eJ)) (fun ya=> ?_) (fun vw=> ?_)
     ·clear h
      refine bp.step [2] (by kernel_rfl) rfl ⟨⟨_,rfl,?_⟩,trivial⟩
      ·refine aB ?_
       refine ai.nil ?_
       exact ab.any rfl (bp.le (.same rfl (.same rfl (.same rfl (.same rfl (.same rfl (.same rfl (.same rfl (.same rfl (.same rfl (.same rfl (.same rfl (.same rfl (.same rfl (.same rfl (.same rfl (.same rfl (.same rfl (.same rfl (.same rfl (.same rfl (.same rfl (.same rfl (.same rfl (.same rfl .nil)))))))))))))))))))))))) (vv ()))
     refine bp.cut (γ:=Unit) 4 (Array.mk (true :: true :: true :: true :: true :: false :: false :: false :: false :: [])) (fun yb=> [(0,I.of (J)),(1,I.of (aj)),(2,I.of (aS)),(3,I.of (cn)),(5,I.eq (.pointer (some ⟨aR,0,none⟩))),(8,I.of (false)),(9,I.of (aO)),(10,I.eq (.pointer (some ⟨a0,0,none⟩))),(16,I.of (!ak)),(28,I.of (aO.isSome && cd.eV)),(33,I.of (cS.cV.isNone)),(39,I.of (J)),(40,I.eq (.pointer (some ⟨ct,0,none⟩))),(41,I.eq (.pointer (some ⟨ct,0 + 1,none⟩))),(42,I.of (e2.cV)),(43,I.of (J)),(44,I.of (aj)),(45,I.of (aS)),(46,I.gE 255 [I.ptr bc.1,I.ptr bc.2.1,I.ptr bc.2.2]),(68,I.of (s2.1)),(69,I.of (s2.1)),(70,I.of (cn)),(71,I.eq (.pointer (some ⟨iZ,0,none⟩))),(72,I.eq (.pointer (some ⟨iZ,0 + 2,none⟩)))]) (fun yb=>(⟨some D,.db⟩ :: ⟨some a0,.var (s2.1:Ref)⟩ :: ⟨some aR,.var (aj:al)⟩ :: a3 s2.2)) (fun yb=> ?_) (fun vx=> ?_)
     ·clear h
      refine bp.step [5] (by kernel_rfl) rfl ⟨⟨_,rfl,?_⟩,trivial⟩
      ·refine ai.o4 (k':=Cell.gS ({ wi with eV:=true } :ep)) 3 rfl ((aK.id ep).comp sa) (v:=(true:Bool)) fk (ad rfl) (fD true) (lp Cp) rfl rfl rfl rfl (aH vF) ?_
       refine ai.nil ?_
       exact ab.any rfl (bp.le (.same rfl (.same rfl (.same rfl (.same rfl (.same rfl (.same rfl (.same rfl (.same rfl (.same rfl (.same rfl (.same rfl (.same rfl (.same rfl (.same rfl (.same rfl (.same rfl (.same rfl (.same rfl (.same rfl (.same rfl (.same rfl (.same rfl (.same rfl (.same rfl .nil)))))))))))))))))))))))) (vv ()))
     refine bp.cut (γ:=Unit) 5 (Array.mk (true :: false :: false :: true :: true :: true :: false :: false :: false :: [])) (fun yc=> [(0,I.of (J)),(1,I.of (aj)),(2,I.of (aS)),(3,I.of (cn)),(5,I.eq (.pointer (some ⟨aR,0,none⟩))),(8,I.of (false)),(9,I.of (aO)),(10,I.eq (.pointer (some ⟨a0,0,none⟩))),(16,I.of (!ak)),(28,I.of (aO.isSome && cd.eV)),(33,I.of (cS.cV.isNone)),(39,I.of (J)),(40,I.eq (.pointer (some ⟨ct,0,none⟩))),(41,I.eq (.pointer (some ⟨ct,0 + 1,none⟩))),(42,I.of (e2.cV)),(43,I.of (J)),(44,I.of (aj)),(45,I.of (aS)),(46,I.gE 255 [I.ptr bc.1,I.ptr bc.2.1,I.ptr bc.2.2]),(68,I.of (s2.1)),(71,I.eq (.pointer (some ⟨iZ,0,none⟩))),(72,I.eq (.pointer (some ⟨iZ,0 + 2,none⟩)))]) (fun yc=>(⟨some D,.db⟩ :: ⟨some a0,.var (s2.1:Ref)⟩ :: ⟨some aR,.var (aj:al)⟩ :: a3 eJ)) (fun yc=> ?_) (fun yC=> ?_)
     ·clear h
      refine bp.step [1,2] (by kernel_rfl) rfl ⟨⟨_,rfl,?_⟩,⟨_,rfl,?_⟩,trivial⟩
      ·refine cm 1 eX ?_
       refine ai.nil ?_
       exact ab.any rfl (bp.le (.same rfl (.same rfl (.same rfl (.same rfl (.same rfl (.same rfl (.same rfl (.same rfl (.same rfl (.same rfl (.same rfl (.same rfl (.same rfl (.same rfl (.same rfl (.same rfl (.same rfl (.same rfl (.same rfl (.same rfl (.same rfl (.same rfl (.same rfl .nil))))))))))))))))))))))) (vw ()))
      ·refine aB ?_
       refine ai.nil ?_
       exact ab.any rfl (bp.le (.same rfl (.same rfl (.same rfl (.same rfl (.same rfl (.same rfl (.same rfl (.same rfl (.same rfl (.same rfl (.same rfl (.same rfl (.same rfl (.same rfl (.same rfl (.same rfl (.same rfl (.same rfl (.same rfl (.same rfl (.same rfl (.same rfl (.same rfl .nil))))))))))))))))))))))) (yB ()))
     refine bp.cut (γ:=Unit) 5 (Array.mk (true :: false :: true :: true :: true :: false :: false :: false :: false :: [])) (fun pV=> [(0,I.of (J)),(1,I.of (aj)),(2,I.of (aS)),(3,I.of (cn)),(5,I.eq (.pointer (some ⟨aR,0,none⟩))),(8,I.of (false)),(9,I.of (aO)),(10,I.eq (.pointer (some ⟨a0,0,none⟩))),(16,I.of (!ak)),(28,I.of (aO.isSome && cd.eV)),(33,I.of (cS.cV.isNone)),(39,I.of (J)),(40,I.eq (.pointer (some ⟨ct,0,none⟩))),(41,I.eq (.pointer (some ⟨ct,0 + 1,none⟩))),(42,I.of (e2.cV)),(43,I.of (J)),(44,I.of (aj)),(45,I.of (aS)),(46,I.gE 255 [I.ptr bc.1,I.ptr bc.2.1,I.ptr bc.2.2]),(68,I.of (s2.1)),(70,I.of (cn)),(71,I.eq (.pointer (some ⟨iZ,0,none⟩))),(72,I.eq (.pointer (some ⟨iZ,0 + 2,none⟩)))]) (fun pV=>(⟨some D,.db⟩ :: ⟨some a0,.var (s2.1:Ref)⟩ :: ⟨some aR,.var (aj:al)⟩ :: a3 s2.2)) (fun pV=> ?_) (fun BP=> ?_)
     ·clear h
      refine bp.step [1,5] (by kernel_rfl) rfl ⟨⟨_,rfl,?_⟩,⟨_,rfl,?_⟩,trivial⟩
      ·refine cm 1 eX ?_
       refine ai.nil ?_
       exact ab.any rfl (bp.le (.same rfl (.same rfl (.same rfl (.same rfl (.same rfl (.same rfl (.same rfl (.same rfl (.same rfl (.same rfl (.same rfl (.same rfl (.same rfl (.same rfl (.same rfl (.same rfl (.same rfl (.same rfl (.same rfl (.same rfl (.same rfl (.same rfl (.same rfl (.same rfl .nil)))))))))))))))))))))))) (vx ()))
      ·refine ai.o4 (k':=Cell.gS ({ wi with eV:=true } :ep)) 3 rfl ((aK.id ep).comp sa) (v:=(true:Bool)) fk (ad rfl) (fD true) (lp Cp) rfl rfl rfl rfl (aH vF) ?_
       refine ai.nil ?_
       exact ab.any rfl (bp.le (.same rfl (.same rfl (.same rfl (.same rfl (.same rfl (.same rfl (.same rfl (.same rfl (.same rfl (.same rfl (.same rfl (.same rfl (.same rfl (.same rfl (.same rfl (.same rfl (.same rfl (.same rfl (.same rfl (.same rfl (.same rfl (.same rfl (.same rfl .nil))))))))))))))))))))))) (yB ()))
     refine bp.cut (γ:=Unit) 5 (Array.mk (true :: true :: false :: true :: true :: false :: false :: false :: false :: [])) (fun yd=> [(0,I.of (J)),(1,I.of (aj)),(2,I.of (aS)),(3,I.of (cn)),(5,I.eq (.pointer (some ⟨aR,0,none⟩))),(8,I.of (false)),(9,I.of (aO)),(10,I.eq (.pointer (some ⟨a0,0,none⟩))),(16,I.of (!ak)),(28,I.of (aO.isSome && cd.eV)),(33,I.of (cS.cV.isNone)),(39,I.of (J)),(40,I.eq (.pointer (some ⟨ct,0,none⟩))),(41,I.eq (.pointer (some ⟨ct,0 + 1,none⟩))),(42,I.of (e2.cV)),(43,I.of (J)),(44,I.of (aj)),(45,I.of (aS)),(46,I.gE 255 [I.ptr bc.1,I.ptr bc.2.1,I.ptr bc.2.2]),(68,I.of (s2.1)),(69,I.of (s2.1)),(71,I.eq (.pointer (some ⟨iZ,0,none⟩))),(72,I.eq (.pointer (some ⟨iZ,0 + 2,none⟩)))]) (fun yd=>(⟨some D,.db⟩ :: ⟨some a0,.var (s2.1:Ref)⟩ :: ⟨some aR,.var (aj:al)⟩ :: a3 s2.2)) (fun yd=> ?_) (fun yD=> ?_)
     ·clear h
      refine bp.step [2,5] (by kernel_rfl) rfl ⟨⟨_,rfl,?_⟩,⟨_,rfl,?_⟩,trivial⟩
      ·refine aB ?_
       refine ai.nil ?_
       exact ab.any rfl (bp.le (.same rfl (.same rfl (.same rfl (.same rfl (.same rfl (.same rfl (.same rfl (.same rfl (.same rfl (.same rfl (.same rfl (.same rfl (.same rfl (.same rfl (.same rfl (.same rfl (.same rfl (.same rfl (.same rfl (.same rfl (.same rfl (.same rfl (.same rfl (.same rfl .nil)))))))))))))))))))))))) (vx ()))
      ·refine ai.o4 (k':=Cell.gS ({ wi with eV:=true } :ep)) 3 rfl ((aK.id ep).comp sa) (v:=(true:Bool)) fk (ad rfl) (fD true) (lp Cp) rfl rfl rfl rfl (aH vF) ?_
       refine ai.nil ?_
       exact ab.any rfl (bp.le (.same rfl (.same rfl (.same rfl (.same rfl (.same rfl (.same rfl (.same rfl (.same rfl (.same rfl (.same rfl (.same rfl (.same rfl (.same rfl (.same rfl (.same rfl (.same rfl (.same rfl (.same rfl (.same rfl (.same rfl (.same rfl (.same rfl (.same rfl .nil))))))))))))))))))))))) (vw ()))
     refine bp.cut (γ:=Unit) 5 (Array.mk (true :: true :: true :: true :: false :: false :: false :: false :: false :: [])) (fun ye=> [(0,I.of (J)),(1,I.of (aj)),(2,I.of (aS)),(3,I.of (cn)),(5,I.eq (.pointer (some ⟨aR,0,none⟩))),(8,I.of (false)),(9,I.of (aO)),(10,I.eq (.pointer (some ⟨a0,0,none⟩))),(16,I.of (!ak)),(28,I.of (aO.isSome && cd.eV)),(33,I.of (cS.cV.isNone)),(39,I.of (J)),(40,I.eq (.pointer (some ⟨ct,0,none⟩))),(41,I.eq (.pointer (some ⟨ct,0 + 1,none⟩))),(42,I.of (e2.cV)),(43,I.of (J)),(44,I.of (aj)),(45,I.of (aS)),(46,I.gE 255 [I.ptr bc.1,I.ptr bc.2.1,I.ptr bc.2.2]),(68,I.of (s2.1)),(69,I.of (s2.1)),(70,I.of (cn)),(71,I.eq (.pointer (some ⟨iZ,0,none⟩)))]) (fun ye=>(⟨some D,.db⟩ :: ⟨some a0,.var (s2.1:Ref)⟩ :: ⟨some aR,.var (aj:al)⟩ :: a3 s2.2)) (fun ye=> ?_) (fun vy=> ?_)
     ·clear h
      refine bp.step [4] (by kernel_rfl) rfl ⟨⟨_,rfl,?_⟩,trivial⟩
      ·refine aT (aQ sx) ?_
       refine ai.nil ?_
       exact ab.any rfl (bp.le (.same rfl (.same rfl (.same rfl (.same rfl (.same rfl (.same rfl (.same rfl (.same rfl (.same rfl (.same rfl (.same rfl (.same rfl (.same rfl (.same rfl (.same rfl (.same rfl (.same rfl (.same rfl (.same rfl (.same rfl (.same rfl (.same rfl (.same rfl (.same rfl .nil)))))))))))))))))))))))) (vx ()))
     refine bp.cut (γ:=Unit) 6 (Array.mk (true :: false :: false :: true :: true :: false :: false :: false :: false :: [])) (fun yf=> [(0,I.of (J)),(1,I.of (aj)),(2,I.of (aS)),(3,I.of (cn)),(5,I.eq (.pointer (some ⟨aR,0,none⟩))),(8,I.of (false)),(9,I.of (aO)),(10,I.eq (.pointer (some ⟨a0,0,none⟩))),(16,I.of (!ak)),(28,I.of (aO.isSome && cd.eV)),(33,I.of (cS.cV.isNone)),(39,I.of (J)),(40,I.eq (.pointer (some ⟨ct,0,none⟩))),(41,I.eq (.pointer (some ⟨ct,0 + 1,none⟩))),(42,I.of (e2.cV)),(43,I.of (J)),(44,I.of (aj)),(45,I.of (aS)),(46,I.gE 255 [I.ptr bc.1,I.ptr bc.2.1,I.ptr bc.2.2]),(68,I.of (s2.1)),(71,I.eq (.pointer (some ⟨iZ,0,none⟩))),(72,I.eq (.pointer (some ⟨iZ,0 + 2,none⟩)))]) (fun yf=>(⟨some D,.db⟩ :: ⟨some a0,.var (s2.1:Ref)⟩ :: ⟨some aR,.var (aj:al)⟩ :: a3 s2.2)) (fun yf=> ?_) (fun yE=> ?_)
     ·clear h
      refine bp.step [1,2,5] (by kernel_rfl) rfl ⟨⟨_,rfl,?_⟩,⟨_,rfl,?_⟩,⟨_,rfl,?_⟩,trivial⟩
      ·refine cm 1 eX ?_
       refine ai.nil ?_
       exact ab.any rfl (bp.le (.same rfl (.same rfl (.same rfl (.same rfl (.same rfl (.same rfl (.same rfl (.same rfl (.same rfl (.same rfl (.same rfl (.same rfl (.same rfl (.same rfl (.same rfl (.same rfl (.same rfl (.same rfl (.same rfl (.same rfl (.same rfl (.same rfl (.same rfl .nil))))))))))))))))))))))) (yD ()))
      ·refine aB ?_
       refine ai.nil ?_
       exact ab.any rfl (bp.le (.same rfl (.same rfl (.same rfl (.same rfl (.same rfl (.same rfl (.same rfl (.same rfl (.same rfl (.same rfl (.same rfl (.same rfl (.same rfl (.same rfl (.same rfl (.same rfl (.same rfl (.same rfl (.same rfl (.same rfl (.same rfl (.same rfl (.same rfl .nil))))))))))))))))))))))) (BP ()))
      ·refine ai.o4 (k':=Cell.gS ({ wi with eV:=true } :ep)) 3 rfl ((aK.id ep).comp sa) (v:=(true:Bool)) fk (ad rfl) (fD true) (lp Cp) rfl rfl rfl rfl (aH vF) ?_
       refine ai.nil ?_
       exact ab.any rfl (bp.le (.same rfl (.same rfl (.same rfl (.same rfl (.same rfl (.same rfl (.same rfl (.same rfl (.same rfl (.same rfl (.same rfl (.same rfl (.same rfl (.same rfl (.same rfl (.same rfl (.same rfl (.same rfl (.same rfl (.same rfl (.same rfl (.same rfl .nil)))))))))))))))))))))) (yC ()))
     refine bp.cut (γ:=Unit) 6 (Array.mk (true :: false :: true :: true :: false :: false :: false :: false :: false :: [])) (fun yg=> [(0,I.of (J)),(1,I.of (aj)),(2,I.of (aS)),(3,I.of (cn)),(5,I.eq (.pointer (some ⟨aR,0,none⟩))),(8,I.of (false)),(9,I.of (aO)),(10,I.eq (.pointer (some ⟨a0,0,none⟩))),(16,I.of (!ak)),(28,I.of (aO.isSome && cd.eV)),(33,I.of (cS.cV.isNone)),(39,I.of (J)),(40,I.eq (.pointer (some ⟨ct,0,none⟩))),(41,I.eq (.pointer (some ⟨ct,0 + 1,none⟩))),(42,I.of (e2.cV)),(43,I.of (J)),(44,I.of (aj)),(45,I.of (aS)),(46,I.gE 255 [I.ptr bc.1,I.ptr bc.2.1,I.ptr bc.2.2]),(68,I.of (s2.1)),(70,I.of (cn)),(71,I.eq (.pointer (some ⟨iZ,0,none⟩)))]) (fun yg=>(⟨some D,.db⟩ :: ⟨some a0,.var (s2.1:Ref)⟩ :: ⟨some aR,.var (aj:al)⟩ :: a3 s2.2)) (fun yg=> ?_) (fun yF=> ?_)
     ·clear h
      refine bp.step [1,4] (by kernel_rfl) rfl ⟨⟨_,rfl,?_⟩,⟨_,rfl,?_⟩,trivial⟩
      ·refine cm 1 eX ?_
       refine ai.nil ?_
       exact ab.any rfl (bp.le (.same rfl (.same rfl (.same rfl (.same rfl (.same rfl (.same rfl (.same rfl (.same rfl (.same rfl (.same rfl (.same rfl (.same rfl (.same rfl (.same rfl (.same rfl (.same rfl (.same rfl (.same rfl (.same rfl (.same rfl (.same rfl (.same rfl (.same rfl .nil))))))))))))))))))))))) (vy ()))
      ·refine aT (aQ sx) ?_
       refine ai.nil ?_
       exact ab.any rfl (bp.le (.same rfl (.same rfl (.same rfl (.same rfl (.same rfl (.same rfl (.same rfl (.same rfl (.same rfl (.same rfl (.same rfl (.same rfl (.same rfl (.same rfl (.same rfl (.same rfl (.same rfl (.same rfl (.same rfl (.same rfl (.same rfl (.same rfl (.same rfl .nil))))))))))))))))))))))) (BP ()))
     refine bp.cut (γ:=Unit) 6 (Array.mk (true :: true :: false :: true :: false :: false :: false :: false :: false :: [])) (fun yG=> [(0,I.of (J)),(1,I.of (aj)),(2,I.of (aS)),(3,I.of (cn)),(5,I.eq (.pointer (some ⟨aR,0,none⟩))),(8,I.of (false)),(9,I.of (aO)),(10,I.eq (.pointer (some ⟨a0,0,none⟩))),(16,I.of (!ak)),(28,I.of (aO.isSome && cd.eV)),(33,I.of (cS.cV.isNone)),(39,I.of (J)),(40,I.eq (.pointer (some ⟨ct,0,none⟩))),(41,I.eq (.pointer (some ⟨ct,0 + 1,none⟩))),(42,I.of (e2.cV)),(43,I.of (J)),(44,I.of (aj)),(45,I.of (aS)),(46,I.gE 255 [I.ptr bc.1,I.ptr bc.2.1,I.ptr bc.2.2]),(68,I.of (s2.1)),(69,I.of (s2.1)),(71,I.eq (.pointer (some ⟨iZ,0,none⟩)))]) (fun yG=>(⟨some D,.db⟩ :: ⟨some a0,.var (s2.1:Ref)⟩ :: ⟨some aR,.var (aj:al)⟩ :: a3 s2.2)) (fun yG=> ?_) (fun zb=> ?_)
     ·clear h
      refine bp.step [2,4] (by kernel_rfl) rfl ⟨⟨_,rfl,?_⟩,⟨_,rfl,?_⟩,trivial⟩
      ·refine aB ?_
       refine ai.nil ?_
       exact ab.any rfl (bp.le (.same rfl (.same rfl (.same rfl (.same rfl (.same rfl (.same rfl (.same rfl (.same rfl (.same rfl (.same rfl (.same rfl (.same rfl (.same rfl (.same rfl (.same rfl (.same rfl (.same rfl (.same rfl (.same rfl (.same rfl (.same rfl (.same rfl (.same rfl .nil))))))))))))))))))))))) (vy ()))
      ·refine aT (aQ sx) ?_
       refine ai.nil ?_
       exact ab.any rfl (bp.le (.same rfl (.same rfl (.same rfl (.same rfl (.same rfl (.same rfl (.same rfl (.same rfl (.same rfl (.same rfl (.same rfl (.same rfl (.same rfl (.same rfl (.same rfl (.same rfl (.same rfl (.same rfl (.same rfl (.same rfl (.same rfl (.same rfl (.same rfl .nil))))))))))))))))))))))) (yD ()))
     refine bp.cut (γ:=Unit) 6 (Array.mk (true :: true :: true :: false :: false :: false :: false :: false :: false :: [])) (fun yH=> [(0,I.of (J)),(1,I.of (aj)),(2,I.of (aS)),(3,I.of (cn)),(5,I.eq (.pointer (some ⟨aR,0,none⟩))),(8,I.of (false)),(9,I.of (aO)),(10,I.eq (.pointer (some ⟨a0,0,none⟩))),(16,I.of (!ak)),(28,I.of (aO.isSome && cd.eV)),(33,I.of (cS.cV.isNone)),(39,I.of (J)),(40,I.eq (.pointer (some ⟨ct,0,none⟩))),(41,I.eq (.pointer (some ⟨ct,0 + 1,none⟩))),(42,I.of (e2.cV)),(43,I.of (J)),(44,I.of (aj)),(45,I.of (aS)),(46,I.gE 255 [I.ptr bc.1,I.ptr bc.2.1,I.ptr bc.2.2]),(68,I.of (s2.1)),(69,I.of (s2.1)),(70,I.of (cn))]) (fun yH=>(⟨some D,.db⟩ :: ⟨some a0,.var (s2.1:Ref)⟩ :: ⟨some aR,.var (aj:al)⟩ :: a3 s2.2)) (fun yH=> ?_) (fun zc=> ?_)
     ·clear h
      refine bp.step [3] (by kernel_rfl) rfl ⟨⟨_,rfl,?_⟩,trivial⟩
      ·refine bj (eI (fv (ad rfl) Co)) ?_
       refine ai.nil ?_
       exact ab.any rfl (bp.le (.same rfl (.same rfl (.same rfl (.same rfl (.same rfl (.same rfl (.same rfl (.same rfl (.same rfl (.same rfl (.same rfl (.same rfl (.same rfl (.same rfl (.same rfl (.same rfl (.same rfl (.same rfl (.same rfl (.same rfl (.same rfl (.same rfl (.same rfl .nil))))))))))))))))))))))) (vy ()))
     refine bp.cut (γ:=Unit) 7 (Array.mk (false :: true :: true :: false :: false :: false :: false :: false :: false :: [])) (fun yI=> [(0,I.of (J)),(1,I.of (aj)),(2,I.of (aS)),(3,I.of (cn)),(5,I.eq (.pointer (some ⟨aR,0,none⟩))),(8,I.of (false)),(9,I.of (aO)),(10,I.eq (.pointer (some ⟨a0,0,none⟩))),(16,I.of (!ak)),(28,I.of (aO.isSome && cd.eV)),(33,I.of (cS.cV.isNone)),(39,I.of (J)),(40,I.eq (.pointer (some ⟨ct,0,none⟩))),(41,I.eq (.pointer (some ⟨ct,0 + 1,none⟩))),(42,I.of (e2.cV)),(43,I.of (J)),(44,I.of (aj)),(45,I.of (aS)),(46,I.gE 255 [I.ptr bc.1,I.ptr bc.2.1,I.ptr bc.2.2]),(69,I.of (s2.1)),(70,I.of (cn))]) (fun yI=>(⟨some D,.db⟩ :: ⟨some a0,.var (s2.1:Ref)⟩ :: ⟨some aR,.var (aj:al)⟩ :: a3 s2.2)) (fun yI=> ?_) (fun zd=> ?_)
     ·clear h
      refine bp.step [0] (by kernel_rfl) rfl ⟨⟨_,rfl,?_⟩,trivial⟩
      ·refine cm 1 eX ?_
       refine ai.nil ?_
       exact ab.any rfl (bp.le (.same rfl (.same rfl (.same rfl (.same rfl (.same rfl (.same rfl (.same rfl (.same rfl (.same rfl (.same rfl (.same rfl (.same rfl (.same rfl (.same rfl (.same rfl (.same rfl (.same rfl (.same rfl (.same rfl (.same rfl (.same rfl (.same rfl .nil)))))))))))))))))))))) (zc ()))
     refine bp.cut (γ:=Unit) 7 (Array.mk (true :: false :: false :: true :: false :: false :: false :: false :: false :: [])) (fun yJ=> [(0,I.of (J)),(1,I.of (aj)),(2,I.of (aS)),(3,I.of (cn)),(5,I.eq (.pointer (some ⟨aR,0,none⟩))),(8,I.of (false)),(9,I.of (aO)),(10,I.eq (.pointer (some ⟨a0,0,none⟩))),(16,I.of (!ak)),(28,I.of (aO.isSome && cd.eV)),(33,I.of (cS.cV.isNone)),(39,I.of (J)),(40,I.eq (.pointer (some ⟨ct,0,none⟩))),(41,I.eq (.pointer (some ⟨ct,0 + 1,none⟩))),(42,I.of (e2.cV)),(43,I.of (J)),(44,I.of (aj)),(45,I.of (aS)),(46,I.gE 255 [I.ptr bc.1,I.ptr bc.2.1,I.ptr bc.2.2]),(68,I.of (s2.1)),(71,I.eq (.pointer (some ⟨iZ,0,none⟩)))]) (fun yJ=>(⟨some D,.db⟩ :: ⟨some a0,.var (s2.1:Ref)⟩ :: ⟨some aR,.var (aj:al)⟩ :: a3 s2.2)) (fun yJ=> ?_) (fun B2=> ?_)
     ·clear h
      refine bp.step [1,2,4] (by kernel_rfl) rfl ⟨⟨_,rfl,?_⟩,⟨_,rfl,?_⟩,⟨_,rfl,?_⟩,trivial⟩
      ·refine cm 1 eX ?_
       refine ai.nil ?_
       exact ab.any rfl (bp.le (.same rfl (.same rfl (.same rfl (.same rfl (.same rfl (.same rfl (.same rfl (.same rfl (.same rfl (.same rfl (.same rfl (.same rfl (.same rfl (.same rfl (.same rfl (.same rfl (.same rfl (.same rfl (.same rfl (.same rfl (.same rfl (.same rfl .nil)))))))))))))))))))))) (zb ()))
      ·refine aB ?_
       refine ai.nil ?_
       exact ab.any rfl (bp.le (.same rfl (.same rfl (.same rfl (.same rfl (.same rfl (.same rfl (.same rfl (.same rfl (.same rfl (.same rfl (.same rfl (.same rfl (.same rfl (.same rfl (.same rfl (.same rfl (.same rfl (.same rfl (.same rfl (.same rfl (.same rfl (.same rfl .nil)))))))))))))))))))))) (yF ()))
      ·refine aT (aQ sx) ?_
       refine ai.nil ?_
       exact ab.any rfl (bp.le (.same rfl (.same rfl (.same rfl (.same rfl (.same rfl (.same rfl (.same rfl (.same rfl (.same rfl (.same rfl (.same rfl (.same rfl (.same rfl (.same rfl (.same rfl (.same rfl (.same rfl (.same rfl (.same rfl (.same rfl (.same rfl (.same rfl .nil)))))))))))))))))))))) (yE ()))
     refine bp.cut (γ:=Unit) 7 (Array.mk (true :: false :: true :: false :: false :: false :: false :: false :: false :: [])) (fun yK=> [(0,I.of (J)),(1,I.of (aj)),(2,I.of (aS)),(3,I.of (cn)),(5,I.eq (.pointer (some ⟨aR,0,none⟩))),(8,I.of (false)),(9,I.of (aO)),(10,I.eq (.pointer (some ⟨a0,0,none⟩))),(16,I.of (!ak)),(28,I.of (aO.isSome && cd.eV)),(33,I.of (cS.cV.isNone)),(39,I.of (J)),(40,I.eq (.pointer (some ⟨ct,0,none⟩))),(41,I.eq (.pointer (some ⟨ct,0 + 1,none⟩))),(42,I.of (e2.cV)),(43,I.of (J)),(44,I.of (aj)),(45,I.of (aS)),(46,I.gE 255 [I.ptr bc.1,I.ptr bc.2.1,I.ptr bc.2.2]),(68,I.of (s2.1)),(70,I.of (cn))]) (fun yK=>(⟨some D,.db⟩ :: ⟨some a0,.var (s2.1:Ref)⟩ :: ⟨some aR,.var (aj:al)⟩ :: a3 s2.2)) (fun yK=> ?_) (fun ze=> ?_)
     ·clear h
      refine bp.step [1,3] (by kernel_rfl) rfl ⟨⟨_,rfl,?_⟩,⟨_,rfl,?_⟩,trivial⟩
      ·refine cm 1 eX ?_
       refine ai.nil ?_
       exact ab.any rfl (bp.le (.same rfl (.same rfl (.same rfl (.same rfl (.same rfl (.same rfl (.same rfl (.same rfl (.same rfl (.same rfl (.same rfl (.same rfl (.same rfl (.same rfl (.same rfl (.same rfl (.same rfl (.same rfl (.same rfl (.same rfl (.same rfl (.same rfl .nil)))))))))))))))))))))) (zc ()))
      ·refine bj (eI (fv (ad rfl) Co)) ?_
       refine ai.nil ?_
       exact ab.any rfl (bp.le (.same rfl (.same rfl (.same rfl (.same rfl (.same rfl (.same rfl (.same rfl (.same rfl (.same rfl (.same rfl (.same rfl (.same rfl (.same rfl (.same rfl (.same rfl (.same rfl (.same rfl (.same rfl (.same rfl (.same rfl (.same rfl (.same rfl .nil)))))))))))))))))))))) (yF ()))
     refine bp.cut (γ:=Unit) 7 (Array.mk (true :: true :: false :: false :: false :: false :: false :: false :: false :: [])) (fun yL=> [(0,I.of (J)),(1,I.of (aj)),(2,I.of (aS)),(3,I.of (cn)),(5,I.eq (.pointer (some ⟨aR,0,none⟩))),(8,I.of (false)),(9,I.of (aO)),(10,I.eq (.pointer (some ⟨a0,0,none⟩))),(16,I.of (!ak)),(28,I.of (aO.isSome && cd.eV)),(33,I.of (cS.cV.isNone)),(39,I.of (J)),(40,I.eq (.pointer (some ⟨ct,0,none⟩))),(41,I.eq (.pointer (some ⟨ct,0 + 1,none⟩))),(42,I.of (e2.cV)),(43,I.of (J)),(44,I.of (aj)),(45,I.of (aS)),(46,I.gE 255 [I.ptr bc.1,I.ptr bc.2.1,I.ptr bc.2.2]),(68,I.of (s2.1)),(69,I.of (s2.1))]) (fun yL=>(⟨some D,.db⟩ :: ⟨some a0,.var (s2.1:Ref)⟩ :: ⟨some aR,.var (aj:al)⟩ :: a3 s2.2)) (fun yL=> ?_) (fun B3=> ?_)
     ·clear h
      refine bp.step [2,3] (by kernel_rfl) rfl ⟨⟨_,rfl,?_⟩,⟨_,rfl,?_⟩,trivial⟩
      ·refine aB ?_
       refine ai.nil ?_
       exact ab.any rfl (bp.le (.same rfl (.same rfl (.same rfl (.same rfl (.same rfl (.same rfl (.same rfl (.same rfl (.same rfl (.same rfl (.same rfl (.same rfl (.same rfl (.same rfl (.same rfl (.same rfl (.same rfl (.same rfl (.same rfl (.same rfl (.same rfl (.same rfl .nil)))))))))))))))))))))) (zc ()))
      ·refine bj (eI (fv (ad rfl) Co)) ?_
       refine ai.nil ?_
       exact ab.any rfl (bp.le (.same rfl (.same rfl (.same rfl (.same rfl (.same rfl (.same rfl (.same rfl (.same rfl (.same rfl (.same rfl (.same rfl (.same rfl (.same rfl (.same rfl (.same rfl (.same rfl (.same rfl (.same rfl (.same rfl (.same rfl (.same rfl (.same rfl .nil)))))))))))))))))))))) (zb ()))
     refine bp.cut (γ:=Unit) 8 (Array.mk (false :: false :: true :: false :: false :: false :: false :: false :: false :: [])) (fun yM=> [(0,I.of (J)),(1,I.of (aj)),(2,I.of (aS)),(3,I.of (cn)),(5,I.eq (.pointer (some ⟨aR,0,none⟩))),(8,I.of (false)),(9,I.of (aO)),(10,I.eq (.pointer (some ⟨a0,0,none⟩))),(16,I.of (!ak)),(28,I.of (aO.isSome && cd.eV)),(33,I.of (cS.cV.isNone)),(39,I.of (J)),(40,I.eq (.pointer (some ⟨ct,0,none⟩))),(41,I.eq (.pointer (some ⟨ct,0 + 1,none⟩))),(42,I.of (e2.cV)),(43,I.of (J)),(44,I.of (aj)),(45,I.of (aS)),(46,I.gE 255 [I.ptr bc.1,I.ptr bc.2.1,I.ptr bc.2.2]),(70,I.of (cn))]) (fun yM=>(⟨some D,.db⟩ :: ⟨some a0,.var (s2.1:Ref)⟩ :: ⟨some aR,.var (aj:al)⟩ :: a3 s2.2)) (fun yM=> ?_) (fun Fx=> ?_)
     ·clear h
      refine bp.step [0,1] (by kernel_rfl) rfl ⟨⟨_,rfl,?_⟩,⟨_,rfl,?_⟩,trivial⟩
      ·refine cm 1 eX ?_
       refine ai.nil ?_
       exact ab.any rfl (bp.le (.same rfl (.same rfl (.same rfl (.same rfl (.same rfl (.same rfl (.same rfl (.same rfl (.same rfl (.same rfl (.same rfl (.same rfl (.same rfl (.same rfl (.same rfl (.same rfl (.same rfl (.same rfl (.same rfl (.same rfl (.same rfl .nil))))))))))))))))))))) (ze ()))
      ·refine cm 1 eX ?_
       refine ai.nil ?_
       exact ab.any rfl (bp.le (.same rfl (.same rfl (.same rfl (.same rfl (.same rfl (.same rfl (.same rfl (.same rfl (.same rfl (.same rfl (.same rfl (.same rfl (.same rfl (.same rfl (.same rfl (.same rfl (.same rfl (.same rfl (.same rfl (.same rfl (.same rfl .nil))))))))))))))))))))) (zd ()))
     refine bp.cut (γ:=Unit) 8 (Array.mk (false :: true :: false :: false :: false :: false :: false :: false :: false :: [])) (fun yN=> [(0,I.of (J)),(1,I.of (aj)),(2,I.of (aS)),(3,I.of (cn)),(5,I.eq (.pointer (some ⟨aR,0,none⟩))),(8,I.of (false)),(9,I.of (aO)),(10,I.eq (.pointer (some ⟨a0,0,none⟩))),(16,I.of (!ak)),(28,I.of (aO.isSome && cd.eV)),(33,I.of (cS.cV.isNone)),(39,I.of (J)),(40,I.eq (.pointer (some ⟨ct,0,none⟩))),(41,I.eq (.pointer (some ⟨ct,0 + 1,none⟩))),(42,I.of (e2.cV)),(43,I.of (J)),(44,I.of (aj)),(45,I.of (aS)),(46,I.gE 255 [I.ptr bc.1,I.ptr bc.2.1,I.ptr bc.2.2]),(69,I.of (s2.1))]) (fun yN=>(⟨some D,.db⟩ :: ⟨some a0,.var (s2.1:Ref)⟩ :: ⟨some aR,.var (aj:al)⟩ :: a3 s2.2)) (fun yN=> ?_) (fun Fy=> ?_)
     ·clear h
      refine bp.step [0,2] (by kernel_rfl) rfl ⟨⟨_,rfl,?_⟩,⟨_,rfl,?_⟩,trivial⟩
      ·refine cm 1 eX ?_
       refine ai.nil ?_
       exact ab.any rfl (bp.le (.same rfl (.same rfl (.same rfl (.same rfl (.same rfl (.same rfl (.same rfl (.same rfl (.same rfl (.same rfl (.same rfl (.same rfl (.same rfl (.same rfl (.same rfl (.same rfl (.same rfl (.same rfl (.same rfl (.same rfl (.same rfl .nil))))))))))))))))))))) (B3 ()))
      ·refine aB ?_
       refine ai.nil ?_
       exact ab.any rfl (bp.le (.same rfl (.same rfl (.same rfl (.same rfl (.same rfl (.same rfl (.same rfl (.same rfl (.same rfl (.same rfl (.same rfl (.same rfl (.same rfl (.same rfl (.same rfl (.same rfl (.same rfl (.same rfl (.same rfl (.same rfl (.same rfl .nil))))))))))))))))))))) (zd ()))
     refine bp.cut (γ:=Unit) 8 (Array.mk (true :: false :: false :: false :: false :: false :: false :: false :: false :: [])) (fun yO=> [(0,I.of (J)),(1,I.of (aj)),(2,I.of (aS)),(3,I.of (cn)),(5,I.eq (.pointer (some ⟨aR,0,none⟩))),(8,I.of (false)),(9,I.of (aO)),(10,I.eq (.pointer (some ⟨a0,0,none⟩))),(16,I.of (!ak)),(28,I.of (aO.isSome && cd.eV)),(33,I.of (cS.cV.isNone)),(39,I.of (J)),(40,I.eq (.pointer (some ⟨ct,0,none⟩))),(41,I.eq (.pointer (some ⟨ct,0 + 1,none⟩))),(42,I.of (e2.cV)),(43,I.of (J)),(44,I.of (aj)),(45,I.of (aS)),(46,I.gE 255 [I.ptr bc.1,I.ptr bc.2.1,I.ptr bc.2.2]),(68,I.of (s2.1))]) (fun yO=>(⟨some D,.db⟩ :: ⟨some a0,.var (s2.1:Ref)⟩ :: ⟨some aR,.var (aj:al)⟩ :: a3 s2.2)) (fun yO=> ?_) (fun Fz=> ?_)
     ·clear h
      refine bp.step [1,2,3] (by kernel_rfl) rfl ⟨⟨_,rfl,?_⟩,⟨_,rfl,?_⟩,⟨_,rfl,?_⟩,trivial⟩
      ·refine cm 1 eX ?_
       refine ai.nil ?_
       exact ab.any rfl (bp.le (.same rfl (.same rfl (.same rfl (.same rfl (.same rfl (.same rfl (.same rfl (.same rfl (.same rfl (.same rfl (.same rfl (.same rfl (.same rfl (.same rfl (.same rfl (.same rfl (.same rfl (.same rfl (.same rfl (.same rfl (.same rfl .nil))))))))))))))))))))) (B3 ()))
      ·refine aB ?_
       refine ai.nil ?_
       exact ab.any rfl (bp.le (.same rfl (.same rfl (.same rfl (.same rfl (.same rfl (.same rfl (.same rfl (.same rfl (.same rfl (.same rfl (.same rfl (.same rfl (.same rfl (.same rfl (.same rfl (.same rfl (.same rfl (.same rfl (.same rfl (.same rfl (.same rfl .nil))))))))))))))))))))) (ze ()))
      ·refine bj (eI (fv (ad rfl) Co)) ?_
       refine ai.nil ?_
       exact ab.any rfl (bp.le (.same rfl (.same rfl (.same rfl (.same rfl (.same rfl (.same rfl (.same rfl (.same rfl (.same rfl (.same rfl (.same rfl (.same rfl (.same rfl (.same rfl (.same rfl (.same rfl (.same rfl (.same rfl (.same rfl (.same rfl (.same rfl .nil))))))))))))))))))))) (B2 ()))
     refine bp.step [0,1,2] (by kernel_rfl) rfl ⟨⟨_,rfl,?_⟩,⟨_,rfl,?_⟩,⟨_,rfl,?_⟩,trivial⟩
     ·refine cm 1 eX ?_
      refine ai.nil ?_
      exact ab.any rfl (bp.le (.same rfl (.same rfl (.same rfl (.same rfl (.same rfl (.same rfl (.same rfl (.same rfl (.same rfl (.same rfl (.same rfl (.same rfl (.same rfl (.same rfl (.same rfl (.same rfl (.same rfl (.same rfl (.same rfl (.same rfl .nil)))))))))))))))))))) (Fz ()))
     ·refine cm 1 eX ?_
      refine ai.nil ?_
      exact ab.any rfl (bp.le (.same rfl (.same rfl (.same rfl (.same rfl (.same rfl (.same rfl (.same rfl (.same rfl (.same rfl (.same rfl (.same rfl (.same rfl (.same rfl (.same rfl (.same rfl (.same rfl (.same rfl (.same rfl (.same rfl (.same rfl .nil)))))))))))))))))))) (Fy ()))
     ·refine aB ?_
      refine ai.nil ?_
      exact ab.any rfl (bp.le (.same rfl (.same rfl (.same rfl (.same rfl (.same rfl (.same rfl (.same rfl (.same rfl (.same rfl (.same rfl (.same rfl (.same rfl (.same rfl (.same rfl (.same rfl (.same rfl (.same rfl (.same rfl (.same rfl (.same rfl .nil)))))))))))))))))))) (Fx ()))
    ·exact Empty.elim c6
   ·refine ag.cj ?_
    refine aB ?_
    refine ho K5 K6 (default:ep) .nil ?_
    refine ai.yZ 1 rfl (Cell.gS (default:ep)) (fun _=>rfl) (ad rfl) rfl fun ef zr=> ?_
    replace h:=aC.q3 h ef zr
    refine bj (eI (fv (ad rfl) fQ)) ?_
    refine aT (aQ xV) ?_
    obtain⟨z7,Cq,h⟩:=aC.cJ h
    obtain⟨zt,UA,h⟩:=aC.cJ h
    refine ai.o4 (k':=Cell.jB ({ z7 with cV:=(some ef.1:Ref) } :fM)) 1 rfl ((aK.id fM).comp w1) (v:=((some ef.1:Ref):Ref)) eX (ad rfl) (ad rfl) (nG Cq) rfl rfl rfl rfl (aH UA) ?_
    refine ai.nil ?_
    exact df 0 (hm zt () h)
   ·refine ag.skip ?_
    exact df 0 (hm hp () h)
end Go.Proofs.YtmnggbjcnoffeaaGreat
