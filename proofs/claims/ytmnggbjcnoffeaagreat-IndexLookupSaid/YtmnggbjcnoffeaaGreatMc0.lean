/-
  Each function meets its functional program. Conditions: none.
-/
import Derived.Test.YtmnggbjcnoffeaaGreatMd
namespace Go.Proofs.YtmnggbjcnoffeaaGreat
open Go Gv
set_option linter.unusedVariables false
set_option linter.unusedSimpArgs false
set_option maxRecDepth 100000
set_option maxHeartbeats 2000000
theorem Ds {J:List (BitVec 8)} {aj:Int} {r:bk} (h:sj J aj=some r):cf Tryz.prog 15 [I.of (J),I.of (aj)] [] (δ:=Nat) (fun d=>I.eq (.pointer (some ⟨d,0,none⟩))) (fun d=> [⟨some d,.var (r:bk)⟩]):=by
 unfold sj at h
 refine cf.of Tryz.func15 rfl Tryz.ntmps15 rfl fun W A=> ?_
 refine aA ?_
 refine bj (eW (Ex (.pointer none))) ?_
 refine b2 ?_
 refine aB ?_
 refine aB ?_
 refine aT (ej Tryz.underlying22) ?_
 refine aB ?_
 refine bd vl ?_
 obtain⟨ak,bt,h⟩:=ay h
 refine bj (D4 Tryz.underlying22 FP (ad rfl) .none (.some (ad rfl)) bt) ?_
 refine ho Sf Sg ({ (default:bk) with cb:=ak } :bk) (h4 AP .nil) ?_
 refine b8 fun aR=> ?_
 refine aM ?_
 refine aI ?_
 refine ag.ret ?_
 refine ab.bI 0 rfl ?_
 obtain rfl:=aH h
 exact mS aR
theorem N7 {J:bk} {b6:Nat} {r:Bool} (h:AQ J=some r):cf Tryz.prog 26 [I.eq (.pointer (some ⟨b6,0,none⟩))] [⟨some b6,.var (J:bk)⟩] (δ:=Unit) (fun d=>I.of (r)) (fun d=> [⟨some b6,.var (J:bk)⟩]):=by
 unfold AQ at h
 refine cf.of Tryz.func26 rfl Tryz.ntmps26 rfl fun W A=> ?_
 refine aA ?_
 refine aM ?_
 refine bK ?_
 refine ag.draw mixed 10 [some 3,some 4,some 5,some 6,some 7,some 8,some 9,some 10,some 11,some 12] [[],[0],[1],[2],[],[4],[5],[6],[7],[3,8]] [.val _,.val _,.val _,.val _,.val _,.val _,.val _,.val _,.val _,.val _] [false,false,false,false,false,false,false,false,false,false] (by kernel_rfl) rfl rfl rfl (fun c1=>⟨c3,H1 eI,H1 (aQ xS),dI 0 wU bo,c3,H1 eI,H1 (aQ D5),dI 0 AP BV,H1 (ej Tryz.underlying22),iq dJ,trivial⟩) fun c1=> ?_
 refine aM ?_
 refine aI ?_
 refine ag.ret ?_
 refine ab.bI 0 rfl ?_
 obtain rfl:=aH h
 exact mS ()
theorem Ib {J:Int} {aj:Int} {r:Int} (h:qT J aj=some r):bE Tryz.prog 25 [I.of (J),I.of (aj)] (I.of (r)):=by
 unfold qT at h
 refine bE.of Tryz.func25 rfl Tryz.ntmps25 rfl fun W A=> ?_
 refine aA ?_
 refine aM ?_
 refine bK ?_
 refine aA ?_
 refine aB ?_
 refine bd dJ ?_
 refine aI ?_
 refine b4 h (fun h=>?_) fun h=>?_
 ·refine aA ?_
  refine aM ?_
  refine aI ?_
  refine ag.ret ?_
  refine ab.ret ?_
  obtain rfl:=aH h
  exact cv
 ·refine cP ?_
  refine aA ?_
  refine aB ?_
  refine aB ?_
  obtain⟨ak,bt,h⟩:=ay h
  refine bj (EU (ad rfl) (ad rfl) (DE bt)) ?_
  refine aB ?_
  refine bd c8 ?_
  refine aB ?_
  obtain⟨aO,cq,h⟩:=ay h
  refine bj (EU (ad rfl) (ad rfl) (DE cq)) ?_
  refine aM ?_
  refine aI ?_
  refine ag.ret ?_
  obtain rfl:=aH h
  exact cv
theorem NU {J:bN} {aj:Int} {r:Bool} (h:AH J aj=some r):bE Tryz.prog 119 [I.of (J),I.ptr aj] (I.of (r)):=by
 unfold AH at h
 refine bE.of Tryz.func119 rfl Tryz.ntmps119 rfl fun W A=> ?_
 refine aA ?_
 refine b8 fun aR=> ?_
 refine aM ?_
 refine b2 ?_
 refine aT (aQ sC) ?_
 refine bL 0 n4 bo ?_
 refine aT (c7 bo) ?_
 refine bd fz ?_
 refine aM ?_
 refine aI ?_
 refine ag.ret ?_
 obtain rfl:=aH h
 exact cv
theorem Nn {J:List bN} {aj:bN→Option Bool} {r:Int} (h:wz J aj=some r):bE Tryz.prog 118 [I.of (J),I.th Tryz.prog aj] (I.of (r)):=by
 unfold wz at h
 refine bE.of Tryz.func118 rfl Tryz.ntmps118 rfl fun W A=> ?_
 refine aA ?_
 refine aM ?_
 refine bK ?_
 refine aA ?_
 refine aB ?_
 refine aT (ej Tryz.underlying28) ?_
 refine aB ?_
 refine aI ?_
 refine ag.block ?_
 obtain⟨av,an,h⟩:=ay h
 refine gj (γ:=Unit) (δ:=Unit) an [0,1,7] (fun s1 aw=> [(4,I.of (0:Int)),(8,I.of (s1))]) (fun s1 aw=> []) (fun az=>Sum.elim (fun az=>Exit.exit 0) (fun az=>Exit.ret) az) (fun az aw=>Sum.elim (fun az=> [(4,I.of (0:Int)),(8,I.of (az.1)),(9,I.of (az.2))]) (fun az=> [(4,I.of (az.1)),(5,I.of (az.2.1)),(8,I.of (az.2.2.1)),(9,I.of (az.2.2.2.1)),(16,I.of (az.2.2.2.2))]) az) (fun az aw=>Sum.elim (fun az=> []) (fun az=> []) az) () (fun s1 r h aw=> ?_) fun aw=> ?_
 ·clear an
  refine aA ?_
  refine bd dJ ?_
  refine bK ?_
  refine b4 h (fun h=>?_) fun h=>?_
  ·refine cP ?_
   refine ag.seq ?_
   refine ag.block ?_
   refine aA ?_
   refine aB ?_
   refine aM ?_
   refine b2 ?_
   refine aB ?_
   refine aB ?_
   refine aB ?_
   obtain⟨aW,cc,h⟩:=ay h
   refine gk cc Tryz.underlying28 fG ?_
   refine aT (c7 fG) ?_
   obtain⟨ak,bt,h⟩:=ay h
   refine bj (Be (ad rfl) (ad rfl) bt) ?_
   refine aI ?_
   refine b4 h (fun h=>?_) fun h=>?_
   ·refine aA ?_
    refine aB ?_
    refine aM ?_
    refine aI ?_
    refine ag.ret ?_
    refine ab.c5 ?_
    refine ab.ret ?_
    obtain rfl:=aH h
    exact dE () 0
   ·refine ag.skip ?_
    refine ab.dz ?_
    refine ab.next ?_
    refine ag.cj ?_
    refine bd c8 ?_
    refine aB ?_
    refine ai.nil ?_
    obtain rfl:=aH h
    exact fe () 0
  ·refine ag.exit ?_
   refine ab.exit ?_
   obtain rfl:=aH h
   exact dE () 0
 ·clear an
  rcases av with av | av
  ·simp only [Sum.elim_inl] at h
   refine ab.e4 ?_
   refine ab.next ?_
   refine aA ?_
   refine aM ?_
   refine aI ?_
   refine ag.ret ?_
   obtain rfl:=aH h
   exact cv
  ·simp only [Sum.elim_inr] at h
   refine ab.c5 ?_
   refine ab.ret ?_
   obtain rfl:=aH h
   exact cv
theorem Oz {J:bN} {r:Int × Int} (h:uC J=some r):bE Tryz.prog 83 [I.of (J)] (I.cG [I.of (r.1),I.of (r.2)]):=by
 unfold uC at h
 refine bE.of Tryz.func83 rfl Tryz.ntmps83 rfl fun W A=> ?_
 refine aA ?_
 refine b8 fun aR=> ?_
 refine aM ?_
 refine aM ?_
 refine b2 ?_
 refine aM ?_
 refine aM ?_
 refine bK ?_
 refine aA ?_
 refine aT (aQ kg) ?_
 refine bL 0 iK jY ?_
 refine aT (ej Tryz.underlying62) ?_
 refine aB ?_
 refine aI ?_
 refine ag.block ?_
 obtain⟨av,an,h⟩:=ay h
 refine gj (γ:=Unit) (δ:=Unit) an [0,1,2,3,9,10] (fun s1 aw=> [(4,I.of (s1.1)),(5,I.of (s1.2.1)),(11,I.of (s1.2.2))]) (fun s1 aw=> []) (fun az=>Exit.exit 0) (fun az aw=> [(4,I.of (az.1)),(5,I.of (az.2.1)),(11,I.of (az.2.2.1)),(12,I.of (az.2.2.2))]) (fun az aw=> []) () (fun s1 r h aw=> ?_) fun aw=> ?_
 ·clear an
  refine aA ?_
  refine bd dJ ?_
  refine bK ?_
  refine b4 h (fun h=>?_) fun h=>?_
  ·refine cP ?_
   refine ag.seq ?_
   refine ag.block ?_
   refine aA ?_
   refine aB ?_
   obtain⟨aW,cc,h⟩:=ay h
   refine gk cc Tryz.underlying62 g8 ?_
   refine aT (c7 g8) ?_
   refine cM iz fun a0=> ?_
   refine aM ?_
   refine ck 0 g8 ?_
   refine b2 ?_
   refine aT (aQ ra) ?_
   refine bL 0 kP bo ?_
   refine aI ?_
   refine ag.block ?_
   refine aA ?_
   refine bd fz ?_
   refine aM ?_
   refine aI ?_
   obtain⟨bB,cz,h⟩:=ay h
   refine h5 (γ:=Unit) [0,1,2,3,6,7,9,10,11,12,17,18] (fun a5=> [(4,I.of (bB.1)),(5,I.of (bB.2))]) (fun a5=> []) (fun a5=> ?_) (fun hm ar=> ?_) fun hm ar=> ?_
   ·clear cz
    refine ab.dz ?_
    refine ab.dz ?_
    refine ab.next ?_
    refine ag.cj ?_
    refine bd c8 ?_
    refine aB ?_
    refine ai.nil ?_
    obtain rfl:=aH h
    exact fe () 1
   ·have h:=gI ar cz
    refine ag.skip ?_
    obtain rfl:=aH h
    exact df 0 (hm ())
   ·have h:=gJ ar cz
    refine aA ?_
    refine bd fz ?_
    refine aM ?_
    refine aI ?_
    obtain⟨cu,du,h⟩:=ay h
    refine h5 (γ:=Unit) [0,1,2,3,6,7,9,10,11,12,17,18,20] (fun bA=> [(4,I.of (cu.1)),(5,I.of (cu.2))]) (fun bA=> []) (fun bA=> ?_) (fun hm ar=> ?_) fun hm ar=> ?_
    ·clear du
     obtain rfl:=aH h
     exact df 0 (hm ())
    ·have h:=gI ar du
     refine ag.cj ?_
     refine aB ?_
     refine bd Bz ?_
     refine aB ?_
     refine aM ?_
     refine aM ?_
     refine ai.nil ?_
     obtain rfl:=aH h
     exact df 0 (hm ())
    ·have h:=gJ ar du
     refine ag.cj ?_
     refine aM ?_
     refine ai.nil ?_
     obtain rfl:=aH h
     exact df 0 (hm ())
  ·refine ag.exit ?_
   refine ab.exit ?_
   obtain rfl:=aH h
   exact dE () 0
 ·clear an
  refine ab.e4 ?_
  refine ab.next ?_
  refine aA ?_
  refine aB ?_
  refine aB ?_
  refine aM ?_
  refine aM ?_
  refine aI ?_
  refine ag.ret ?_
  obtain rfl:=aH h
  exact Mc
theorem O6 {hp:a1 Cell} {Q:Ref × (a1 Cell)→Prop} (h:A2 hp Q):cf Tryz.prog 84 [] ([] ++ a3 hp) (δ:= {r:Ref × (a1 Cell) // Q r} × Unit) (fun d=>I.of (d.1.1.1)) (fun d=> [] ++ a3 d.1.1.2):=by
 unfold A2 at h
 refine cf.of Tryz.func84 rfl Tryz.ntmps84 rfl fun W A=> ?_
 refine aA ?_
 refine bj (eW (qU)) ?_
 refine b2 ?_
 refine ai.Ey (α:=Vector al 4) (β:=Int) 0 rfl (Cell.oo ([]:List ((Vector al 4) × Int))) (fun _=>rfl) rfl fun dL ti=> ?_
 replace h:=aC.q3 h dL ti
 refine ho Sh Si { oe:=(⟨some dL.1⟩:gf):mq } (h4 AD .nil) ?_
 refine ai.yZ 0 rfl (Cell.vD ({ oe:=(⟨some dL.1⟩:gf):mq })) (fun _=>rfl) (ad rfl) rfl fun ef zr=> ?_
 replace h:=aC.q3 h ef zr
 refine aM ?_
 refine aI ?_
 refine ag.ret ?_
 exact ab.gv (⟨⟨((some ef.1:Ref),ef.2),h⟩,()⟩: {r // _} × _) (.refl _) rfl rfl (dV rfl)
theorem NV {J:fa} {aj:Int} {r:Bool} (h:AI J aj=some r):bE Tryz.prog 121 [I.of (J),I.ptr aj] (I.of (r)):=by
 unfold AI at h
 refine bE.of Tryz.func121 rfl Tryz.ntmps121 rfl fun W A=> ?_
 refine aA ?_
 refine b8 fun aR=> ?_
 refine aM ?_
 refine b2 ?_
 refine aT (aQ D6) ?_
 refine bL 0 nz bo ?_
 refine aT (c7 bo) ?_
 refine bd fz ?_
 refine aM ?_
 refine aI ?_
 refine ag.ret ?_
 obtain rfl:=aH h
 exact cv
end Go.Proofs.YtmnggbjcnoffeaaGreat
namespace Go.Proofs.YtmnggbjcnoffeaaGreat
open Go Gv
set_option linter.unusedVariables false
set_option linter.unusedSimpArgs false
set_option maxRecDepth 100000
set_option maxHeartbeats 2000000
theorem OA {J:bu} {aj:Vector al 4} {r:(Vector al 4)} (h:xk J aj=some r):bE Tryz.prog 19 [I.of (J),I.of (aj)] (I.of (r)):=by
 unfold xk at h
 refine bE.of Tryz.func19 rfl Tryz.ntmps19 rfl fun W A=> ?_
 refine aA ?_
 refine b8 fun aR=> ?_
 refine b8 fun a0=> ?_
 refine cM nR fun bF=> ?_
 refine bK ?_
 refine aA ?_
 refine aT (aQ jT) ?_
 refine bL 2 jQ jA ?_
 refine aT (ej Tryz.underlying47) ?_
 refine aB ?_
 refine aI ?_
 refine ag.block ?_
 obtain⟨av,an,h⟩:=ay h
 refine gj (γ:=Unit) (δ:=Unit) an [0,1,2,3,4,8,9] (fun s1 aw=> [(10,I.of (s1.1))]) (fun s1 aw=> [(1,⟨some a0,.var (s1.2:Vector al 4)⟩)]) (fun az=>Exit.exit 0) (fun az aw=> [(10,I.of (az.1)),(11,I.of (az.2.1))]) (fun az aw=> [(1,⟨some a0,.var (az.2.2:Vector al 4)⟩)]) () (fun s1 r h aw=> ?_) fun aw=> ?_
 ·clear an
  refine aA ?_
  refine bd dJ ?_
  refine bK ?_
  refine b4 h (fun h=>?_) fun h=>?_
  ·refine cP ?_
   refine ag.seq ?_
   refine ag.block ?_
   refine aA ?_
   refine aB ?_
   obtain⟨aW,cc,h⟩:=ay h
   refine gk cc Tryz.underlying47 fO ?_
   refine aT (c7 fO) ?_
   refine cM mL fun cA=> ?_
   refine aM ?_
   refine ck 0 fO ?_
   refine bK ?_
   refine aA ?_
   refine aB ?_
   refine bd kX ?_
   refine aB ?_
   refine dK (aQ rb) ?_
   refine ea (fun hb=>dP (i:=0) ((aK.id ca).comp mm) (r:=(aF J.bW aW).gu) fk (b3 rfl hb) rfl rfl rfl) ?_
   refine dK iy ?_
   refine tj ?_
   refine aI ?_
   refine b4 h (fun h=>?_) fun h=>?_
   ·refine ag.exit ?_
    refine ab.exit ?_
    refine ab.e4 ?_
    refine ab.next ?_
    refine ag.cj ?_
    refine bd c8 ?_
    refine aB ?_
    refine ai.nil ?_
    obtain rfl:=aH h
    exact fe () 1
   ·refine cP ?_
    refine ag.block ?_
    refine aA ?_
    refine aT (aQ pQ) ?_
    refine bL 0 ny bV ?_
    refine ho hl et (default:al) .nil ?_
    refine bd (BA lS rfl o6 rfl) ?_
    refine aM ?_
    refine aI ?_
    obtain⟨bB,cz,h⟩:=ay h
    refine h5 (γ:=Unit) [0,1,2,3,4,5,6,8,9,10,11,21,26] (fun a5=> []) (fun a5=> [(2,⟨some a0,.var (bB:Vector al 4)⟩)]) (fun a5=> ?_) (fun hm ar=> ?_) fun hm ar=> ?_
    ·clear cz
     refine ab.dz ?_
     refine ab.dz ?_
     refine ab.next ?_
     refine ag.cj ?_
     refine bd c8 ?_
     refine aB ?_
     refine ai.nil ?_
     obtain rfl:=aH h
     exact fe () 1
    ·have h:=gI ar cz
     obtain⟨bR,cN,h⟩:=ay h
     obtain⟨bg,dd,h⟩:=ay h
     obtain⟨dj,gp,h⟩:=ay h
     obtain⟨dw,ha,h⟩:=ay h
     obtain⟨hM,jE,h⟩:=ay h
     refine ag.draw mixed 29 ((some 31) :: (some 32) :: (some 33) :: (some 34) :: (some 35) :: (some 36) :: (some 37) :: (some 38) :: (some 39) :: (some 40) :: (some 41) :: (some 42) :: (some 43) :: (some 44) :: (some 45) :: (some 46) :: (some 47) :: (some 48) :: (some 49) :: (some 50) :: (some 51) :: (some 52) :: (some 53) :: (some 54) :: (some 55) :: (some 56) :: (some 57) :: (some 58) :: none :: []) ([] :: [] :: [] :: [2] :: [3] :: [4] :: [] :: [6] :: [7] :: [5,8] :: [] :: [10] :: [11] :: [9,12] :: [] :: [14] :: [15] :: [16] :: [] :: [18] :: [19] :: [17,20] :: [] :: [22] :: [23] :: [21,24] :: [0] :: [26] :: [13,27] :: []) (.val _ :: .val _ :: .val _ :: .val _ :: .val _ :: .val _ :: .val _ :: .val _ :: .val _ :: .val _ :: .val _ :: .val _ :: .val _ :: .val _ :: .val _ :: .val _ :: .val _ :: .val _ :: .val _ :: .val _ :: .val _ :: .val _ :: .val _ :: .val _ :: .val _ :: .val _ :: .val _ :: .val _ :: .j1 2 (.var (c2 s1.2 hM ({ (bJ s1.2 hM) with bS:=bg } :al):Vector al 4)) :: []) (false :: false :: false :: false :: false :: false :: false :: false :: false :: false :: false :: false :: false :: false :: false :: false :: false :: false :: false :: false :: false :: false :: false :: false :: false :: false :: false :: false :: true :: []) (by kernel_rfl) rfl rfl rfl (fun c1=>⟨c3,c3,c3,e0 fun L' ao=>fj (k:=bR) lx (ad rfl) (ad rfl) (cK cN),H1 (aQ hS),dI 2 (((aK.id (Vector al 4)).comp (aK.idx (α:=al) 4 bR (cK cN).1)).comp ec) ek,H1 (aQ pQ),H1 (aQ hS),dI 0 (ny.comp ec) ek,iq Iq,H1 (aQ kU),H1 (aQ hS),dI 0 (iJ.comp ec) ek,qD dd fun L' ao=>pR (ad rfl) (ad rfl),c3,e0 fun L' ao=>fj (k:=dj) lx (ad rfl) (ad rfl) (cK gp),H1 (aQ jw),dI 2 (((aK.id (Vector al 4)).comp (aK.idx (α:=al) 4 dj (cK gp).1)).comp hA) ek,H1 (aQ pQ),H1 (aQ jw),dI 0 (ny.comp hA) ek,iq Iq,H1 (aQ kU),H1 (aQ jw),dI 0 (iJ.comp hA) ek,qD ha fun L' ao=>pR (ad rfl) (ad rfl),e0 fun L' ao=>fj (k:=hM) lx (ad rfl) (ad rfl) (cK jE),H1 (aQ hS),⟨_,_,rfl,fun L' ao=>sD (i:=2) (((aK.id (Vector al 4)).comp (aK.idx (α:=al) 4 hM (cK jE).1)).comp ec) (v:=(bg:BitVec 64)) (b':=(c2 s1.2 hM ({ (bJ s1.2 hM) with bS:=bg } :al):Vector al 4)) ek (ad rfl) (ad rfl) (ao _ _ rfl) rfl rfl⟩,trivial⟩) fun c1=> ?_
     obtain⟨qE,Cj,h⟩:=ay h
     refine bj (fj (k:=qE) lx (ad rfl) (ad rfl) (cK Cj)) ?_
     refine aT (aQ jw) ?_
     obtain⟨ft,km,h⟩:=ay h
     refine vS 2 (((aK.id (Vector al 4)).comp (aK.idx (α:=al) 4 qE (cK Cj).1)).comp hA) ek (hb:=by exact km) ?_
     refine ai.nil ?_
     obtain rfl:=aH h
     exact df 0 (hm ())
    ·have h:=gJ ar cz
     refine aA ?_
     refine aT (aQ nF) ?_
     refine bL 0 lO bo ?_
     refine bd ni ?_
     refine aB ?_
     refine dK (aQ nF) ?_
     refine ea (fun hb=>dP (i:=0) ((aK.id ca).comp lO) (r:=(aF J.bW aW).dO) bo (b3 rfl hb) rfl rfl rfl) ?_
     refine iW og ?_
     obtain⟨hz,l4,h⟩:=ay h
     refine dp l4 (mE (ad rfl) (ad rfl) (fun h=>h)) ?_
     refine aM ?_
     refine aI ?_
     obtain⟨cu,du,h⟩:=ay h
     refine h5 (γ:=Unit) [0,1,2,3,4,5,6,8,9,10,11,21,26,61] (fun bA=> []) (fun bA=> [(2,⟨some a0,.var (cu:Vector al 4)⟩)]) (fun bA=> ?_) (fun hm ar=> ?_) fun hm ar=> ?_
     ·clear du
      obtain rfl:=aH h
      exact df 0 (hm ())
     ·have h:=gI ar du
      obtain⟨rX,Ck,h⟩:=ay h
      obtain⟨gy,l5,h⟩:=ay h
      obtain⟨ir,oy,h⟩:=ay h
      obtain⟨CP,Md,h⟩:=ay h
      refine ag.draw mixed 18 ((some 70) :: (some 71) :: (some 72) :: (some 73) :: (some 74) :: (some 75) :: (some 76) :: (some 77) :: (some 78) :: (some 79) :: (some 80) :: (some 81) :: (some 82) :: (some 83) :: (some 84) :: (some 85) :: (some 86) :: (some 87) :: []) ([] :: [] :: [1] :: [2] :: [] :: [4] :: [5] :: [6] :: [] :: [8] :: [9] :: [10] :: [11] :: [12] :: [7,13] :: [3,14] :: [15] :: [0] :: []) (.val _ :: .val _ :: .val _ :: .val _ :: .val _ :: .val _ :: .val _ :: .val _ :: .val _ :: .val _ :: .val _ :: .val _ :: .val _ :: .val _ :: .val _ :: .val _ :: .val _ :: .val _ :: []) (false :: false :: false :: false :: false :: false :: false :: false :: false :: false :: false :: false :: false :: false :: false :: false :: false :: false :: []) (by kernel_rfl) rfl rfl rfl (fun jk=>⟨c3,H1 (aQ kU),H1 (aQ hS),dI 0 (iJ.comp ec) ek,c3,e0 fun L' ao=>fj (k:=rX) lx (ad rfl) (ad rfl) (cK Ck),H1 (aQ hS),dI 2 (((aK.id (Vector al 4)).comp (aK.idx (α:=al) 4 rX (cK Ck).1)).comp ec) ek,H1 (aQ nF),dI 0 lO bo,iq lT,H1 (h1 Tryz.underlying3 Tryz.underlying130),qD l5 fun L' ao=>na (fi 1 rfl) (ad rfl),e0 fun L' ao=>q4 (ad rfl) (fi 1 rfl),iq o1,qD oy fun L' ao=>pR (ad rfl) (ad rfl),e0 fun L' ao=>cT (b:=({ (default:al) with bS:=ir } :al)) rfl hl et (.cons ec rfl (ad rfl) rfl (.nil)),e0 fun L' ao=>fj (k:=CP) lx (ad rfl) (ad rfl) (cK Md),trivial⟩) fun jk=> ?_
      obtain⟨iu,oz,h⟩:=ay h
      refine vS 2 ((aK.id (Vector al 4)).comp (aK.idx (α:=al) 4 CP (cK Md).1)) bV (hb:=by exact oz) ?_
      refine ai.nil ?_
      obtain rfl:=aH h
      exact df 0 (hm ())
     ·have h:=gJ ar du
      refine ag.cj ?_
      refine aB ?_
      refine aT (aQ kU) ?_
      refine bL 0 iJ bV ?_
      obtain⟨CQ,Me,h⟩:=ay h
      refine bj (fj (k:=CQ) lx (ad rfl) (ad rfl) (cK Me)) ?_
      refine po 2 ((aK.id (Vector al 4)).comp (aK.idx (α:=al) 4 CQ (cK Me).1)) bV ?_
      refine ai.nil ?_
      obtain rfl:=aH h
      exact df 0 (hm ())
  ·refine ag.exit ?_
   refine ab.exit ?_
   obtain rfl:=aH h
   exact dE () 0
 ·clear an
  refine ab.e4 ?_
  refine ab.next ?_
  refine aA ?_
  refine cm 1 g2 ?_
  refine ck 0 g2 ?_
  refine aI ?_
  refine ag.ret ?_
  obtain rfl:=aH h
  exact ab.iT rfl (hc 0 g2)
end Go.Proofs.YtmnggbjcnoffeaaGreat
namespace Go.Proofs.YtmnggbjcnoffeaaGreat
open Go Gv
set_option linter.unusedVariables false
set_option linter.unusedSimpArgs false
set_option maxRecDepth 100000
set_option maxHeartbeats 2000000
theorem fL {J:bk} {aj:Int} {b6:Nat} {r:Int × bk} (h:fp J aj=some r):cf Tryz.prog 32 [I.eq (.pointer (some ⟨b6,0,none⟩)),I.of (aj)] [⟨some b6,.var (J:bk)⟩] (δ:=Unit) (fun d=>I.of (r.1)) (fun d=> [⟨some b6,.var (r.2:bk)⟩]):=by
 unfold fp at h
 refine cf.of Tryz.func32 rfl Tryz.ntmps32 rfl fun W A=> ?_
 refine aA ?_
 refine aM ?_
 refine bK ?_
 refine aA ?_
 refine aB ?_
 obtain⟨ak,bt,h⟩:=ay h
 refine ai.lf (gO.call [0] LH (N7 bt) ⟨ad rfl,trivial⟩ rfl ⟨rfl,trivial⟩ rfl) rfl rfl rfl ?_
 refine aT iy ?_
 refine aB ?_
 refine dK cU ?_
 refine iW dJ ?_
 refine tj ?_
 refine aI ?_
 refine b4 h (fun h=>?_) fun h=>?_
 ·refine aA ?_
  refine aM ?_
  refine aI ?_
  refine ag.ret ?_
  refine ab.ret ?_
  refine ab.bI 0 rfl ?_
  obtain rfl:=aH h
  exact mS ()
 ·refine cP ?_
  refine aA ?_
  refine aB ?_
  refine aT eI ?_
  refine aT (aQ xS) ?_
  refine bL 0 wU bo ?_
  refine bd c8 ?_
  refine aT eI ?_
  refine aT (aQ xS) ?_
  refine po 0 wU bo ?_
  refine bK ?_
  obtain⟨aW,cc,h⟩:=ay h
  obtain⟨aO,cq,h⟩:=ay h
  refine ag.draw mixed 14 [some 19,some 20,some 21,some 22,some 23,some 24,some 25,some 26,some 27,some 28,some 29,some 30,some 31,some 32] [[],[0],[1],[2],[],[4],[5],[6],[7],[3,8],[9],[10],[],[11,12]] [.val _,.val _,.val _,.val _,.val _,.val _,.val _,.val _,.val _,.val _,.val _,.val _,.val _,.val _] [false,false,false,false,false,false,false,false,false,false,false,false,false,false] (by kernel_rfl) rfl rfl rfl (fun c1=>⟨c3,H1 eI,H1 (aQ D5),dI 0 AP BV,c3,H1 eI,H1 (aQ xS),dI 0 wU bo,iq lT,lB cc Tryz.underlying22 FP,H1 (c7 FP),H1 (KG Tryz.underlying5 Tryz.underlying3),c3,e0 fun L' ao=>EU (ad rfl) (ad rfl) (DE cq),trivial⟩) fun c1=> ?_
  refine aM ?_
  refine aI ?_
  refine ag.ret ?_
  refine ab.bI 0 rfl ?_
  obtain rfl:=aH h
  exact mS ()
theorem HH {J:aY} {aj:Int} {r:Int} (h:qS J aj=some r):bE Tryz.prog 82 [I.of (J),I.of (aj)] (I.of (r)):=by
 unfold qS at h
 refine bE.of Tryz.func82 rfl Tryz.ntmps82 rfl fun W A=> ?_
 refine aA ?_
 refine b8 fun aR=> ?_
 refine b8 fun a0=> ?_
 refine aM ?_
 refine b2 ?_
 refine aT (aQ mB) ?_
 refine bL 1 mn lW ?_
 refine ai.share (α:=Int) 0 3 rfl rfl ?_
 refine bj (Ez (F:=(fun hF=>AH hF aj)) (τs:= [I.ptr aj]) Sj ⟨ad rfl,trivial⟩ (fun _ _ h=>NU h)) ?_
 obtain⟨ak,bt,h⟩:=ay h
 refine ev Sk (Nn bt) ?_
 refine aM ?_
 refine aI ?_
 refine ag.ret ?_
 obtain rfl:=aH h
 exact cv
end Go.Proofs.YtmnggbjcnoffeaaGreat
namespace Go.Proofs.YtmnggbjcnoffeaaGreat
open Go Gv
set_option linter.unusedVariables false
set_option linter.unusedSimpArgs false
set_option maxRecDepth 100000
set_option maxHeartbeats 2000000
theorem No {J:List fa} {aj:fa→Option Bool} {r:Int} (h:wA J aj=some r):bE Tryz.prog 120 [I.of (J),I.th Tryz.prog aj] (I.of (r)):=by
 unfold wA at h
 refine bE.of Tryz.func120 rfl Tryz.ntmps120 rfl fun W A=> ?_
 refine aA ?_
 refine aM ?_
 refine bK ?_
 refine aA ?_
 refine aB ?_
 refine aT (ej Tryz.underlying24) ?_
 refine aB ?_
 refine aI ?_
 refine ag.block ?_
 obtain⟨av,an,h⟩:=ay h
 refine gj (γ:=Unit) (δ:=Unit) an [0,1,7] (fun s1 aw=> [(4,I.of (0:Int)),(8,I.of (s1))]) (fun s1 aw=> []) (fun az=>Sum.elim (fun az=>Exit.exit 0) (fun az=>Exit.ret) az) (fun az aw=>Sum.elim (fun az=> [(4,I.of (0:Int)),(8,I.of (az.1)),(9,I.of (az.2))]) (fun az=> [(4,I.of (az.1)),(5,I.of (az.2.1)),(8,I.of (az.2.2.1)),(9,I.of (az.2.2.2.1)),(16,I.of (az.2.2.2.2))]) az) (fun az aw=>Sum.elim (fun az=> []) (fun az=> []) az) () (fun s1 r h aw=> ?_) fun aw=> ?_
 ·clear an
  refine aA ?_
  refine bd dJ ?_
  refine bK ?_
  refine b4 h (fun h=>?_) fun h=>?_
  ·refine cP ?_
   refine ag.seq ?_
   refine ag.block ?_
   refine aA ?_
   refine aB ?_
   refine aM ?_
   refine b2 ?_
   refine aB ?_
   refine aB ?_
   refine aB ?_
   obtain⟨aW,cc,h⟩:=ay h
   refine gk cc Tryz.underlying24 nJ ?_
   refine aT (c7 nJ) ?_
   obtain⟨ak,bt,h⟩:=ay h
   refine bj (Be (ad rfl) (ad rfl) bt) ?_
   refine aI ?_
   refine b4 h (fun h=>?_) fun h=>?_
   ·refine aA ?_
    refine aB ?_
    refine aM ?_
    refine aI ?_
    refine ag.ret ?_
    refine ab.c5 ?_
    refine ab.ret ?_
    obtain rfl:=aH h
    exact dE () 0
   ·refine ag.skip ?_
    refine ab.dz ?_
    refine ab.next ?_
    refine ag.cj ?_
    refine bd c8 ?_
    refine aB ?_
    refine ai.nil ?_
    obtain rfl:=aH h
    exact fe () 0
  ·refine ag.exit ?_
   refine ab.exit ?_
   obtain rfl:=aH h
   exact dE () 0
 ·clear an
  rcases av with av | av
  ·simp only [Sum.elim_inl] at h
   refine ab.e4 ?_
   refine ab.next ?_
   refine aA ?_
   refine aM ?_
   refine aI ?_
   refine ag.ret ?_
   obtain rfl:=aH h
   exact cv
  ·simp only [Sum.elim_inr] at h
   refine ab.c5 ?_
   refine ab.ret ?_
   obtain rfl:=aH h
   exact cv
theorem Oc {J:aY} {r:cF} (h:Dk J=some r):cf Tryz.prog 86 [I.of (J)] [] (δ:=Nat × (Option Nat × Nat)) (fun d=>I.eq (.pointer (some ⟨d.1,0,none⟩))) (fun d=> [⟨some d.1,.cg (({ r with cb:= [] } :cF):cF) [(10,aV d.2.1 (r.cb).length d.2.2)]⟩,⟨d.2.1,.row 52 (r.cb:List aJ) d.2.2⟩]):=by
 unfold Dk at h
 refine cf.of Tryz.func86 rfl Tryz.ntmps86 rfl fun W A=> ?_
 refine aA ?_
 refine b8 fun aR=> ?_
 refine bj (eW (qU)) ?_
 refine b2 ?_
 refine cm 0 fs ?_
 refine bj (oZ (b:=({ (default:cF) with m8:=J } :cF)) [10] Qr rfl Sl Sm (.cons At rfl (ad rfl) rfl (by rfl) (.nil))) ?_
 refine ai.own (α:=aJ) 52 ?_
 refine ai.Uh (ad rfl) rfl fun a0=> ?_
 refine aM ?_
 refine aI ?_
 refine ag.ret ?_
 refine ab.FQ (γ:=aJ) (b':=(({ ({ (default:cF) with m8:=J } :cF) with cb:= [] } :cF):cF)) ((aK.id cF).comp wV) 0 0 rfl rfl rfl ?_
 refine ab.bI 1 rfl ?_
 refine ab.bI 1 rfl ?_
 obtain rfl:=aH h
 exact mS (a0,(none,0))
theorem NN {J:bk} {r:Bool} (h:wN J=some r):bE Tryz.prog 26 [I.ptr J] (I.of (r)):=by
 unfold wN at h
 refine bE.of Tryz.func26 rfl Tryz.ntmps26 rfl fun W A=> ?_
 refine aA ?_
 refine aM ?_
 refine bK ?_
 refine ag.draw mixed 10 [some 3,some 4,some 5,some 6,some 7,some 8,some 9,some 10,some 11,some 12] [[],[0],[1],[2],[],[4],[5],[6],[7],[3,8]] [.val _,.val _,.val _,.val _,.val _,.val _,.val _,.val _,.val _,.val _] [false,false,false,false,false,false,false,false,false,false] (by kernel_rfl) rfl rfl rfl (fun c1=>⟨c3,H1 x3,qi wU xS,H1 (c7 bo),c3,H1 x3,qi AP D5,H1 (c7 BV),H1 (ej Tryz.underlying22),iq dJ,trivial⟩) fun c1=> ?_
 refine aM ?_
 refine aI ?_
 refine ag.ret ?_
 obtain rfl:=aH h
 exact cv
theorem OB {J:aY} {aj:Int} {r:Int} (h:xl J aj=some r):bE Tryz.prog 108 [I.of (J),I.of (aj)] (I.of (r)):=by
 unfold xl at h
 refine bE.of Tryz.func108 rfl Tryz.ntmps108 rfl fun W A=> ?_
 refine aA ?_
 refine b8 fun aR=> ?_
 refine aM ?_
 refine bK ?_
 refine aA ?_
 refine aT (aQ sE) ?_
 refine bL 0 r7 rv ?_
 refine aT (ej Tryz.underlying24) ?_
 refine aB ?_
 refine aI ?_
 refine ag.block ?_
 obtain⟨av,an,h⟩:=ay h
 refine gj (γ:=Unit) (δ:=Unit) an [0,1,2,8,9] (fun s1 aw=> [(4,I.of (0:Int)),(10,I.of (s1))]) (fun s1 aw=> []) (fun az=>Sum.elim (fun az=>Exit.exit 0) (fun az=>Exit.ret) az) (fun az aw=>Sum.elim (fun az=> [(4,I.of (0:Int)),(10,I.of (az.1)),(11,I.of (az.2))]) (fun az=> [(4,I.of (az.1)),(10,I.of (az.2.1)),(11,I.of (az.2.2.1)),(17,I.of (az.2.2.2))]) az) (fun az aw=>Sum.elim (fun az=> []) (fun az=> []) az) () (fun s1 r h aw=> ?_) fun aw=> ?_
 ·clear an
  refine aA ?_
  refine bd dJ ?_
  refine bK ?_
  refine b4 h (fun h=>?_) fun h=>?_
  ·refine cP ?_
   refine ag.seq ?_
   refine ag.block ?_
   refine aA ?_
   obtain⟨aW,cc,h⟩:=ay h
   refine gk cc Tryz.underlying24 nJ ?_
   refine aT (c7 nJ) ?_
   refine cM nK fun a0=> ?_
   refine ck 0 nJ ?_
   refine b2 ?_
   refine aT (aQ D6) ?_
   refine bL 0 nz bo ?_
   refine aB ?_
   refine bd fz ?_
   refine aI ?_
   refine b4 h (fun h=>?_) fun h=>?_
   ·refine aA ?_
    refine aT (aQ Bi) ?_
    refine bL 0 m2 bo ?_
    refine aM ?_
    refine aI ?_
    refine ag.ret ?_
    refine ab.c5 ?_
    refine ab.ret ?_
    obtain rfl:=aH h
    exact dE () 1
   ·refine ag.skip ?_
    refine ab.dz ?_
    refine ab.next ?_
    refine ag.cj ?_
    refine bd c8 ?_
    refine aB ?_
    refine ai.nil ?_
    obtain rfl:=aH h
    exact fe () 1
  ·refine ag.exit ?_
   refine ab.exit ?_
   obtain rfl:=aH h
   exact dE () 0
 ·clear an
  rcases av with av | av
  ·simp only [Sum.elim_inl] at h
   refine ab.e4 ?_
   refine ab.next ?_
   refine aA ?_
   refine aM ?_
   refine aI ?_
   refine ag.ret ?_
   obtain rfl:=aH h
   exact cv
  ·simp only [Sum.elim_inr] at h
   refine ab.c5 ?_
   refine ab.ret ?_
   obtain rfl:=aH h
   exact cv
theorem Dt {J:al} {aj:Int} {r:al} (h:sk J aj=some r):bE Tryz.prog 46 [I.of (J),I.of (aj)] (I.of (r)):=by
 unfold sk at h
 refine bE.of Tryz.func46 rfl Tryz.ntmps46 rfl fun W A=> ?_
 refine aA ?_
 refine b8 fun aR=> ?_
 refine cM et fun a0=> ?_
 refine bK ?_
 refine ag.block ?_
 refine aA ?_
 refine aB ?_
 refine bd kX ?_
 refine aM ?_
 refine aI ?_
 refine b4 h (fun h=>?_) fun h=>?_
 ·refine aA ?_
  refine cm 1 bV ?_
  refine ck 0 bV ?_
  refine aI ?_
  refine ag.ret ?_
  refine ab.c5 ?_
  refine ab.ret ?_
  obtain rfl:=aH h
  exact ab.iT rfl (hc 0 bV)
 ·refine aA ?_
  refine aB ?_
  refine bd kX ?_
  refine aM ?_
  refine aI ?_
  refine b4 h (fun h=>?_) fun h=>?_
  ·refine aA ?_
   refine aT (aQ jw) ?_
   refine bL 1 hA ek ?_
   refine aB ?_
   refine bd lT ?_
   refine aT (h1 Tryz.underlying3 Tryz.underlying130) ?_
   refine bj (na (fi 1 rfl) (ad rfl)) ?_
   refine bj (q4 (ad rfl) (fi 1 rfl)) ?_
   obtain⟨bg,dd,h⟩:=ay h
   refine dp dd (o1 (ad rfl) (ad rfl)) ?_
   refine aT (aQ hS) ?_
   refine bL 1 ec ek ?_
   refine ho hl et { dt:=bg,bS:=J.bS:al } (h4 hA (h4 ec .nil)) ?_
   refine ck 0 bV ?_
   refine aI ?_
   refine ag.ret ?_
   refine ab.c5 ?_
   refine ab.ret ?_
   obtain rfl:=aH h
   exact ab.iT rfl (hc 0 bV)
  ·refine aA ?_
   refine aB ?_
   refine bd og ?_
   refine aM ?_
   refine aI ?_
   refine b4 h (fun h=>?_) fun h=>?_
   ·refine aA ?_
    refine ho hl et (default:al) .nil ?_
    refine ck 0 bV ?_
    refine aI ?_
    refine ag.ret ?_
    refine ab.c5 ?_
    refine ab.ret ?_
    obtain rfl:=aH h
    exact ab.iT rfl (hc 0 bV)
   ·refine ag.skip ?_
    refine ab.dz ?_
    refine ab.next ?_
    refine aA ?_
    refine aT (aQ hS) ?_
    refine bL 1 ec ek ?_
    refine aB ?_
    refine aT (h1 Tryz.underlying3 Tryz.underlying130) ?_
    refine bj (na (fi 1 rfl) (ad rfl)) ?_
    refine bj (q4 (ad rfl) (fi 1 rfl)) ?_
    refine bd o1 ?_
    obtain⟨dw,ha,h⟩:=ay h
    refine dp ha (cT (b:=({ (default:al) with bS:=J.bS &&& (((1#64) <<< (BitVec.ofInt 64 aj).toNat) - (1#64)) } :al)) rfl hl et (.cons ec rfl (ad rfl) rfl (.nil))) ?_
    refine ck 0 bV ?_
    refine aI ?_
    refine ag.ret ?_
    obtain rfl:=aH h
    exact ab.iT rfl (hc 0 bV)
theorem OV {J:Int} {aj:Int} {r:al} (h:AZ J aj=some r):bE Tryz.prog 109 [I.of (J),I.of (aj)] (I.of (r)):=by
 unfold AZ at h
 refine bE.of Tryz.func109 rfl Tryz.ntmps109 rfl fun W A=> ?_
 refine aA ?_
 refine cM et fun aR=> ?_
 refine b2 ?_
 refine aB ?_
 refine aT (h1 Tryz.underlying3 Tryz.underlying130) ?_
 refine bj (na (fi 1 rfl) (ad rfl)) ?_
 refine bj (q4 (ad rfl) (fi 1 rfl)) ?_
 refine aB ?_
 refine aB ?_
 refine bd lT ?_
 refine aT (h1 Tryz.underlying3 Tryz.underlying130) ?_
 refine bj (na (fi 1 rfl) (ad rfl)) ?_
 refine bj (q4 (ad rfl) (fi 1 rfl)) ?_
 obtain⟨bg,dd,h⟩:=ay h
 refine dp dd (q4 (ad rfl) (ad rfl)) ?_
 refine ho hl et ({ (default:al) with bS:=bg } :al) (h4 ec .nil) ?_
 refine ck 0 bV ?_
 refine aI ?_
 refine ag.ret ?_
 obtain rfl:=aH h
 exact ab.iT rfl (hc 0 bV)
end Go.Proofs.YtmnggbjcnoffeaaGreat
namespace Go.Proofs.YtmnggbjcnoffeaaGreat
open Go Gv
set_option linter.unusedVariables false
set_option linter.unusedSimpArgs false
set_option maxRecDepth 100000
set_option maxHeartbeats 2000000
theorem Oi {J:aY} {aj:Int} {r:dy} (h:w9 J aj=some r):bE Tryz.prog 76 [I.of (J),I.of (aj)] (I.of (r)):=by
 unfold w9 at h
 refine bE.of Tryz.func76 rfl Tryz.ntmps76 rfl fun W A=> ?_
 refine aA ?_
 refine b8 fun aR=> ?_
 refine cM oh fun a0=> ?_
 refine bK ?_
 refine aA ?_
 refine aT (aQ EA) ?_
 refine bL 1 C1 BW ?_
 refine aT (ej Tryz.underlying27) ?_
 refine aB ?_
 refine aI ?_
 refine ag.block ?_
 obtain⟨av,an,h⟩:=ay h
 refine gj (γ:=Unit) (δ:=Unit) an [0,1,2,4,8,9] (fun s1 aw=> [(10,I.of (s1))]) (fun s1 aw=> []) (fun az=>Sum.elim (fun az=>Exit.exit 0) (fun az=>Exit.ret) az) (fun az aw=>Sum.elim (fun az=> [(10,I.of (az.1)),(11,I.of (az.2))]) (fun az=> [(10,I.of (az.1)),(11,I.of (az.2.1)),(17,I.of (az.2.2.1))]) az) (fun az aw=>Sum.elim (fun az=> []) (fun az=> [(0,⟨some a0,.var (az.2.2.2:dy)⟩)]) az) () (fun s1 r h aw=> ?_) fun aw=> ?_
 ·clear an
  refine aA ?_
  refine bd dJ ?_
  refine bK ?_
  refine b4 h (fun h=>?_) fun h=>?_
  ·refine cP ?_
   refine ag.seq ?_
   refine ag.block ?_
   refine aA ?_
   obtain⟨aW,cc,h⟩:=ay h
   refine gk cc Tryz.underlying27 mF ?_
   refine aT (c7 mF) ?_
   refine cM oh fun bF=> ?_
   refine ck 0 mF ?_
   refine b2 ?_
   refine aT (aQ Jz) ?_
   refine bL 0 qQ bo ?_
   refine aB ?_
   refine bd fz ?_
   refine aI ?_
   refine b4 h (fun h=>?_) fun h=>?_
   ·refine aA ?_
    refine cm 0 mF ?_
    refine ck 1 mF ?_
    refine aI ?_
    refine ag.ret ?_
    refine ab.c5 ?_
    refine ab.ret ?_
    obtain rfl:=aH h
    exact dE () 1
   ·refine ag.skip ?_
    refine ab.dz ?_
    refine ab.next ?_
    refine ag.cj ?_
    refine bd c8 ?_
    refine aB ?_
    refine ai.nil ?_
    obtain rfl:=aH h
    exact fe () 1
  ·refine ag.exit ?_
   refine ab.exit ?_
   obtain rfl:=aH h
   exact dE () 0
 ·clear an
  rcases av with av | av
  ·simp only [Sum.elim_inl] at h
   refine ab.e4 ?_
   refine ab.next ?_
   refine aA ?_
   refine ho sM oh (default:dy) .nil ?_
   refine ck 0 mF ?_
   refine aI ?_
   refine ag.ret ?_
   obtain rfl:=aH h
   exact ab.iT rfl (hc 0 mF)
  ·simp only [Sum.elim_inr] at h
   refine ab.c5 ?_
   refine ab.ret ?_
   obtain rfl:=aH h
   exact ab.iT rfl (hc 0 mF)
theorem Dq {J:bu} {r:(Vector al 4)} (h:sf J=some r):bE Tryz.prog 232 [I.of (J)] (I.of (r)):=by
 unfold sf at h
 refine bE.of Tryz.func232 rfl Tryz.ntmps232 rfl fun W A=> ?_
 refine aA ?_
 refine b8 fun aR=> ?_
 refine cM nR fun a0=> ?_
 refine b2 ?_
 refine cM nR fun bF=> ?_
 refine bK ?_
 refine aA ?_
 refine aT (aQ jT) ?_
 refine bL 2 jQ jA ?_
 refine aT (aQ jT) ?_
 refine bL 2 jQ jA ?_
 refine aT (ej Tryz.underlying47) ?_
 refine bd vl ?_
 obtain⟨ak,bt,h⟩:=ay h
 refine bj (D4 Tryz.underlying47 fO (ad rfl) .none (.some (ad rfl)) bt) ?_
 refine aT (ej Tryz.underlying47) ?_
 refine aB ?_
 refine aI ?_
 refine ag.block ?_
 obtain⟨av,an,h⟩:=ay h
 refine gj (γ:=Unit) (δ:=Unit) an [0,1,2,3,12,13] (fun s1 aw=> [(14,I.of (s1.1))]) (fun s1 aw=> [(0,⟨some bF,.var (s1.2:Vector al 4)⟩)]) (fun az=>Exit.exit 0) (fun az aw=> [(14,I.of (az.1)),(15,I.of (az.2.1))]) (fun az aw=> [(0,⟨some bF,.var (az.2.2:Vector al 4)⟩)]) () (fun s1 r h aw=> ?_) fun aw=> ?_
 ·clear an
  refine aA ?_
  refine bd dJ ?_
  refine bK ?_
  refine b4 h (fun h=>?_) fun h=>?_
  ·refine cP ?_
   refine ag.seq ?_
   refine ag.block ?_
   refine aA ?_
   refine aB ?_
   obtain⟨aW,cc,h⟩:=ay h
   refine gk cc Tryz.underlying47 fO ?_
   refine aT (c7 fO) ?_
   refine cM mL fun cA=> ?_
   refine aM ?_
   refine ck 0 fO ?_
   refine aI ?_
   refine ag.cj ?_
   refine aB ?_
   refine aT (aQ kU) ?_
   refine bL 0 iJ bV ?_
   obtain⟨bR,cN,h⟩:=ay h
   refine bj (fj (k:=bR) lx (ad rfl) (ad rfl) (cK cN)) ?_
   refine po 1 ((aK.id (Vector al 4)).comp (aK.idx (α:=al) 4 bR (cK cN).1)) bV ?_
   refine ai.nil ?_
   refine ab.dz ?_
   refine ab.next ?_
   refine ag.cj ?_
   refine bd c8 ?_
   refine aB ?_
   refine ai.nil ?_
   obtain rfl:=aH h
   exact fe () 1
  ·refine ag.exit ?_
   refine ab.exit ?_
   obtain rfl:=aH h
   exact dE () 0
 ·clear an
  refine ab.e4 ?_
  refine ab.next ?_
  refine aA ?_
  refine cm 0 g2 ?_
  refine ck 1 g2 ?_
  refine aI ?_
  refine ag.ret ?_
  obtain rfl:=aH h
  exact ab.iT rfl (hc 1 g2)
theorem HC {hp:a1 Cell} {J:Ref} {aj:Vector al 4} {r:Int × Bool} (h:uk hp J aj=some r):cf Tryz.prog 231 [I.of (J),I.of (aj)] ([] ++ a3 hp) (δ:=Unit) (fun _=>I.cG [I.of (r.1),I.of (r.2)]) (fun _=> [] ++ a3 hp):=by
 unfold uk at h
 refine cf.of Tryz.func231 rfl Tryz.ntmps231 rfl fun W A=> ?_
 refine aA ?_
 refine b8 fun aR=> ?_
 refine aM ?_
 refine aM ?_
 refine bK ?_
 refine aA ?_
 refine aB ?_
 refine bj (m9 Tryz.underlying163 (ad rfl)) ?_
 refine aI ?_
 refine b4 h (fun h=>?_) fun h=>?_
 ·refine aA ?_
  refine aM ?_
  refine aM ?_
  refine aI ?_
  refine ag.ret ?_
  refine ab.ret ?_
  obtain rfl:=aH h
  exact ab.kF () (.cons _ (.refl _)) rfl rfl (dV rfl) (dV rfl)
 ·refine cP ?_
  refine ag.seq ?_
  obtain⟨cW,eA,h⟩:=ay h
  obtain⟨cd,ff,h⟩:=ay h
  obtain⟨ct,fQ,h⟩:=ay h
  obtain⟨cS,gD,h⟩:=ay h
  obtain⟨bg,dd,h⟩:=ay h
  refine ag.draw mixed 10 [some 11,some 12,some 13,some 14,some 15,some 16,some 10,some 17,some 18,some 6] [[],[0],[1],[2],[],[3,4],[5],[6],[6],[7]] [.val _,.val _,.val _,.val _,.val _,.val _,.val _,.val _,.val _,.val _] [false,false,false,false,false,false,false,false,false,false] (by kernel_rfl) rfl rfl rfl (fun c1=>⟨c3,e0 fun L' ao=>eI (fv (ad rfl) eA),H1 (aQ D7),e0 fun L' ao=>hj ((aK.id mq).comp AD) (r:=cd.oe) BB (ad rfl) (mM (fun i e q=>ao i e q rfl) (gn (n:=1) rfl (u7 ff) rfl)) rfl rfl,e5 0 g2,e0 fun L' ao=>DS (r:=bg) Tryz.underlying222 EV g4 (n6 (ad rfl) fQ) (ad rfl) (mM (fun i e q=>ao i e q rfl) (gn (n:=1) rfl (sF gD) rfl)) (aH dd),c3,vT,vT,tO,trivial⟩) fun c1=> ?_
  refine aM ?_
  refine b2 ?_
  refine aB ?_
  refine aB ?_
  refine aM ?_
  refine aM ?_
  refine aI ?_
  refine ag.ret ?_
  obtain rfl:=aH h
  exact ab.kF () (.cons _ (.refl _)) rfl rfl (dV rfl) (dV rfl)
theorem Hp {J:dY} {aj:Vector al 4} {r:(Vector al 4) × al} (h:ub J aj=some r):bE Tryz.prog 241 [I.of (J),I.of (aj)] (I.cG [I.of (r.1),I.of (r.2)]):=by
 unfold ub at h
 refine bE.of Tryz.func241 rfl Tryz.ntmps241 rfl fun W A=> ?_
 refine aA ?_
 refine b8 fun aR=> ?_
 refine b8 fun a0=> ?_
 refine cM vm fun bF=> ?_
 refine cM et fun cA=> ?_
 refine b2 ?_
 refine aT (aQ Bj) ?_
 refine bL 3 wD bo ?_
 obtain⟨aW,cc,h⟩:=ay h
 refine bj (fj (k:=aW) lx (ad rfl) (ad rfl) (cK cc)) ?_
 refine bL 2 ((aK.id (Vector al 4)).comp (aK.idx (α:=al) 4 aW (cK cc).1)) bV ?_
 refine cM et fun hW=> ?_
 refine ck 0 bV ?_
 refine b2 ?_
 refine aT (aQ Bj) ?_
 refine bL 4 wD bo ?_
 refine ho hl et (default:al) .nil ?_
 obtain⟨bR,cN,h⟩:=ay h
 refine bj (fj (k:=bR) lx (ad rfl) (ad rfl) (cK cN)) ?_
 refine po 3 ((aK.id (Vector al 4)).comp (aK.idx (α:=al) 4 bR (cK cN).1)) bV ?_
 refine bK ?_
 refine ag.draw mixed 3 [some 15,some 16,none] [[],[],[0]] [.val _,.val _,.j1 2 (.var ((c2 aj bR (default:al)):Vector al 4))] [false,false,true] (by kernel_rfl) rfl rfl rfl (fun c1=>⟨e5 3 g2,e5 0 bV,⟨_,_,rfl,fun L' ao=>sD (i:=2) (aK.id (Vector al 4)) (v:=((c2 aj bR (default:al)):Vector al 4)) (b':=((c2 aj bR (default:al)):Vector al 4)) hJ (ad rfl) (ad rfl) (ao _ _ rfl) rfl rfl⟩,trivial⟩) fun c1=> ?_
 refine ck 1 bV ?_
 refine aI ?_
 refine ag.ret ?_
 obtain rfl:=aH h
 exact ab.y0 rfl (hc 2 hJ) (hc 1 bV)
theorem HO {J:Int} {r:Int} (h:uD J=some r):bE Tryz.prog 205 [I.of (J)] (I.of (r)):=by
 unfold uD at h
 refine bE.of Tryz.func205 rfl Tryz.ntmps205 rfl fun W A=> ?_
 refine aA ?_
 refine aM ?_
 refine b2 ?_
 refine aB ?_
 refine bd Bz ?_
 refine bd vl ?_
 refine aM ?_
 refine aI ?_
 refine ag.ret ?_
 obtain rfl:=aH h
 exact cv
theorem HV {J:al} {aj:Int} {r:al} (h:uH J aj=some r):bE Tryz.prog 204 [I.of (J),I.of (aj)] (I.of (r)):=by
 unfold uH at h
 refine bE.of Tryz.func204 rfl Tryz.ntmps204 rfl fun W A=> ?_
 refine aA ?_
 refine b8 fun aR=> ?_
 refine cM et fun a0=> ?_
 refine bK ?_
 refine ag.block ?_
 refine aA ?_
 refine aB ?_
 refine bd og ?_
 refine aM ?_
 refine aI ?_
 refine b4 h (fun h=>?_) fun h=>?_
 ·refine aA ?_
  refine cm 1 bV ?_
  refine ck 0 bV ?_
  refine aI ?_
  refine ag.ret ?_
  refine ab.c5 ?_
  refine ab.ret ?_
  obtain rfl:=aH h
  exact ab.iT rfl (hc 0 bV)
 ·refine aA ?_
  refine aB ?_
  refine bd kX ?_
  refine aM ?_
  refine aI ?_
  refine b4 h (fun h=>?_) fun h=>?_
  ·refine aA ?_
   refine aT (aQ jw) ?_
   refine bL 1 hA ek ?_
   refine aB ?_
   refine bd lT ?_
   refine aT (h1 Tryz.underlying3 Tryz.underlying130) ?_
   refine bd pM ?_
   obtain⟨bg,dd,h⟩:=ay h
   refine dp dd (cT (b:=({ (default:al) with bS:=J.dt >>> (BitVec.ofInt 64 (bw (aj - 64))).toNat } :al)) rfl hl et (.cons ec rfl (ad rfl) rfl (.nil))) ?_
   refine ck 0 bV ?_
   refine aI ?_
   refine ag.ret ?_
   refine ab.c5 ?_
   refine ab.ret ?_
   obtain rfl:=aH h
   exact ab.iT rfl (hc 0 bV)
  ·refine ag.skip ?_
   refine ab.dz ?_
   refine ab.next ?_
   refine aA ?_
   refine aT (aQ jw) ?_
   refine bL 1 hA ek ?_
   refine aB ?_
   refine aT (h1 Tryz.underlying3 Tryz.underlying130) ?_
   refine bd pM ?_
   refine aT (aQ hS) ?_
   refine bL 1 ec ek ?_
   refine aB ?_
   refine aT (h1 Tryz.underlying3 Tryz.underlying130) ?_
   refine bd pM ?_
   refine aT (aQ jw) ?_
   refine bL 1 hA ek ?_
   refine aB ?_
   refine bd lT ?_
   refine aT (h1 Tryz.underlying3 Tryz.underlying130) ?_
   refine bd na ?_
   obtain⟨dw,ha,h⟩:=ay h
   refine dp ha (pR (ad rfl) (ad rfl)) ?_
   obtain⟨ft,km,h⟩:=ay h
   refine dp km (cT (b:= { dt:=J.dt >>> (BitVec.ofInt 64 aj).toNat,bS:=dw:al }) rfl hl et (.cons hA rfl (ad rfl) rfl (.cons ec rfl (ad rfl) rfl (.nil)))) ?_
   refine ck 0 bV ?_
   refine aI ?_
   refine ag.ret ?_
   obtain rfl:=aH h
   exact ab.iT rfl (hc 0 bV)
end Go.Proofs.YtmnggbjcnoffeaaGreat
namespace Go.Proofs.YtmnggbjcnoffeaaGreat
open Go Gv
set_option linter.unusedVariables false
set_option linter.unusedSimpArgs false
set_option maxRecDepth 100000
set_option maxHeartbeats 2000000
theorem O7 {J:al} {aj:al} {r:al} (h:xA J aj=some r):bE Tryz.prog 193 [I.of (J),I.of (aj)] (I.of (r)):=by
 unfold xA at h
 refine bE.of Tryz.func193 rfl Tryz.ntmps193 rfl fun W A=> ?_
 refine aA ?_
 refine b8 fun aR=> ?_
 refine b8 fun a0=> ?_
 refine cM et fun bF=> ?_
 refine b2 ?_
 refine aT (aQ jw) ?_
 refine bL 2 hA ek ?_
 refine aT (aQ jw) ?_
 refine bL 1 hA ek ?_
 refine bd JA ?_
 refine aT (aQ hS) ?_
 refine bL 2 ec ek ?_
 refine aT (aQ hS) ?_
 refine bL 1 ec ek ?_
 refine bd JA ?_
 obtain⟨bg,dd,h⟩:=ay h
 refine dp dd (cT (b:= { dt:=J.dt ^^^ aj.dt,bS:=J.bS ^^^ aj.bS:al }) rfl hl et (.cons hA rfl (ad rfl) rfl (.cons ec rfl (ad rfl) rfl (.nil)))) ?_
 refine ck 0 bV ?_
 refine aI ?_
 refine ag.ret ?_
 obtain rfl:=aH h
 exact ab.iT rfl (hc 0 bV)
theorem xB {J:al} {aj:al} {r:al} (h:qV J aj=some r):bE Tryz.prog 148 [I.of (J),I.of (aj)] (I.of (r)):=by
 unfold qV at h
 refine bE.of Tryz.func148 rfl Tryz.ntmps148 rfl fun W A=> ?_
 refine aA ?_
 refine b8 fun aR=> ?_
 refine b8 fun a0=> ?_
 refine cM et fun bF=> ?_
 refine b2 ?_
 refine aT (aQ jw) ?_
 refine bL 2 hA ek ?_
 refine aT (aQ jw) ?_
 refine bL 1 hA ek ?_
 refine bd o1 ?_
 refine aT (aQ hS) ?_
 refine bL 2 ec ek ?_
 refine aT (aQ hS) ?_
 refine bL 1 ec ek ?_
 refine bd o1 ?_
 obtain⟨bg,dd,h⟩:=ay h
 refine dp dd (cT (b:= { dt:=J.dt &&& aj.dt,bS:=J.bS &&& aj.bS:al }) rfl hl et (.cons hA rfl (ad rfl) rfl (.cons ec rfl (ad rfl) rfl (.nil)))) ?_
 refine ck 0 bV ?_
 refine aI ?_
 refine ag.ret ?_
 obtain rfl:=aH h
 exact ab.iT rfl (hc 0 bV)
theorem Dn {J:Ref} {aj:al} {aS:Int} {r:Int × al × Ref} (h:xa J aj aS=some r):bE Tryz.prog 250 [I.of (J),I.of (aj),I.of (aS)] (I.gE 255 [I.ptr r.1,I.ptr r.2.1,I.ptr r.2.2]):=by
 unfold xa at h
 refine bE.of Tryz.func250 rfl Tryz.ntmps250 rfl fun W A=> ?_
 refine aA ?_
 refine b8 fun aR=> ?_
 refine b8 fun a0=> ?_
 refine b8 fun bF=> ?_
 refine bj (eW (Ex .nilFunc)) ?_
 refine b2 ?_
 refine ai.share (α:=Int) 0 5 rfl rfl ?_
 refine ai.share (α:=al) 1 4 rfl rfl ?_
 refine ai.share (α:=Ref) 2 3 rfl rfl ?_
 refine bj (KH (f:=255) (τs:= [I.ptr aS,I.ptr aj,I.ptr J]) ⟨ad rfl,ad rfl,ad rfl,trivial⟩) ?_
 refine aM ?_
 refine aI ?_
 refine ag.ret ?_
 obtain rfl:=aH h
 exact cv
theorem Nt {J:List ca} {r:(List ca)} (h:Au J=some r):bE Tryz.prog 161 [I.of (J)] (I.of (r)):=by
 unfold Au at h
 refine bE.of Tryz.func161 rfl Tryz.ntmps161 rfl fun W A=> ?_
 refine aA ?_
 refine bj (eW (look_nil (α:=ca))) ?_
 refine bK ?_
 refine aA ?_
 refine aB ?_
 refine bj (KI Tryz.underlying47 (ad rfl)) ?_
 refine aI ?_
 refine ag.KJ (ad rfl) (fun aq=> ?_) ?_
 ·subst aq; replace h:=II h; subst h
  have h:some ([]:List ca)=some []:=rfl
  refine aA ?_
  refine bj (eW (look_nil (α:=ca))) ?_
  refine aI ?_
  refine ag.ret ?_
  refine ab.ret ?_
  replace h:=aH h
  clear h
  exact cv
 ·refine cP ?_
  refine aA ?_
  refine ai.pf (α:=ca) (r:=([]:List ca)) Tryz.underlying47 fO mL rfl rfl (.nil) rfl fun gR=> ?_
  refine aB ?_
  obtain⟨ak,bt,h⟩:=ay h
  refine j2 0 Tryz.underlying47 fO mL bt fun kH fH=> ?_
  refine aM ?_
  refine aI ?_
  refine ag.ret ?_
  refine ab.my (α:=ca) 0 [2,7] ⟨rfl,rfl,trivial⟩ rfl ?_
  obtain rfl:=aH h
  exact cv
theorem Nu {J:List al} {r:(List al)} (h:Av J=some r):bE Tryz.prog 162 [I.of (J)] (I.of (r)):=by
 unfold Av at h
 refine bE.of Tryz.func162 rfl Tryz.ntmps162 rfl fun W A=> ?_
 refine aA ?_
 refine bj (eW (look_nil (α:=al))) ?_
 refine bK ?_
 refine aA ?_
 refine aB ?_
 refine bj (KI Tryz.underlying48 (ad rfl)) ?_
 refine aI ?_
 refine ag.KJ (ad rfl) (fun aq=> ?_) ?_
 ·subst aq; replace h:=II h; subst h
  have h:some ([]:List al)=some []:=rfl
  refine aA ?_
  refine bj (eW (look_nil (α:=al))) ?_
  refine aI ?_
  refine ag.ret ?_
  refine ab.ret ?_
  replace h:=aH h
  clear h
  exact cv
 ·refine cP ?_
  refine aA ?_
  refine ai.pf (α:=al) (r:=([]:List al)) Tryz.underlying48 bV et rfl rfl (.nil) rfl fun gR=> ?_
  refine aB ?_
  obtain⟨ak,bt,h⟩:=ay h
  refine j2 0 Tryz.underlying48 bV et bt fun kH fH=> ?_
  refine aM ?_
  refine aI ?_
  refine ag.ret ?_
  refine ab.my (α:=al) 0 [2,7] ⟨rfl,rfl,trivial⟩ rfl ?_
  obtain rfl:=aH h
  exact cv
theorem Nv {J:List ca} {aj:List ca} {r:Bool} (h:wC J aj=some r):bE Tryz.prog 270 [I.of (J),I.of (aj)] (I.of (r)):=by
 unfold wC at h
 refine bE.of Tryz.func270 rfl Tryz.ntmps270 rfl fun W A=> ?_
 refine aA ?_
 refine aM ?_
 refine bK ?_
 refine aA ?_
 refine aB ?_
 refine aT (ej Tryz.underlying47) ?_
 refine aB ?_
 refine aT (ej Tryz.underlying47) ?_
 refine bd pX ?_
 refine aI ?_
 refine b4 h (fun h=>?_) fun h=>?_
 ·refine aA ?_
  refine aM ?_
  refine aI ?_
  refine ag.ret ?_
  refine ab.ret ?_
  obtain rfl:=aH h
  exact cv
 ·refine cP ?_
  refine ag.seq ?_
  refine aA ?_
  refine aB ?_
  refine aT (ej Tryz.underlying47) ?_
  refine aB ?_
  refine aI ?_
  refine ag.block ?_
  obtain⟨av,an,h⟩:=ay h
  refine gj (γ:=Unit) (δ:=Unit) an [0,1,4,10,12] (fun s1 aw=> [(13,I.of (s1))]) (fun s1 aw=> []) (fun az=>Sum.elim (fun az=>Exit.exit 0) (fun az=>Exit.ret) az) (fun az aw=>Sum.elim (fun az=> [(13,I.of (az.1)),(14,I.of (az.2))]) (fun az=> [(5,I.of (az.1)),(13,I.of (az.2.1)),(14,I.of (az.2.2.1)),(24,I.of (az.2.2.2))]) az) (fun az aw=>Sum.elim (fun az=> []) (fun az=> []) az) () (fun s1 r h aw=> ?_) fun aw=> ?_
  ·clear an
   refine aA ?_
   refine bd dJ ?_
   refine bK ?_
   refine b4 h (fun h=>?_) fun h=>?_
   ·refine cP ?_
    refine ag.seq ?_
    refine ag.block ?_
    refine aA ?_
    refine aB ?_
    refine aM ?_
    refine bK ?_
    obtain⟨aW,cc,h⟩:=ay h
    obtain⟨bR,cN,h⟩:=ay h
    refine ag.draw mixed 9 [some 16,some 17,some 18,some 19,some 20,some 21,some 22,some 23,some 24] [[],[],[0,1],[2],[],[],[4,5],[6],[3,7]] [.val _,.val _,.val _,.val _,.val _,.val _,.val _,.val _,.val _] [false,false,false,false,false,false,false,false,false] (by kernel_rfl) rfl rfl rfl (fun c1=>⟨c3,c3,lB cc Tryz.underlying47 fO,H1 (c7 fO),c3,c3,lB cN Tryz.underlying47 fO,H1 (c7 fO),iq (BA Sn rfl So rfl),trivial⟩) fun c1=> ?_
    refine aI ?_
    refine b4 h (fun h=>?_) fun h=>?_
    ·refine aA ?_
     refine aM ?_
     refine aI ?_
     refine ag.ret ?_
     refine ab.c5 ?_
     refine ab.ret ?_
     obtain rfl:=aH h
     exact dE () 0
    ·refine ag.skip ?_
     refine ab.dz ?_
     refine ab.next ?_
     refine ag.cj ?_
     refine bd c8 ?_
     refine aB ?_
     refine ai.nil ?_
     obtain rfl:=aH h
     exact fe () 0
   ·refine ag.exit ?_
    refine ab.exit ?_
    obtain rfl:=aH h
    exact dE () 0
  ·clear an
   rcases av with av | av
   ·simp only [Sum.elim_inl] at h
    refine ab.e4 ?_
    refine ab.next ?_
    refine aA ?_
    refine aM ?_
    refine aI ?_
    refine ag.ret ?_
    obtain rfl:=aH h
    exact cv
   ·simp only [Sum.elim_inr] at h
    refine ab.c5 ?_
    refine ab.ret ?_
    obtain rfl:=aH h
    exact cv
theorem Od {hp:a1 Cell} {J:Ref} {aj:Vector al 4} {aS:Int} {r:Bool × (a1 Cell)} (h:AW hp J aj aS=some r):cf Tryz.prog 233 [I.of (J),I.of (aj),I.of (aS)] ([] ++ a3 hp) (δ:=Unit) (fun d=>I.of (r.1)) (fun d=> [] ++ a3 r.2):=by
 unfold AW at h
 refine cf.of Tryz.func233 rfl Tryz.ntmps233 rfl fun W A=> ?_
 refine aA ?_
 refine b8 fun aR=> ?_
 refine aM ?_
 refine bK ?_
 refine aA ?_
 refine aB ?_
 refine bj (m9 Tryz.underlying163 (ad rfl)) ?_
 refine aI ?_
 refine b4 h (fun h=>?_) fun h=>?_
 ·refine aA ?_
  refine aM ?_
  refine aI ?_
  refine ag.ret ?_
  refine ab.ret ?_
  obtain rfl:=aH h
  exact ab.gv () (.cons _ (.refl _)) rfl rfl (dV rfl)
 ·refine cP ?_
  refine ag.seq ?_
  refine ag.seq ?_
  obtain⟨cW,eA,h⟩:=ay h
  obtain⟨cd,ff,h⟩:=ay h
  obtain⟨ct,fQ,h⟩:=ay h
  obtain⟨cS,gD,h⟩:=ay h
  obtain⟨bg,dd,h⟩:=ay h
  refine ag.draw mixed 10 [some 12,some 13,some 14,some 15,some 16,some 17,some 11,some 18,some 19,some 7] [[],[0],[1],[2],[],[3,4],[5],[6],[6],[7]] [.val _,.val _,.val _,.val _,.val _,.val _,.val _,.val _,.val _,.val _] [false,false,false,false,false,false,false,false,false,false] (by kernel_rfl) rfl rfl rfl (fun c1=>⟨c3,e0 fun L' ao=>eI (fv (ad rfl) eA),H1 (aQ D7),e0 fun L' ao=>hj ((aK.id mq).comp AD) (r:=cd.oe) BB (ad rfl) (mM (fun i e q=>ao i e q rfl) (gn (n:=1) rfl (u7 ff) rfl)) rfl rfl,e5 0 g2,e0 fun L' ao=>DS (r:=bg) Tryz.underlying222 EV g4 (n6 (ad rfl) fQ) (ad rfl) (mM (fun i e q=>ao i e q rfl) (gn (n:=1) rfl (sF gD) rfl)) (aH dd),c3,vT,vT,tO,trivial⟩) fun c1=> ?_
  refine aM ?_
  refine b2 ?_
  refine aB ?_
  refine aI ?_
  refine b4 h (fun h=>?_) fun h=>?_
  ·refine aA ?_
   refine aM ?_
   refine aI ?_
   refine ag.ret ?_
   refine ab.ret ?_
   obtain rfl:=aH h
   exact ab.gv () (.cons _ (.refl _)) rfl rfl (dV rfl)
  ·refine cP ?_
   refine ag.seq ?_
   refine ag.draw mixed 6 [some 21,some 22,some 23,some 24,some 25,some 26] [[],[0],[1],[2],[],[]] [.val _,.val _,.val _,.val _,.val _,.val _] [false,false,false,false,false,false] (by kernel_rfl) rfl rfl rfl (fun jk=>⟨c3,e0 fun L' ao=>eI (fv (ad rfl) eA),H1 (aQ D7),e0 fun L' ao=>hj ((aK.id mq).comp AD) (r:=cd.oe) BB (ad rfl) (mM (fun i e q=>ao i e q rfl) (gn (n:=1) rfl (u7 ff) rfl)) rfl rfl,e5 0 g2,c3,trivial⟩) fun jk=> ?_
   obtain⟨dF,oq,h⟩:=ay h
   refine ai.EW (k':=Cell.oo (g3 cS aj aS)) 1 rfl (by first | exact .inl rfl | exact .inr rfl) Tryz.underlying222 EV (n6 (ad rfl) fQ) (ad rfl) (ad rfl) (sF gD) rfl rfl rfl (aH oq) ?_
   refine b2 ?_
   refine aM ?_
   refine aI ?_
   refine ag.ret ?_
   obtain rfl:=aH h
   exact ab.gv () (.cons _ (.refl _)) rfl rfl (dV rfl)
end Go.Proofs.YtmnggbjcnoffeaaGreat
namespace Go.Proofs.YtmnggbjcnoffeaaGreat
open Go Gv
set_option linter.unusedVariables false
set_option linter.unusedSimpArgs false
set_option maxRecDepth 100000
set_option maxHeartbeats 2000000
theorem HI {J:aY} {aj:Int} {r:Int} (h:ur J aj=some r):bE Tryz.prog 85 [I.of (J),I.of (aj)] (I.of (r)):=by
 unfold ur at h
 refine bE.of Tryz.func85 rfl Tryz.ntmps85 rfl fun W A=> ?_
 refine aA ?_
 refine b8 fun aR=> ?_
 refine b8 fun a0=> ?_
 refine aM ?_
 refine b2 ?_
 refine aT (aQ sE) ?_
 refine bL 1 r7 rv ?_
 refine ai.share (α:=Int) 0 3 rfl rfl ?_
 refine bj (Ez (F:=(fun hF=>AI hF aj)) (τs:= [I.ptr aj]) Sp ⟨ad rfl,trivial⟩ (fun _ _ h=>NV h)) ?_
 obtain⟨ak,bt,h⟩:=ay h
 refine ev Sq (No bt) ?_
 refine aM ?_
 refine aI ?_
 refine ag.ret ?_
 obtain rfl:=aH h
 exact cv
theorem NW {hp:a1 Cell} {J:jR} {aj:bu} {r:Int × Bool} (h:wW hp J aj=some r):cf Tryz.prog 227 [I.of (J),I.of (aj)] ([] ++ a3 hp) (δ:=Unit) (fun _=>I.cG [I.of (r.1),I.of (r.2)]) (fun _=> [] ++ a3 hp):=by
 unfold wW at h
 refine cf.of Tryz.func227 rfl Tryz.ntmps227 rfl fun W A=> ?_
 refine aA ?_
 refine b8 fun aR=> ?_
 refine b8 fun a0=> ?_
 refine aM ?_
 refine aM ?_
 refine bK ?_
 obtain⟨ak,bt,h⟩:=ay h
 obtain⟨aO,cq,h⟩:=ay h
 refine iC [0,1,2,3] ?_
 refine ag.pY 2 mixed (bb 6 [] [] _ :: bb 7 (0 :: []) (1 :: []) _ :: bb 8 [] (0 :: []) _ :: bb 9 (2 :: []) [] _ :: ⟨some 10,(1 :: 3 :: []),[],[],fun _=>I.cG [I.of (aO.1),I.of (aO.2)],fun _ _=>⟨none,.dead⟩⟩ :: bb 11 (4 :: []) [] _ :: bb 12 (4 :: []) [] _ :: bb 4 (5 :: []) [] _ :: bb 5 (6 :: []) [] _ :: []) _ (0 :: 1 :: 2 :: 3 :: []) rfl rfl (by kernel_rfl) (by kernel_rfl) ⟨cR.q (e1 (aQ D8)),cR.q (mT 1 AJ BC),cR.q (k5 0 g9),cR.q (cw fun hd E' L' aE ao=>iQ EX (Dq bt) ⟨ad (aE _ _ rfl),trivial⟩),?_,cR.q (cw fun hd E' L' aE ao=>kY (ad (aE _ _ rfl)) rfl),cR.q (cw fun hd E' L' aE ao=>kY (ad (aE _ _ rfl)) rfl),cR.q (cw fun hd E' L' aE ao=>eW (ad (aE _ _ rfl))),cR.q (cw fun hd E' L' aE ao=>eW (ad (aE _ _ rfl))),trivial⟩ fun fl=> ?_
 ·intro hd E' L' aE ao dB
  refine ai.lf (gO.lr 2 (dB.trans rfl) KK (HC cq) ⟨ad (aE _ _ rfl),ad (aE _ _ rfl),trivial⟩) rfl rfl rfl ?_
  refine ai.nil ?_
  exact ab.fin (eh []) rfl rfl
 refine ab.en (L2:=(⟨some a0,.var (aj:bu)⟩ :: ⟨some aR,.var (J:jR)⟩ :: a3 hp)) rfl ?_
 refine jF [0,1,2,3,4,5,6,7,8,9,10,11,12] ?_
 refine ab.next ?_
 refine ag.ret ?_
 obtain rfl:=aH h
 exact ab.kF () (.cons _ (.cons _ (.refl _))) rfl rfl (dV rfl) (dV rfl)
theorem Hm {J:dY} {aj:bu} {r:(Vector al 4) × al × Int} (h:tZ J aj=some r):bE Tryz.prog 239 [I.of (J),I.of (aj)] (I.cG [I.of (r.1),I.of (r.2.1),I.of (r.2.2)]):=by
 unfold tZ at h
 refine bE.of Tryz.func239 rfl Tryz.ntmps239 rfl fun W A=> ?_
 refine aA ?_
 refine b8 fun aR=> ?_
 refine b8 fun a0=> ?_
 refine cM vm fun bF=> ?_
 refine cM et fun cA=> ?_
 refine aM ?_
 refine bK ?_
 obtain⟨ak,bt,h⟩:=ay h
 obtain⟨aO,cq,h⟩:=ay h
 refine ag.draw mixed 10 [some 10,some 11,some 12,some 13,some 9,some 14,some 15,some 7,some 8,none] [[],[],[1],[0,2],[3],[4],[4],[],[],[5,7]] [.val _,.val _,.val _,.val _,.val _,.val _,.val _,.new (.var (default:Vector al 4)),.new (.var (default:al)),.lC 7 (.var (aO.1:Vector al 4))] [false,false,false,false,false,false,false,false,false,true] (by kernel_rfl) rfl rfl rfl (fun c1=>⟨e5 3 BD,e5 2 g9,fm EX (Dq bt),fm KL (Hp cq),c3,vT,vT,o0 vm,o0 et,⟨rfl,_,rfl,fun L' q hq=>sD (i:=q) (aK.id (Vector al 4)) (v:=(aO.1:Vector al 4)) (b':=(aO.1:Vector al 4)) hJ (ad rfl) (ad rfl) hq rfl rfl⟩,trivial⟩) fun c1=> ?_
 refine ck 1 bV ?_
 refine bK ?_
 refine aA ?_
 refine aT (aQ Bj) ?_
 refine bL 5 wD bo ?_
 refine aT (aQ jT) ?_
 refine bL 4 jQ jA ?_
 refine aT (ej Tryz.underlying47) ?_
 refine bd kX ?_
 refine aI ?_
 refine b4 h (fun h=>?_) fun h=>?_
 ·refine ag.seq ?_
  refine ag.draw mixed 3 [some 22,some 23,none] [[],[],[0]] [.val _,.val _,.j1 3 (.var (aO.1:Vector al 4))] [false,false,true] (by kernel_rfl) rfl rfl rfl (fun jk=>⟨e5 0 hJ,e5 1 bV,⟨_,_,rfl,fun L' ao=>sD (i:=3) (aK.id (Vector al 4)) (v:=(aO.1:Vector al 4)) (b':=(aO.1:Vector al 4)) hJ (ad rfl) (ad rfl) (ao _ _ rfl) rfl rfl⟩,trivial⟩) fun jk=> ?_
  refine ck 2 bV ?_
  refine aM ?_
  refine aI ?_
  refine ag.ret ?_
  refine ab.ret ?_
  obtain rfl:=aH h
  exact ab.LI rfl (hc 3 hJ) (hc 2 bV) (ry rfl)
 ·refine cP ?_
  refine ag.seq ?_
  obtain⟨aW,cc,h⟩:=ay h
  refine ag.draw mixed 11 [some 24,some 25,some 26,some 27,some 28,some 29,some 30,some 31,some 32,none,none] [[],[],[],[2],[],[4],[3,5],[6],[7],[0],[1]] [.val _,.val _,.val _,.val _,.val _,.val _,.val _,.val _,.val _,.j1 3 (.var (aO.1:Vector al 4)),.j1 2 (.var (aO.2:al))] [false,false,false,false,false,false,false,false,false,true,true] (by kernel_rfl) rfl rfl rfl (fun vU=>⟨e5 0 hJ,e5 1 bV,H1 (aQ jT),dI 4 jQ jA,H1 (aQ Bj),dI 5 wD bo,lB cc Tryz.underlying47 fO,qi lO nF,H1 (c7 bo),⟨_,_,rfl,fun L' ao=>sD (i:=3) (aK.id (Vector al 4)) (v:=(aO.1:Vector al 4)) (b':=(aO.1:Vector al 4)) hJ (ad rfl) (ad rfl) (ao _ _ rfl) rfl rfl⟩,⟨_,_,rfl,fun L' ao=>sD (i:=2) (aK.id al) (v:=(aO.2:al)) (b':=(aO.2:al)) bV (ad rfl) (ad rfl) (ao _ _ rfl) rfl rfl⟩,trivial⟩) fun vU=> ?_
  refine aM ?_
  refine aI ?_
  refine ag.ret ?_
  obtain rfl:=aH h
  exact ab.LI rfl (hc 3 hJ) (hc 2 bV) (ry rfl)
theorem Dr {J:Int} {r:al} (h:sh J=some r):bE Tryz.prog 188 [I.of (J)] (I.of (r)):=by
 unfold sh at h
 refine bE.of Tryz.func188 rfl Tryz.ntmps188 rfl fun W A=> ?_
 refine aA ?_
 refine cM et fun aR=> ?_
 refine b2 ?_
 obtain⟨bg,dd,h⟩:=ay h
 refine dp dd (cT (b:= { dt:=18446744073709551615#64,bS:=18446744073709551615#64:al }) rfl hl et (.cons hA rfl (fi 18446744073709551615 rfl) rfl (.cons ec rfl (fi 18446744073709551615 rfl) rfl (.nil)))) ?_
 refine aB ?_
 obtain⟨ak,bt,h⟩:=ay h
 refine ev KM (HO bt) ?_
 refine bd lT ?_
 obtain⟨aO,cq,h⟩:=ay h
 refine ev KN (HV cq) ?_
 refine ck 0 bV ?_
 refine aI ?_
 refine ag.ret ?_
 obtain rfl:=aH h
 exact ab.iT rfl (hc 0 bV)
theorem Ic {J:al} {aj:Int} {r:Bool} (h:sl J aj=some r):bE Tryz.prog 196 [I.of (J),I.of (aj)] (I.of (r)):=by
 unfold sl at h
 refine bE.of Tryz.func196 rfl Tryz.ntmps196 rfl fun W A=> ?_
 refine aA ?_
 refine b8 fun aR=> ?_
 refine aM ?_
 refine b2 ?_
 refine aB ?_
 refine bd kX ?_
 refine aB ?_
 refine dK cU ?_
 refine iW dJ ?_
 refine ig ?_
 refine aB ?_
 refine ea (fun hb=>dP (i:=0) (aK.id al) (r:=J) bV (ad rfl) rfl rfl rfl) ?_
 refine dK cU ?_
 obtain⟨ak,bt,h⟩:=ay h
 refine ea (fun hb=>iQ KN (HV (fC bt hb)) ⟨b3 rfl hb,b3 rfl hb,trivial⟩) ?_
 refine ea (fun hb=>D9 ec Ka ek rfl (b3 rfl hb) rfl rfl) ?_
 refine ea (fun hb=>o1 (b3 rfl hb) (fi 1 rfl)) ?_
 refine ea (fun hb=>uY (b3 rfl hb) (fi 1 rfl)) ?_
 obtain⟨bg,dd,h⟩:=ay h
 refine dp dd (mE (ad rfl) (ad rfl) (fun h=>h)) ?_
 refine aM ?_
 refine aI ?_
 refine ag.ret ?_
 obtain rfl:=aH h
 exact cv
theorem O8 {J:bu} {r:bu} (h:A3 J=some r):bE Tryz.prog 122 [I.of (J)] (I.of (r)):=by
 unfold A3 at h
 refine bE.of Tryz.func122 rfl Tryz.ntmps122 rfl fun W A=> ?_
 refine aA ?_
 refine b8 fun aR=> ?_
 refine cM BX fun a0=> ?_
 refine bK ?_
 obtain⟨ak,bt,h⟩:=ay h
 obtain⟨aO,cq,h⟩:=ay h
 refine ag.draw mixed 7 [some 3,some 4,some 5,some 6,some 7,some 8,some 9] [[],[0],[1],[],[3],[4],[]] [.val _,.val _,.val _,.val _,.val _,.val _,.val _] [false,false,false,false,false,false,false] (by kernel_rfl) rfl rfl rfl (fun c1=>⟨H1 (aQ jT),dI 1 jQ jA,fm Sr (Nt bt),H1 (aQ u9),dI 1 uh sY,fm Ss (Nu cq),H1 (aQ jT),trivial⟩) fun c1=> ?_
 refine po 1 jQ jA ?_
 refine aT (aQ u9) ?_
 obtain⟨bg,dd,h⟩:=ay h
 refine vS 1 uh sY (hb:=by exact dd) ?_
 refine b2 ?_
 refine cm 1 g9 ?_
 refine ck 0 g9 ?_
 refine aI ?_
 refine ag.ret ?_
 obtain rfl:=aH h
 exact ab.iT rfl (hc 0 g9)
theorem Ol {J:bu} {aj:bu} {r:Bool} (h:xb J aj=some r):bE Tryz.prog 265 [I.of (J),I.of (aj)] (I.of (r)):=by
 unfold xb at h
 refine bE.of Tryz.func265 rfl Tryz.ntmps265 rfl fun W A=> ?_
 refine aA ?_
 refine b8 fun aR=> ?_
 refine b8 fun a0=> ?_
 refine aM ?_
 refine b2 ?_
 refine aT (aQ sG) ?_
 refine bL 1 qP bo ?_
 refine aT (aQ sG) ?_
 refine bL 0 qP bo ?_
 refine bd fz ?_
 refine aB ?_
 refine dK (aQ jT) ?_
 refine ea (fun hb=>dP (i:=1) ((aK.id bu).comp jQ) (r:=J.bW) jA (b3 rfl hb) rfl rfl rfl) ?_
 refine dK (aQ jT) ?_
 refine ea (fun hb=>dP (i:=0) ((aK.id bu).comp jQ) (r:=aj.bW) jA (b3 rfl hb) rfl rfl rfl) ?_
 obtain⟨ak,bt,h⟩:=ay h
 refine ea (fun hb=>iQ St (Nv (fC bt hb)) ⟨b3 rfl hb,b3 rfl hb,trivial⟩) ?_
 refine ig ?_
 refine aB ?_
 refine dK (aQ n9) ?_
 refine ea (fun hb=>dP (i:=1) ((aK.id bu).comp n3) (r:=J.g7) bo (b3 rfl hb) rfl rfl rfl) ?_
 refine dK (aQ n9) ?_
 refine ea (fun hb=>dP (i:=0) ((aK.id bu).comp n3) (r:=aj.g7) bo (b3 rfl hb) rfl rfl rfl) ?_
 refine iW fz ?_
 refine ig ?_
 refine aM ?_
 refine aI ?_
 refine ag.ret ?_
 obtain rfl:=aH h
 exact cv
end Go.Proofs.YtmnggbjcnoffeaaGreat
namespace Go.Proofs.YtmnggbjcnoffeaaGreat
open Go Gv
set_option linter.unusedVariables false
set_option linter.unusedSimpArgs false
set_option maxRecDepth 100000
set_option maxHeartbeats 2000000
theorem uR {hp:a1 Cell} {J:Int} {Q:Ref × (a1 Cell)→Prop} (h:A5 hp J Q):cf Tryz.prog 243 [I.of (J)] ([] ++ a3 hp) (δ:= {r:Ref × (a1 Cell) // Q r} × Unit) (fun d=>I.of (d.1.1.1)) (fun d=> [] ++ a3 d.1.1.2):=by
 unfold A5 at h
 refine cf.of Tryz.func243 rfl Tryz.ntmps243 rfl fun W A=> ?_
 refine aA ?_
 refine bj (eW (qU)) ?_
 refine b2 ?_
 refine aB ?_
 refine bd Bz ?_
 refine bd vl ?_
 obtain⟨bg,dd,h⟩:=aC.cJ h
 refine dp dd (cT (b:=({ (default:fM) with ey:=min (max 1 J) 128 } :fM)) rfl Su Sv (.cons r9 rfl (ad rfl) rfl (.nil))) ?_
 refine ai.yZ 0 rfl (Cell.jB bg) (fun _=>rfl) (ad rfl) rfl fun dL ti=> ?_
 replace h:=aC.q3 h dL ti
 refine aM ?_
 refine aI ?_
 refine ag.ret ?_
 exact ab.gv (⟨⟨((some dL.1:Ref),dL.2),h⟩,()⟩: {r // _} × _) (.refl _) rfl rfl (dV rfl)
theorem Nx {J:aJ} {aj:Int} {r:Bool} (h:Ax J aj=some r):bE Tryz.prog 279 [I.of (J),I.ptr aj] (I.of (r)):=by
 unfold Ax at h
 refine bE.of Tryz.func279 rfl Tryz.ntmps279 rfl fun W A=> ?_
 refine aA ?_
 refine b8 fun aR=> ?_
 refine aM ?_
 refine b2 ?_
 refine aT (aQ mC) ?_
 refine bL 0 lN bo ?_
 refine aT (c7 bo) ?_
 refine bd fz ?_
 refine aM ?_
 refine aI ?_
 refine ag.ret ?_
 obtain rfl:=aH h
 exact cv
theorem Nl {J:List aJ} {aj:aJ→Option Bool} {r:Int} (h:wx J aj=some r):bE Tryz.prog 110 [I.of (J),I.th Tryz.prog aj] (I.of (r)):=by
 unfold wx at h
 refine bE.of Tryz.func110 rfl Tryz.ntmps110 rfl fun W A=> ?_
 refine aA ?_
 refine aM ?_
 refine bK ?_
 refine aA ?_
 refine aB ?_
 refine aT (ej Tryz.underlying38) ?_
 refine aB ?_
 refine aI ?_
 refine ag.block ?_
 obtain⟨av,an,h⟩:=ay h
 refine gj (γ:=Unit) (δ:=Unit) an [0,1,7] (fun s1 aw=> [(4,I.of (0:Int)),(8,I.of (s1))]) (fun s1 aw=> []) (fun az=>Sum.elim (fun az=>Exit.exit 0) (fun az=>Exit.ret) az) (fun az aw=>Sum.elim (fun az=> [(4,I.of (0:Int)),(8,I.of (az.1)),(9,I.of (az.2))]) (fun az=> [(4,I.of (az.1)),(5,I.of (az.2.1)),(8,I.of (az.2.2.1)),(9,I.of (az.2.2.2.1)),(16,I.of (az.2.2.2.2))]) az) (fun az aw=>Sum.elim (fun az=> []) (fun az=> []) az) () (fun s1 r h aw=> ?_) fun aw=> ?_
 ·clear an
  refine aA ?_
  refine bd dJ ?_
  refine bK ?_
  refine b4 h (fun h=>?_) fun h=>?_
  ·refine cP ?_
   refine ag.seq ?_
   refine ag.block ?_
   refine aA ?_
   refine aB ?_
   refine aM ?_
   refine b2 ?_
   refine aB ?_
   refine aB ?_
   refine aB ?_
   obtain⟨aW,cc,h⟩:=ay h
   refine gk cc Tryz.underlying38 cO ?_
   refine aT (c7 cO) ?_
   obtain⟨ak,bt,h⟩:=ay h
   refine bj (Be (ad rfl) (ad rfl) bt) ?_
   refine aI ?_
   refine b4 h (fun h=>?_) fun h=>?_
   ·refine aA ?_
    refine aB ?_
    refine aM ?_
    refine aI ?_
    refine ag.ret ?_
    refine ab.c5 ?_
    refine ab.ret ?_
    obtain rfl:=aH h
    exact dE () 0
   ·refine ag.skip ?_
    refine ab.dz ?_
    refine ab.next ?_
    refine ag.cj ?_
    refine bd c8 ?_
    refine aB ?_
    refine ai.nil ?_
    obtain rfl:=aH h
    exact fe () 0
  ·refine ag.exit ?_
   refine ab.exit ?_
   obtain rfl:=aH h
   exact dE () 0
 ·clear an
  rcases av with av | av
  ·simp only [Sum.elim_inl] at h
   refine ab.e4 ?_
   refine ab.next ?_
   refine aA ?_
   refine aM ?_
   refine aI ?_
   refine ag.ret ?_
   obtain rfl:=aH h
   exact cv
  ·simp only [Sum.elim_inr] at h
   refine ab.c5 ?_
   refine ab.ret ?_
   obtain rfl:=aH h
   exact cv
theorem Nj {J:List aJ} {aj:aJ} {aS:aJ→aJ→Option Int} {r:Int × Bool} (h:wv J aj aS=some r):bE Tryz.prog 274 [I.of (J),I.of (aj),I.Cl Tryz.prog aS] (I.cG [I.of (r.1),I.of (r.2)]):=by
 unfold wv at h
 refine bE.of Tryz.func274 rfl Tryz.ntmps274 rfl fun W A=> ?_
 refine aA ?_
 refine b8 fun aR=> ?_
 refine aM ?_
 refine aM ?_
 refine b2 ?_
 refine aB ?_
 refine aT (ej Tryz.underlying38) ?_
 refine aM ?_
 refine b2 ?_
 refine aB ?_
 refine aM ?_
 refine aM ?_
 refine bK ?_
 refine ag.block ?_
 obtain⟨av,an,h⟩:=ay h
 refine gj (γ:=Unit) (δ:=Unit) an [0,1,2,4,6,7,8] (fun s1 aw=> [(9,I.of (s1.1)),(10,I.of (s1.2))]) (fun s1 aw=> []) (fun az=>Exit.exit 0) (fun az aw=> [(9,I.of (az.1)),(10,I.of (az.2.1)),(17,I.of (az.2.2))]) (fun az aw=> []) () (fun s1 r h aw=> ?_) fun aw=> ?_
 ·clear an
  refine ag.seq ?_
  refine aA ?_
  refine aB ?_
  refine aB ?_
  refine bd dJ ?_
  refine aI ?_
  refine b4 h (fun h=>?_) fun h=>?_
  ·refine cP ?_
   refine ag.block ?_
   refine aA ?_
   refine aB ?_
   refine aB ?_
   refine bd c8 ?_
   refine aT (h1 Tryz.underlying3 Tryz.underlying130) ?_
   refine bj (pM (ad rfl) (fi 1 rfl)) ?_
   refine aT (RH Tryz.underlying130 Tryz.underlying3) ?_
   refine aM ?_
   refine bK ?_
   obtain⟨aW,cc,h⟩:=ay h
   obtain⟨ak,bt,h⟩:=ay h
   refine ag.draw mixed 8 [some 24,some 25,some 26,some 27,some 28,some 29,some 30,some 31] [[],[],[],[1,2],[3],[],[0,4,5],[6]] [.val _,.val _,.val _,.val _,.val _,.val _,.val _,.val _] [false,false,false,false,false,false,false,false] (by kernel_rfl) rfl rfl rfl (fun c1=>⟨c3,c3,c3,lB cc Tryz.underlying38 cO,H1 (c7 cO),e5 0 cO,e0 fun L' ao=>I5 (ad rfl) (ad rfl) (ad rfl) bt,iq dJ,trivial⟩) fun c1=> ?_
   refine aI ?_
   obtain⟨bB,cz,h⟩:=ay h
   refine h5 (γ:=Unit) [0,1,2,4,6,7,8,11,17,31] (fun a5=> [(9,I.of (bB.1)),(10,I.of (bB.2))]) (fun a5=> []) (fun a5=> ?_) (fun hm ar=> ?_) fun hm ar=> ?_
   ·clear cz
    refine ab.dz ?_
    obtain rfl:=aH h
    exact fe () 0
   ·have h:=gI ar cz
    refine ag.cj ?_
    refine aB ?_
    obtain⟨bg,dd,h⟩:=ay h
    refine dp dd (c8 (ad rfl) (bD 1)) ?_
    refine aM ?_
    refine ai.nil ?_
    obtain rfl:=aH h
    exact df 0 (hm ())
   ·have h:=gJ ar cz
    refine ag.cj ?_
    refine aB ?_
    refine aM ?_
    refine ai.nil ?_
    obtain rfl:=aH h
    exact df 0 (hm ())
  ·refine ag.exit ?_
   refine ab.exit ?_
   obtain rfl:=aH h
   exact dE () 0
 ·clear an
  refine ab.e4 ?_
  refine ab.next ?_
  refine ag.seq ?_
  refine iC [0,1,2,4,7,8,9,10,17] ?_
  obtain⟨bR,cN,h⟩:=ay h
  obtain⟨aO,cq,h⟩:=ay h
  refine ag.draw mixed 15 [some 35,some 36,some 37,some 38,some 39,some 40,some 41,some 42,some 43,some 44,some 45,some 46,some 47,some 48,some 6] [[],[],[],[1,2],[3],[4],[4],[4],[4,6,7],[4,8],[4],[4,5,9,10],[4,11],[4,12],[0]] [.val _,.val _,.val _,.val _,.val _,.val _,.val _,.val _,.val _,.val _,.val _,.val _,.val _,.val _,.val _] [false,false,false,false,false,false,false,false,false,false,false,false,false,false,false] (by kernel_rfl) rfl rfl rfl (fun jk=>⟨c3,c3,c3,iq dJ,c3,dT fun L' ao=>fun hb=>cU (ad rfl),dT fun L' ao=>fun hb=>cU (ad rfl),dT fun L' ao=>fun hb=>cU (ad rfl),dT fun L' ao=>fun hb=>o7 (k:=bR) Tryz.underlying38 cO (b3 rfl hb) (b3 rfl hb) (cK (fC cN hb)),dT fun L' ao=>fun hb=>c7 cO (b3 rfl hb),dT fun L' ao=>fun hb=>dP (i:=0) (aK.id aJ) (r:=aj) cO (ad rfl) (ao _ _ rfl rfl) rfl rfl,dT fun L' ao=>fun hb=>I5 (b3 rfl hb) (b3 rfl hb) (b3 rfl hb) (fC cq hb),dT fun L' ao=>fun hb=>fz (b3 rfl hb) (bD 0),e0 fun L' ao=>mE (ad rfl) (ad rfl) (fun h=>h),tO,trivial⟩) fun jk=> ?_
  refine aM ?_
  refine aI ?_
  refine ag.ret ?_
  obtain rfl:=aH h
  exact Mc
theorem HJ {J:Int} {r:Bool} (h:xc J=some r):bE Tryz.prog 126 [I.of (J)] (I.of (r)):=by
 unfold xc at h
 refine bE.of Tryz.func126 rfl Tryz.ntmps126 rfl fun W A=> ?_
 refine aA ?_
 refine aM ?_
 refine b2 ?_
 refine aB ?_
 refine aB ?_
 refine bd pX ?_
 refine aM ?_
 refine aI ?_
 refine ag.ret ?_
 obtain rfl:=aH h
 exact cv
theorem Np {J:List cB} {aj:cB→Option Bool} {r:Int} (h:wB J aj=some r):bE Tryz.prog 146 [I.of (J),I.th Tryz.prog aj] (I.of (r)):=by
 unfold wB at h
 refine bE.of Tryz.func146 rfl Tryz.ntmps146 rfl fun W A=> ?_
 refine aA ?_
 refine aM ?_
 refine bK ?_
 refine aA ?_
 refine aB ?_
 refine aT (ej Tryz.underlying62) ?_
 refine aB ?_
 refine aI ?_
 refine ag.block ?_
 obtain⟨av,an,h⟩:=ay h
 refine gj (γ:=Unit) (δ:=Unit) an [0,1,7] (fun s1 aw=> [(4,I.of (0:Int)),(8,I.of (s1))]) (fun s1 aw=> []) (fun az=>Sum.elim (fun az=>Exit.exit 0) (fun az=>Exit.ret) az) (fun az aw=>Sum.elim (fun az=> [(4,I.of (0:Int)),(8,I.of (az.1)),(9,I.of (az.2))]) (fun az=> [(4,I.of (az.1)),(5,I.of (az.2.1)),(8,I.of (az.2.2.1)),(9,I.of (az.2.2.2.1)),(16,I.of (az.2.2.2.2))]) az) (fun az aw=>Sum.elim (fun az=> []) (fun az=> []) az) () (fun s1 r h aw=> ?_) fun aw=> ?_
 ·clear an
  refine aA ?_
  refine bd dJ ?_
  refine bK ?_
  refine b4 h (fun h=>?_) fun h=>?_
  ·refine cP ?_
   refine ag.seq ?_
   refine ag.block ?_
   refine aA ?_
   refine aB ?_
   refine aM ?_
   refine b2 ?_
   refine aB ?_
   refine aB ?_
   refine aB ?_
   obtain⟨aW,cc,h⟩:=ay h
   refine gk cc Tryz.underlying62 g8 ?_
   refine aT (c7 g8) ?_
   obtain⟨ak,bt,h⟩:=ay h
   refine bj (Be (ad rfl) (ad rfl) bt) ?_
   refine aI ?_
   refine b4 h (fun h=>?_) fun h=>?_
   ·refine aA ?_
    refine aB ?_
    refine aM ?_
    refine aI ?_
    refine ag.ret ?_
    refine ab.c5 ?_
    refine ab.ret ?_
    obtain rfl:=aH h
    exact dE () 0
   ·refine ag.skip ?_
    refine ab.dz ?_
    refine ab.next ?_
    refine ag.cj ?_
    refine bd c8 ?_
    refine aB ?_
    refine ai.nil ?_
    obtain rfl:=aH h
    exact fe () 0
  ·refine ag.exit ?_
   refine ab.exit ?_
   obtain rfl:=aH h
   exact dE () 0
 ·clear an
  rcases av with av | av
  ·simp only [Sum.elim_inl] at h
   refine ab.e4 ?_
   refine ab.next ?_
   refine aA ?_
   refine aM ?_
   refine aI ?_
   refine ag.ret ?_
   obtain rfl:=aH h
   exact cv
  ·simp only [Sum.elim_inr] at h
   refine ab.c5 ?_
   refine ab.ret ?_
   obtain rfl:=aH h
   exact cv
theorem N8 {J:cB} {r:Bool} (h:Di J=some r):bE Tryz.prog 207 [I.of (J)] (I.of (r)):=by
 unfold Di at h
 refine bE.of Tryz.func207 rfl Tryz.ntmps207 rfl fun W A=> ?_
 refine aA ?_
 refine b8 fun aR=> ?_
 refine aM ?_
 refine b2 ?_
 refine aT (aQ ra) ?_
 refine bL 0 kP bo ?_
 refine bd fz ?_
 refine aM ?_
 refine aI ?_
 refine ag.ret ?_
 obtain rfl:=aH h
 exact cv
end Go.Proofs.YtmnggbjcnoffeaaGreat
