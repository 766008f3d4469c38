/-
  Each function meets its functional program. Conditions: none.
-/
import Derived.Test.YtmnggbjcnoffeaaGreatMc0
import Derived.Test.YtmnggbjcnoffeaaGreatMc3
import Derived.Test.YtmnggbjcnoffeaaGreatMc1
import Derived.Test.YtmnggbjcnoffeaaGreatMc2
namespace Go.Proofs.YtmnggbjcnoffeaaGreat
open Go Gv
set_option linter.unusedVariables false
set_option linter.unusedSimpArgs false
set_option maxRecDepth 100000
set_option maxHeartbeats 2000000
theorem HF {hp:a1 Cell} {J:Ref} {aj:al} {aS:Int} {r:Ref} (h:uq hp J aj aS=some r):cf Tryz.prog 247 [I.of (J),I.of (aj),I.of (aS)] ([] ++ a3 hp) (δ:=Unit) (fun _=>I.of (r)) (fun _=> [] ++ a3 hp):=by
 unfold uq at h
 refine cf.ofM Tryz.func247 rfl Tryz.ntmps247 rfl fun W A=> ?_
 refine aA ?_
 refine b8 fun aR=> ?_
 refine cM BN fun a0=> ?_
 refine bK ?_
 refine aA ?_
 refine aB ?_
 refine cm 1 bV ?_
 refine aB ?_
 obtain⟨ak,bt,h⟩:=ay h
 refine ai.lf (gO.lr 2 rfl K1 (HB bt) ⟨ad rfl,ad rfl,ad rfl,trivial⟩) rfl rfl rfl ?_
 refine aT iy ?_
 refine aI ?_
 refine b4 h (fun h=>?_) fun h=>?_
 ·refine aA ?_
  refine ai.store (i:=0) (aK.id Ref) (v:=((none:Ref):Ref)) (b':=((none:Ref):Ref)) eX (ad rfl) (qU) rfl rfl rfl ?_
  refine aI ?_
  refine ag.ret ?_
  refine ab.ret ?_
  obtain rfl:=aH h
  refine ab.B0 ?_
  exact ab.gv () (.cons _ (.cons _ (.refl _))) rfl rfl (jy (i:=0) eX rfl rfl)
 ·refine cP ?_
  refine aA ?_
  refine aB ?_
  obtain⟨cW,eA,h⟩:=ay h
  refine bj (eI (fv (ad rfl) eA)) ?_
  refine aT (aQ xV) ?_
  obtain⟨cd,ff,h⟩:=ay h
  refine bj (hj ((aK.id fM).comp w1) (r:=cd.cV) eX (ad rfl) (gn (n:=2) rfl (nG ff) rfl) rfl rfl) ?_
  refine cM BN fun bF=> ?_
  refine ck 0 eX ?_
  refine bK ?_
  refine aA ?_
  refine aB ?_
  refine cm 2 bV ?_
  refine aB ?_
  obtain⟨aO,cq,h⟩:=ay h
  refine ev E8 (Dn cq) ?_
  refine aI ?_
  refine ag.block ?_
  obtain⟨av,an,h⟩:=ay h
  refine IJ (hp:=hp) (γ:=Unit) (g0:=()) (Ls:=fun s1 aw=>(⟨some bF,.var (s1:Ref)⟩ :: ⟨some a0,.var ((default:Ref):Ref)⟩ :: ⟨some aR,.var (aj:al)⟩ :: a3 hp)) (Lx:=fun az aw=>(⟨some bF,.var (az.1:Ref)⟩ :: ⟨some a0,.var (az.2:Ref)⟩ :: ⟨some aR,.var (aj:al)⟩ :: a3 hp)) (fun s1 aw=> [⟨some bF,.var (s1:Ref)⟩,⟨some a0,.var ((default:Ref):Ref)⟩,⟨some aR,.var (aj:al)⟩]) (fun az=> .ret) rfl E9 rfl Hu an (fun _ _=>rfl) rfl rfl (fun rI s1 r h aw kp kz kq l D rec tq=> ?_) (fun s1 aU aw D=> ?_) (fun az aU aw D=> ?_)
  ·clear an
   refine ag.cj ?_
   refine aM ?_
   refine ai.nil ?_
   refine ab.begin 0 rfl tq ?_
   refine ag.block ?_
   refine ag.seq ?_
   refine aA ?_
   refine cm 2 eX ?_
   refine bj (m9 Tryz.underlying331 (ad rfl)) ?_
   refine aI ?_
   refine b4 h (fun h=>?_) fun h=>?_
   ·refine aA ?_
    refine ai.store (i:=3) (aK.id Ref) (v:=((none:Ref):Ref)) (b':=((none:Ref):Ref)) eX (ad rfl) (qU) rfl rfl rfl ?_
    refine aI ?_
    refine ag.ret ?_
    refine ab.ret ?_
    refine ab.c5 ?_
    obtain rfl:=aH h
    exact ab.EF () 0 rfl rfl rfl
   ·refine cP ?_
    refine ag.cj ?_
    refine cm 2 eX ?_
    refine aB ?_
    obtain⟨ct,fQ,h⟩:=ay h
    refine bj (eI (fv (ad rfl) fQ)) ?_
    refine aT (aQ xW) ?_
    obtain⟨aW,cc,h⟩:=ay h
    refine bj (fj (k:=aW) yz (ad rfl) (ad rfl) (cK cc)) ?_
    obtain⟨cS,gD,h⟩:=ay h
    refine bj (hj (((aK.id ep).comp wE).comp (aK.idx (α:=Ref) 2 aW (cK cc).1)) (r:=bJ cS.er aW) eX (ad rfl) (gn (n:=5) rfl (lp gD) rfl) rfl rfl) ?_
    refine ck 2 eX ?_
    refine ai.nil ?_
    refine ab.dz ?_
    obtain rfl:=aH h
    exact ab.Mh () 0 rfl
  ·clear an; subst aU; simp only [Sum.elim_inl] at h
   refine ab.en (L2:=(⟨some D,.db⟩ :: ⟨some bF,.var (s1:Ref)⟩ :: ⟨some a0,.var ((default:Ref):Ref)⟩ :: ⟨some aR,.var (aj:al)⟩ :: a3 hp)) rfl ?_
   refine ab.dz ?_
   refine ab.next ?_
   refine aA ?_
   refine cm 1 eX ?_
   refine ck 2 eX ?_
   refine aI ?_
   refine ag.ret ?_
   obtain rfl:=aH h
   refine ab.s8 0 rfl rfl ?_
   exact ab.gv () (.cons _ (.cons _ (.cons _ (.cons _ (.refl _))))) rfl rfl (jy (i:=2) eX rfl rfl)
  ·clear an; subst aU; simp only [Sum.elim_inr] at h
   refine ag.ret ?_
   refine ab.en (L2:=(⟨some D,.db⟩ :: ⟨some bF,.var (az.1:Ref)⟩ :: ⟨some a0,.var (az.2:Ref)⟩ :: ⟨some aR,.var (aj:al)⟩ :: a3 hp)) rfl ?_
   refine ab.c5 ?_
   refine ab.ret ?_
   obtain rfl:=aH h
   refine ab.s8 0 rfl rfl ?_
   exact ab.gv () (.cons _ (.cons _ (.cons _ (.cons _ (.refl _))))) rfl rfl (jy (i:=2) eX rfl rfl)
theorem ND {J:cF} {b6:Nat} {ju:Option Nat} {jv:Nat} {r:(List aJ)} (h:wG J=some r):cf Tryz.prog 264 [I.eq (.pointer (some ⟨b6,0,none⟩))] [⟨some b6,.cg (({ J with cb:= [] } :cF):cF) [(10,aV ju J.cb.length jv)]⟩,⟨ju,.row 52 (J.cb:List aJ) jv⟩] (δ:=Unit) (fun d=>I.of (r)) (fun d=> [⟨some b6,.cg (({ J with cb:= [] } :cF):cF) [(10,aV ju (J.cb).length jv)]⟩,⟨ju,.row 52 (J.cb:List aJ) jv⟩]):=by
 unfold wG at h
 refine cf.of Tryz.func264 rfl Tryz.ntmps264 rfl fun W A=> ?_
 refine aA ?_
 refine bj (eW (look_nil (α:=aJ))) ?_
 refine bK ?_
 refine aA ?_
 refine aB ?_
 refine bj (EG Tryz.underlying170 (ad rfl)) ?_
 refine aI ?_
 refine ag.sO (ad rfl) rfl ?_
 refine cP ?_
 refine aA ?_
 refine aB ?_
 refine aT eI ?_
 refine aT (aQ uZ) ?_
 refine bj (iO (i:=0) (q:=0) (β:=cF) (γ:=aJ) s0 (ad rfl) rfl rfl) ?_
 obtain⟨ak,bt,h⟩:=ay h
 refine ai.lf (gO.call [1] SQ (OZ bt) ⟨ad rfl,trivial⟩ rfl ⟨rfl,trivial⟩ rfl) rfl rfl rfl ?_
 refine aM ?_
 refine aI ?_
 refine ag.ret ?_
 refine ab.bI 1 rfl ?_
 refine ab.bI 1 rfl ?_
 obtain rfl:=aH h
 exact mS ()
theorem HY {J:aY} {aj:aJ} {aS:aJ} {r:Bool} (h:uK J aj aS=some r):bE Tryz.prog 150 [I.of (J),I.of (aj),I.of (aS)] (I.of (r)):=by
 unfold uK at h
 refine bE.of Tryz.func150 rfl Tryz.ntmps150 rfl fun W A=> ?_
 refine aA ?_
 refine b8 fun aR=> ?_
 refine b8 fun a0=> ?_
 refine b8 fun bF=> ?_
 refine aM ?_
 refine bK ?_
 obtain⟨ak,bt,h⟩:=ay h
 obtain⟨aO,cq,h⟩:=ay h
 obtain⟨bc,fb,h⟩:=ay h
 obtain⟨br,fY,h⟩:=ay h
 obtain⟨cx,ih,h⟩:=ay h
 obtain⟨dr,jG,h⟩:=ay h
 refine ag.draw mixed 24 ((some 7) :: (some 8) :: (some 9) :: (some 10) :: (some 11) :: (some 12) :: (some 13) :: (some 14) :: (some 15) :: (some 16) :: (some 17) :: (some 18) :: (some 19) :: (some 20) :: (some 21) :: (some 22) :: (some 23) :: (some 24) :: (some 25) :: (some 26) :: (some 27) :: (some 28) :: (some 29) :: (some 30) :: []) ([] :: [0] :: [1] :: [] :: [3] :: [4] :: [2,5] :: [] :: [] :: [8] :: [7,9] :: [] :: [] :: [12] :: [11,13] :: [10,14] :: [] :: [16] :: [] :: [18] :: [17,19] :: [6,15,20] :: [21] :: [22] :: []) (.val _ :: .val _ :: .val _ :: .val _ :: .val _ :: .val _ :: .val _ :: .val _ :: .val _ :: .val _ :: .val _ :: .val _ :: .val _ :: .val _ :: .val _ :: .val _ :: .val _ :: .val _ :: .val _ :: .val _ :: .val _ :: .val _ :: .val _ :: .val _ :: []) (false :: false :: false :: false :: false :: false :: false :: false :: false :: false :: false :: false :: false :: false :: false :: false :: false :: false :: false :: false :: false :: false :: false :: false :: []) (by kernel_rfl) rfl rfl rfl (fun c1=>⟨H1 (aQ jx),H1 (aQ n9),dI 1 (jd.comp n3) bo,H1 (aQ jx),H1 (aQ n9),dI 0 (jd.comp n3) bo,fm Fu (Dm bt),e5 2 fs,H1 (aQ jx),dI 1 jd g9,fm K2 (HQ cq),e5 2 fs,H1 (aQ jx),dI 0 jd g9,fm K2 (HQ fb),fm Fu (Dm fY),H1 (aQ mC),dI 1 lN bo,H1 (aQ mC),dI 0 lN bo,fm Fu (Dm ih),e0 fun L' ao=>iR (r:= [ak,br,cx]) Tryz.underlying63 bo g4 rfl rfl (.cons (by simp) (ad rfl) (.cons (by simp) (ad rfl) (.cons (by simp) (ad rfl) (.nil)))),fm SR (OP jG),iq ni,trivial⟩) fun c1=> ?_
 refine aM ?_
 refine aI ?_
 refine ag.ret ?_
 obtain rfl:=aH h
 exact cv
end Go.Proofs.YtmnggbjcnoffeaaGreat
namespace Go.Proofs.YtmnggbjcnoffeaaGreat
open Go Gv
set_option linter.unusedVariables false
set_option linter.unusedSimpArgs false
set_option maxRecDepth 100000
set_option maxHeartbeats 2000000
theorem Ot {J:aY} {aj:bu} {aS:Vector al 4} {r:Bool} (h:xh J aj aS=some r):bE Tryz.prog 73 [I.of (J),I.of (aj),I.of (aS)] (I.of (r)):=by
 unfold xh at h
 refine bE.of Tryz.func73 rfl Tryz.ntmps73 rfl fun W A=> ?_
 refine aA ?_
 refine b8 fun aR=> ?_
 refine b8 fun a0=> ?_
 refine b8 fun bF=> ?_
 refine aM ?_
 refine bK ?_
 obtain⟨ak,bt,h⟩:=ay h
 obtain⟨aW,cc,h⟩:=ay h
 refine ag.draw mixed 9 [some 10,some 11,some 12,some 13,some 14,some 15,some 16,some 17,some 7] [[],[0],[],[],[3],[2,4],[1,5],[6],[]] [.val _,.val _,.val _,.val _,.val _,.val _,.val _,.val _,.new (.var (default:bN))] [false,false,false,false,false,false,false,false,false] (by kernel_rfl) rfl rfl rfl (fun c1=>⟨H1 (aQ mB),dI 2 mn lW,e5 2 fs,H1 (aQ sG),dI 1 qP bo,fm KW (HL bt),lB cc Tryz.underlying28 fG,H1 (c7 fG),o0 kJ,trivial⟩) fun c1=> ?_
 refine ck 0 fG ?_
 refine bK ?_
 refine aA ?_
 refine aT (aQ kg) ?_
 refine bL 0 iK jY ?_
 refine aT (ej Tryz.underlying62) ?_
 refine aB ?_
 refine aI ?_
 refine ag.block ?_
 obtain⟨av,an,h⟩:=ay h
 refine gj (γ:=Unit) (δ:=Unit) an [0,1,2,3,4,5,6,7,19,20] (fun s1 aw=> [(21,I.of (s1))]) (fun s1 aw=> []) (fun az=>Sum.elim (fun az=>Exit.exit 0) (fun az=>Exit.ret) az) (fun az aw=>Sum.elim (fun az=> [(21,I.of (az.1)),(22,I.of (az.2))]) (fun az=> [(8,I.of (az.1)),(21,I.of (az.2.1)),(22,I.of (az.2.2.1)),(41,I.of (az.2.2.2))]) az) (fun az aw=>Sum.elim (fun az=> []) (fun az=> []) az) () (fun s1 r h aw=> ?_) fun aw=> ?_
 ·clear an
  refine aA ?_
  refine bd dJ ?_
  refine bK ?_
  refine b4 h (fun h=>?_) fun h=>?_
  ·refine cP ?_
   refine ag.seq ?_
   refine ag.block ?_
   refine aA ?_
   refine aB ?_
   obtain⟨bR,cN,h⟩:=ay h
   refine gk cN Tryz.underlying62 g8 ?_
   refine aT (c7 g8) ?_
   refine cM iz fun cA=> ?_
   refine aM ?_
   refine ck 0 g8 ?_
   refine bK ?_
   obtain⟨dj,gp,h⟩:=ay h
   obtain⟨aO,cq,h⟩:=ay h
   obtain⟨hM,jE,h⟩:=ay h
   obtain⟨bc,fb,h⟩:=ay h
   refine ag.draw mixed 16 ((some 26) :: (some 27) :: (some 28) :: (some 29) :: (some 30) :: (some 31) :: (some 32) :: (some 33) :: (some 34) :: (some 35) :: (some 36) :: (some 37) :: (some 38) :: (some 39) :: (some 40) :: (some 41) :: []) ([] :: [0] :: [] :: [1,2] :: [3] :: [] :: [5] :: [] :: [] :: [] :: [7,8,9] :: [] :: [11] :: [12] :: [4,6,10,13] :: [14] :: []) (.val _ :: .val _ :: .val _ :: .val _ :: .val _ :: .val _ :: .val _ :: .val _ :: .val _ :: .val _ :: .val _ :: .val _ :: .val _ :: .val _ :: .val _ :: .val _ :: []) (false :: false :: false :: false :: false :: false :: false :: false :: false :: false :: false :: false :: false :: false :: false :: false :: []) (by kernel_rfl) rfl rfl rfl (fun jk=>⟨H1 (aQ jT),dI 3 jQ jA,c3,lB gp Tryz.underlying47 fO,H1 (c7 fO),H1 (aQ ra),dI 0 kP bo,e5 4 fs,e5 1 fG,c3,fm Us (On cq),c3,e0 fun L' ao=>fj (k:=hM) lx (ad rfl) (ad rfl) (cK jE),dI 2 ((aK.id (Vector al 4)).comp (aK.idx (α:=al) 4 hM (cK jE).1)) bV,fm SS (OD fb),H1 iy,trivial⟩) fun jk=> ?_
   refine aI ?_
   refine b4 h (fun h=>?_) fun h=>?_
   ·refine aA ?_
    refine aM ?_
    refine aI ?_
    refine ag.ret ?_
    refine ab.c5 ?_
    refine ab.ret ?_
    obtain rfl:=aH h
    exact dE () 1
   ·refine ag.skip ?_
    refine ab.dz ?_
    refine ab.next ?_
    refine ag.cj ?_
    refine bd c8 ?_
    refine aB ?_
    refine ai.nil ?_
    obtain rfl:=aH h
    exact fe () 1
  ·refine ag.exit ?_
   refine ab.exit ?_
   obtain rfl:=aH h
   exact dE () 0
 ·clear an
  rcases av with av | av
  ·simp only [Sum.elim_inl] at h
   refine ab.e4 ?_
   refine ab.next ?_
   refine aA ?_
   refine aM ?_
   refine aI ?_
   refine ag.ret ?_
   obtain rfl:=aH h
   exact cv
  ·simp only [Sum.elim_inr] at h
   refine ab.c5 ?_
   refine ab.ret ?_
   obtain rfl:=aH h
   exact cv
theorem Ou {J:bu} {aj:bu} {r:Int} (h:xi J aj=some r):bE Tryz.prog 100 [I.of (J),I.of (aj)] (I.of (r)):=by
 unfold xi at h
 refine bE.of Tryz.func100 rfl Tryz.ntmps100 rfl fun W A=> ?_
 refine aA ?_
 refine b8 fun aR=> ?_
 refine b8 fun a0=> ?_
 refine aM ?_
 refine bK ?_
 refine ag.seq ?_
 obtain⟨ak,bt,h⟩:=ay h
 obtain⟨aO,cq,h⟩:=ay h
 obtain⟨bc,fb,h⟩:=ay h
 obtain⟨br,fY,h⟩:=ay h
 refine ag.draw mixed 23 ((some 7) :: (some 8) :: (some 9) :: (some 10) :: (some 11) :: (some 12) :: (some 13) :: (some 14) :: (some 15) :: (some 16) :: (some 17) :: (some 18) :: (some 19) :: (some 20) :: (some 21) :: (some 22) :: (some 23) :: (some 24) :: (some 25) :: (some 26) :: (some 27) :: (some 28) :: (some 29) :: []) ([] :: [0] :: [] :: [2] :: [1,3] :: [] :: [5] :: [] :: [7] :: [6,8] :: [] :: [10] :: [] :: [12] :: [11,13] :: [] :: [15] :: [] :: [17] :: [16,18] :: [4,9,14,19] :: [20] :: [] :: []) (.val _ :: .val _ :: .val _ :: .val _ :: .val _ :: .val _ :: .val _ :: .val _ :: .val _ :: .val _ :: .val _ :: .val _ :: .val _ :: .val _ :: .val _ :: .val _ :: .val _ :: .val _ :: .val _ :: .val _ :: .val _ :: .val _ :: .val _ :: []) (false :: false :: false :: false :: false :: false :: false :: false :: false :: false :: false :: false :: false :: false :: false :: false :: false :: false :: false :: false :: false :: false :: false :: []) (by kernel_rfl) rfl rfl rfl (fun c1=>⟨H1 (aQ sG),dI 1 qP bo,H1 (aQ sG),dI 0 qP bo,fm vt (uE bt),H1 (aQ n9),dI 0 n3 bo,H1 (aQ n9),dI 1 n3 bo,fm vt (uE cq),H1 (aQ jT),dI 1 jQ jA,H1 (aQ jT),dI 0 jQ jA,fm SU (Oq fb),H1 (aQ Bs),dI 1 AB bo,H1 (aQ Bs),dI 0 AB bo,fm vt (uE fY),e0 fun L' ao=>iR (r:= [ak,aO,bc,br]) Tryz.underlying63 bo g4 rfl rfl (.cons (by simp) (ad rfl) (.cons (by simp) (ad rfl) (.cons (by simp) (ad rfl) (.cons (by simp) (ad rfl) (.nil))))),H1 (ej Tryz.underlying63),c3,trivial⟩) fun c1=> ?_
 refine aI ?_
 refine ag.block ?_
 obtain⟨av,an,h⟩:=ay h
 refine gj (γ:=Unit) (δ:=Unit) an [0,1,2,3,27,28] (fun s1 aw=> [(4,I.of (0:Int)),(29,I.of (s1))]) (fun s1 aw=> []) (fun az=>Sum.elim (fun az=>Exit.exit 0) (fun az=>Exit.ret) az) (fun az aw=>Sum.elim (fun az=> [(4,I.of (0:Int)),(29,I.of (az.1)),(30,I.of (az.2))]) (fun az=> [(4,I.of (az.1)),(6,I.of (az.2.1)),(29,I.of (az.2.2.1)),(30,I.of (az.2.2.2.1)),(34,I.of (az.2.2.2.2))]) az) (fun az aw=>Sum.elim (fun az=> []) (fun az=> []) az) () (fun s1 r h aw=> ?_) fun aw=> ?_
 ·clear an
  refine aA ?_
  refine bd dJ ?_
  refine bK ?_
  refine b4 h (fun h=>?_) fun h=>?_
  ·refine cP ?_
   refine ag.seq ?_
   refine ag.block ?_
   refine aA ?_
   obtain⟨aW,cc,h⟩:=ay h
   refine gk cc Tryz.underlying63 bo ?_
   refine aT (c7 bo) ?_
   refine aM ?_
   refine b2 ?_
   refine aB ?_
   refine bd pX ?_
   refine aI ?_
   refine b4 h (fun h=>?_) fun h=>?_
   ·refine aA ?_
    refine aB ?_
    refine aM ?_
    refine aI ?_
    refine ag.ret ?_
    refine ab.c5 ?_
    refine ab.ret ?_
    obtain rfl:=aH h
    exact dE () 0
   ·refine ag.skip ?_
    refine ab.dz ?_
    refine ab.next ?_
    refine ag.cj ?_
    refine bd c8 ?_
    refine aB ?_
    refine ai.nil ?_
    obtain rfl:=aH h
    exact fe () 0
  ·refine ag.exit ?_
   refine ab.exit ?_
   obtain rfl:=aH h
   exact dE () 0
 ·clear an
  rcases av with av | av
  ·simp only [Sum.elim_inl] at h
   refine ab.e4 ?_
   refine ab.next ?_
   refine aA ?_
   refine aT (aQ u9) ?_
   refine bL 1 uh sY ?_
   refine aT (aQ u9) ?_
   refine bL 0 uh sY ?_
   obtain⟨cx,ih,h⟩:=ay h
   refine ev SV (OF ih) ?_
   refine aM ?_
   refine aI ?_
   refine ag.ret ?_
   obtain rfl:=aH h
   exact cv
  ·simp only [Sum.elim_inr] at h
   refine ab.c5 ?_
   refine ab.ret ?_
   obtain rfl:=aH h
   exact cv
theorem Ov {hp:a1 Cell} {J:Ref} {aj:al} {aS:Int} {r:Int × Bool} (h:uz hp J aj aS=some r):cf Tryz.prog 240 [I.of (J),I.of (aj),I.of (aS)] ([] ++ a3 hp) (δ:=Unit) (fun _=>I.cG [I.of (r.1),I.of (r.2)]) (fun _=> [] ++ a3 hp):=by
 unfold uz at h
 refine cf.of Tryz.func240 rfl Tryz.ntmps240 rfl fun W A=> ?_
 refine aA ?_
 refine b8 fun aR=> ?_
 refine aM ?_
 refine aM ?_
 refine b2 ?_
 refine aB ?_
 refine cm 0 bV ?_
 refine aB ?_
 obtain⟨ak,bt,h⟩:=ay h
 refine ai.lf (gO.lr 1 rfl K3 (HF bt) ⟨ad rfl,ad rfl,ad rfl,trivial⟩) rfl rfl rfl ?_
 refine aM ?_
 refine bK ?_
 refine aA ?_
 refine aB ?_
 refine bj (m9 Tryz.underlying331 (ad rfl)) ?_
 refine aB ?_
 refine dK cU ?_
 obtain⟨cW,eA,h⟩:=ay h
 refine ea (fun hb=>eI (fv (b3 rfl hb) (fC eA hb))) ?_
 refine dK (aQ sx) ?_
 obtain⟨cd,ff,h⟩:=ay h
 refine ea (fun hb=>hj ((aK.id ep).comp sa) (r:=cd.eV) fk (b3 rfl hb) (gn (n:=1) rfl (lp (fC ff hb)) rfl) rfl rfl) ?_
 refine dK iy ?_
 refine tj ?_
 refine aI ?_
 refine b4 h (fun h=>?_) fun h=>?_
 ·refine aA ?_
  refine aM ?_
  refine aM ?_
  refine aI ?_
  refine ag.ret ?_
  refine ab.ret ?_
  obtain rfl:=aH h
  exact ab.kF () (.cons _ (.refl _)) rfl rfl (dV rfl) (dV rfl)
 ·refine cP ?_
  refine aA ?_
  refine aB ?_
  obtain⟨ct,fQ,h⟩:=ay h
  refine bj (eI (fv (ad rfl) fQ)) ?_
  refine aT (aQ Eb) ?_
  obtain⟨cS,gD,h⟩:=ay h
  refine bj (hj ((aK.id ep).comp Dl) (r:=cS.jC) bo (ad rfl) (gn (n:=1) rfl (lp gD) rfl) rfl rfl) ?_
  refine aM ?_
  refine aM ?_
  refine aI ?_
  refine ag.ret ?_
  obtain rfl:=aH h
  exact ab.kF () (.cons _ (.refl _)) rfl rfl (dV rfl) (dV rfl)
end Go.Proofs.YtmnggbjcnoffeaaGreat
namespace Go.Proofs.YtmnggbjcnoffeaaGreat
open Go Gv
set_option linter.unusedVariables false
set_option linter.unusedSimpArgs false
set_option maxRecDepth 100000
set_option maxHeartbeats 2000000
theorem Nm {aj:cF} {aS:Vector al 4} {hr:Nat} {kR:Option Nat} {kS:Nat} :x8 Tryz.prog 277 [I.rY (I.eq (.pointer (some ⟨hr,0,none⟩))),I.ptr aS] [⟨some hr,.cg (({ aj with cb:= [] } :cF):cF) [(10,aV kR aj.cb.length kS)]⟩,⟨kR,.row 52 (aj.cb:List aJ) kS⟩] (fun v:aJ=>I.of v) (fun {σ ε} =>wy (σ:=σ) (ε:=ε) aj aS):=by
 refine x8.of Tryz.func277 rfl Tryz.ntmps277 rfl ?_
 intro σ ε γ Ls Lx step b1 g0 r h W A u rZ
 replace h:wy aj aS step b1=some r:=h
 unfold wy at h
 refine aA ?_
 refine bj (JG Tryz.underlying170 rfl (ad rfl)) ?_
 refine aT eI ?_
 refine aT (aQ uZ) ?_
 refine bj (iO (i:=0) (q:=0) (β:=cF) (γ:=aJ) s0 (ad rfl) rfl rfl) ?_
 refine bj (sH (i:=1) Tryz.underlying38 (ad rfl) rfl rfl) ?_
 refine aB ?_
 refine aI ?_
 refine ag.block ?_
 obtain⟨av,an,h⟩:=ay h
 refine ag.sR (σ:=Int × (σ)) (ε:=(Int × Bool × (σ)) ⊕ (Int × Bool × Bool × (ε))) (γ:=γ) (δ:=γ) an (fun s1 aw=> [(0,I.eq u),(1,I.rY (I.eq (.pointer (some ⟨hr,0,none⟩)))),(2,I.ptr aS),(9,I.eq (aV kR aj.cb.length kS)),(10,I.of (aj.cb.length:Int)),(11,I.of (s1.1))]) (fun s1 aw=>(⟨some hr,.cg (({ aj with cb:= [] } :cF):cF) [(10,aV kR aj.cb.length kS)]⟩ :: ⟨kR,.row 52 (aj.cb:List aJ) kS⟩ :: Ls s1.2 aw)) (fun az=>Sum.elim (fun az=>Exit.exit 0) (fun az=>Exit.ret) az) (fun az aw=>Sum.elim (fun az=> [(0,I.eq u),(1,I.rY (I.eq (.pointer (some ⟨hr,0,none⟩)))),(2,I.ptr aS),(9,I.eq (aV kR aj.cb.length kS)),(10,I.of (aj.cb.length:Int)),(11,I.of (az.1)),(12,I.of (az.2.1))]) (fun az=> [(0,I.eq u),(1,I.rY (I.eq (.pointer (some ⟨hr,0,none⟩)))),(2,I.ptr aS),(9,I.eq (aV kR aj.cb.length kS)),(10,I.of (aj.cb.length:Int)),(11,I.of (az.1)),(12,I.of (az.2.1)),(28,I.of (az.2.2.1))]) az) (fun az aw=>Sum.elim (fun az=>(⟨some hr,.cg (({ aj with cb:= [] } :cF):cF) [(10,aV kR aj.cb.length kS)]⟩ :: ⟨kR,.row 52 (aj.cb:List aJ) kS⟩ :: Ls az.2.2 aw)) (fun az=>(⟨some hr,.cg (({ aj with cb:= [] } :cF):cF) [(10,aV kR aj.cb.length kS)]⟩ :: ⟨kR,.row 52 (aj.cb:List aJ) kS⟩ :: Lx az.2.2.2 aw)) az) g0 rfl (.same rfl (.same rfl (.same rfl (.same rfl (.same rfl (.same rfl .nil)))))) (fun s1 r h aw=> ?_) (fun aw=> ?_)
 ·clear an
  refine aA ?_
  refine bd dJ ?_
  refine bK ?_
  refine b4 h (fun h=>?_) fun h=>?_
  ·refine cP ?_
   refine ag.seq ?_
   refine ag.block ?_
   refine aA ?_
   obtain⟨aW,cc,h⟩:=ay h
   refine bj (rq (i:=1) (k:=aW) (xs:=(aj.cb:List aJ)) Tryz.underlying38 cO (ad rfl) (ad rfl) rfl (cK cc)) ?_
   refine bj (Ed (i:=1) (k:=aW) (aK.id aJ) (r:=(aF aj.cb aW)) cO (ad rfl) rfl (cK cc).1 rfl rfl) ?_
   refine cM hn fun aR=> ?_
   refine ck 0 cO ?_
   refine bK ?_
   obtain⟨ak,bt,h⟩:=ay h
   refine ag.draw mixed 11 [some 15,some 16,some 17,some 18,some 19,some 20,some 21,some 22,some 23,some 24,some 25] [[],[0],[1],[2],[],[4],[],[3,5,6],[7],[8],[8]] [.val _,.val _,.val _,.val _,.val _,.val _,.val _,.val _,.val _,.val _,.val _] [false,false,false,false,false,false,false,false,false,false,false] (by kernel_rfl) rfl rfl rfl (fun c1=>⟨e0 fun L' ao=>JG Tryz.underlying170 rfl (ad rfl),H1 eI,H1 (aQ Ee),e0 fun L' ao=>Bl (i:=1) ((aK.id cF).comp At) (r:=aj.m8) fs (ad rfl) (ao _ _ rfl rfl) rfl rfl (by rfl),H1 (aQ jx),dI 0 jd g9,H1 (c7 g2),fm SW (Oo bt),c3,dT fun L' ao=>fun hb=>cU (ad rfl),dT fun L' ao=>fun hb=>dP (i:=0) (aK.id aJ) (r:=(aF aj.cb aW)) cO (ad rfl) (ao _ _ rfl rfl) rfl rfl,trivial⟩) fun c1=> ?_
   refine ai.cases ak (fun hb=> ?_) (fun hb=> ?_)
   ·replace h:=gI hb h
    obtain⟨aO,cq,h⟩:=ay h
    refine ai.RL (Lin:= [⟨some aR,.var ((aF aj.cb aW):aJ)⟩,⟨some hr,.cg (({ aj with cb:= [] } :cF):cF) [(10,aV kR aj.cb.length kS)]⟩,⟨kR,.row 52 (aj.cb:List aJ) kS⟩]) (Ls:=Ls) (Lx:=Lx) (step:=step) (s:=s1.2) (gg:=aw) rfl rZ hb rfl rfl rfl (b3 rfl hb) cq rfl (fun s2 aU a5=> ?_) (fun c6 aU a5=> ?_)
    ·subst aU; simp only [Sum.elim_inl] at h
     refine ai.en (L2:=(⟨some aR,.var ((aF aj.cb aW):aJ)⟩ :: ⟨some hr,.cg (({ aj with cb:= [] } :cF):cF) [(10,aV kR aj.cb.length kS)]⟩ :: ⟨kR,.row 52 (aj.cb:List aJ) kS⟩ :: Ls s2 a5)) rfl ?_
     refine dK iy ?_
     refine ig ?_
     refine aI ?_
     refine ag.sO (ad rfl) (by first | rfl | (rw [hb]; rfl)) ?_
     refine ag.skip ?_
     refine ab.dz ?_
     refine ab.next ?_
     refine ag.cj ?_
     refine bd c8 ?_
     refine aB ?_
     refine ai.nil ?_
     obtain rfl:=aH h
     exact fe a5 1
    ·subst aU; simp only [Sum.elim_inr] at h
     refine ai.en (L2:=(⟨some aR,.var ((aF aj.cb aW):aJ)⟩ :: ⟨some hr,.cg (({ aj with cb:= [] } :cF):cF) [(10,aV kR aj.cb.length kS)]⟩ :: ⟨kR,.row 52 (aj.cb:List aJ) kS⟩ :: Lx c6 a5)) rfl ?_
     refine dK iy ?_
     refine ig ?_
     refine aI ?_
     refine ag.E6 (ad rfl) (by first | rfl | (rw [hb]; rfl)) ?_
     refine ag.ret ?_
     refine ab.c5 ?_
     refine ab.ret ?_
     obtain rfl:=aH h
     exact dE a5 1
   ·replace h:=gJ hb h
    refine ai.SX (.of false) hb rfl rfl rfl rfl rfl ?_
    refine dK iy ?_
    refine ig ?_
    refine aI ?_
    refine ag.sO (ad rfl) (by first | rfl | (rw [hb]; rfl)) ?_
    refine ag.skip ?_
    refine ab.dz ?_
    refine ab.next ?_
    refine ag.cj ?_
    refine bd c8 ?_
    refine aB ?_
    refine ai.nil ?_
    obtain rfl:=aH h
    exact fe aw 1
  ·refine ag.exit ?_
   refine ab.exit ?_
   obtain rfl:=aH h
   exact dE aw 0
 ·clear an
  rcases av with av | av
  ·simp only [Sum.elim_inl] at h
   refine ab.e4 ?_
   refine ab.sZ ?_
   refine ab.bI 1 rfl ?_
   refine ab.bI 1 rfl ?_
   obtain rfl:=aH h
   exact ab.o8 aw (.cons_cons _ (.cons_cons _ (.refl _))) rfl rfl
  ·simp only [Sum.elim_inr] at h
   refine ab.c5 ?_
   refine ab.bI 1 rfl ?_
   refine ab.bI 1 rfl ?_
   obtain rfl:=aH h
   exact ab.o8 aw (.cons_cons _ (.cons_cons _ (.refl _))) rfl rfl
theorem O0 {J:aY} {aj:List aJ} {aS:Vector al 4} {r:aJ × Bool} (h:xy J aj aS=some r):bE Tryz.prog 21 [I.of (J),I.of (aj),I.of (aS)] (I.cG [I.of (r.1),I.of (r.2)]):=by
 unfold xy at h
 refine bE.of Tryz.func21 rfl Tryz.ntmps21 rfl fun W A=> ?_
 refine aA ?_
 refine b8 fun aR=> ?_
 refine b8 fun a0=> ?_
 refine cM hn fun bF=> ?_
 refine aM ?_
 refine b2 ?_
 refine cM hn fun cA=> ?_
 refine b2 ?_
 refine aM ?_
 refine bK ?_
 refine aA ?_
 refine aB ?_
 refine aT (ej Tryz.underlying38) ?_
 refine aB ?_
 refine aI ?_
 refine ag.block ?_
 obtain⟨av,an,h⟩:=ay h
 refine gj (γ:=Unit) (δ:=Unit) an [0,1,2,3,5,6,7,8,12,13] (fun s1 aw=> [(9,I.of (s1.1)),(14,I.of (s1.2.1))]) (fun s1 aw=> [(0,⟨some cA,.var (s1.2.2:aJ)⟩)]) (fun az=>Exit.exit 0) (fun az aw=> [(9,I.of (az.1)),(14,I.of (az.2.1)),(15,I.of (az.2.2.1))]) (fun az aw=> [(0,⟨some cA,.var (az.2.2.2:aJ)⟩)]) () (fun s1 r h aw=> ?_) fun aw=> ?_
 ·clear an
  refine aA ?_
  refine bd dJ ?_
  refine bK ?_
  refine b4 h (fun h=>?_) fun h=>?_
  ·refine cP ?_
   refine ag.seq ?_
   refine ag.block ?_
   refine aA ?_
   obtain⟨aW,cc,h⟩:=ay h
   refine gk cc Tryz.underlying38 cO ?_
   refine aT (c7 cO) ?_
   refine cM hn fun hW=> ?_
   refine ck 0 cO ?_
   refine b2 ?_
   refine cm 4 fs ?_
   refine aT (aQ jx) ?_
   refine bL 0 jd g9 ?_
   refine cm 3 g2 ?_
   obtain⟨ak,bt,h⟩:=ay h
   refine ev Ut (Ot bt) ?_
   refine aB ?_
   refine dK cU ?_
   refine dK iy ?_
   refine dK cU ?_
   refine ai.gg (fun hb=>dP (i:=4) (aK.id aY) (r:=J) fs (ad rfl) rfl rfl rfl) rfl rfl rfl rfl rfl ?_
   refine ai.gg (fun hb=>dP (i:=0) (aK.id aJ) (r:=(aF aj aW)) cO (ad rfl) rfl rfl rfl) rfl rfl rfl rfl rfl ?_
   refine ai.gg (fun hb=>dP (i:=1) (aK.id aJ) (r:=s1.2.2) cO (ad rfl) rfl rfl rfl) rfl rfl rfl rfl rfl ?_
   obtain⟨aO,cq,h⟩:=ay h
   refine ai.gg (fun hb=>iQ Uu (ON (fC cq (decide_eq_true hb))) ⟨b3 rfl hb,b3 rfl hb,b3 rfl hb,trivial⟩) rfl rfl rfl rfl rfl ?_
   refine ea (fun hb=>rz (b3 rfl hb) (ad rfl) (fun h=>⟨hb,h⟩)) ?_
   refine ig ?_
   refine aI ?_
   obtain⟨bB,cz,h⟩:=ay h
   refine h5 (γ:=Unit) [0,1,2,3,5,6,7,8,11,12,13,14,15,32] (fun a5=> [(9,I.of (bB.1))]) (fun a5=> [(1,⟨some cA,.var (bB.2:aJ)⟩)]) (fun a5=> ?_) (fun hm ar=> ?_) fun hm ar=> ?_
   ·clear cz
    refine ab.dz ?_
    refine ab.next ?_
    refine ag.cj ?_
    refine bd c8 ?_
    refine aB ?_
    refine ai.nil ?_
    obtain rfl:=aH h
    exact fe () 1
   ·have h:=gI ar cz
    refine ag.cj ?_
    refine cm 0 cO ?_
    refine ck 1 cO ?_
    refine aM ?_
    refine ai.nil ?_
    obtain rfl:=aH h
    exact df 0 (hm ())
   ·have h:=gJ ar cz
    refine ag.skip ?_
    obtain rfl:=aH h
    exact df 0 (hm ())
  ·refine ag.exit ?_
   refine ab.exit ?_
   obtain rfl:=aH h
   exact dE () 0
 ·clear an
  refine ab.e4 ?_
  refine ab.next ?_
  refine aA ?_
  refine cm 0 cO ?_
  refine aB ?_
  refine ck 1 cO ?_
  refine aM ?_
  refine aI ?_
  refine ag.ret ?_
  obtain rfl:=aH h
  exact ab.y0 rfl (hc 1 cO) (ry rfl)
theorem O1 {J:bu} {aj:bu} {r:Bool} (h:A1 J aj=some r):bE Tryz.prog 74 [I.of (J),I.of (aj)] (I.of (r)):=by
 unfold A1 at h
 refine bE.of Tryz.func74 rfl Tryz.ntmps74 rfl fun W A=> ?_
 refine aA ?_
 refine b8 fun aR=> ?_
 refine b8 fun a0=> ?_
 refine aM ?_
 refine b2 ?_
 refine cm 1 g9 ?_
 refine cm 0 g9 ?_
 obtain⟨ak,bt,h⟩:=ay h
 refine ev SY (Ou bt) ?_
 refine bd fz ?_
 refine aM ?_
 refine aI ?_
 refine ag.ret ?_
 obtain rfl:=aH h
 exact cv
end Go.Proofs.YtmnggbjcnoffeaaGreat
namespace Go.Proofs.YtmnggbjcnoffeaaGreat
open Go Gv
set_option linter.unusedVariables false
set_option linter.unusedSimpArgs false
set_option maxRecDepth 100000
set_option maxHeartbeats 2000000
theorem uQ {hp:a1 Cell} {J:aY} {aj:Int} {Q:Ref × (a1 Cell)→Prop} (h:m5 hp J aj Q):cf Tryz.prog 39 [I.of (J),I.of (aj)] ([] ++ a3 hp) (δ:= {r:Ref × (a1 Cell) // Q r} × Unit) (fun d=>I.of (d.1.1.1)) (fun d=> [] ++ a3 d.1.1.2):=by
 unfold m5 at h
 refine cf.of Tryz.func39 rfl Tryz.ntmps39 rfl fun W A=> ?_
 refine aA ?_
 refine b8 fun aR=> ?_
 refine bj (eW (qU)) ?_
 refine b2 ?_
 refine cm 0 fs ?_
 refine aB ?_
 obtain⟨ak,bt,h⟩:=aC.cJ h
 refine ev LL (HH bt) ?_
 refine aM ?_
 refine bK ?_
 refine aA ?_
 refine aB ?_
 refine bd dJ ?_
 refine aI ?_
 refine ag.cond (ad rfl) (fun ar=> ?_) (fun ar=> ?_)
 ·replace h:=q5 ar h
  refine aA ?_
  refine bj (eW (qU)) ?_
  refine aI ?_
  refine ag.ret ?_
  refine ab.ret ?_
  exact ab.gv (⟨⟨((none:Ref),hp),h⟩,()⟩: {r // _} × _) (.cons _ (.refl _)) rfl rfl (dV rfl)
 ·replace h:=q6 ar h
  refine cP ?_
  refine aA ?_
  refine aT (aQ mB) ?_
  refine bL 0 mn lW ?_
  refine aB ?_
  obtain⟨aW,cc,h⟩:=aC.cJ h
  refine gk cc Tryz.underlying28 fG ?_
  refine aT (c7 fG) ?_
  refine cM kJ fun a0=> ?_
  refine ck 0 fG ?_
  refine b2 ?_
  refine cm 0 fG ?_
  obtain⟨aO,cq,h⟩:=aC.cJ h
  refine ev Uv (Oz cq) ?_
  refine aB ?_
  refine h6 ?_
  refine h6 ?_
  refine aM ?_
  refine aM ?_
  refine b2 ?_
  refine aB ?_
  refine aT (aQ kg) ?_
  refine bL 0 iK jY ?_
  refine aT (ej Tryz.underlying62) ?_
  refine ai.Ey (α:=Int) (β:=aJ) 2 rfl (Cell.lz ([]:List (Int × aJ))) (fun _=>rfl) rfl fun dL ti=> ?_
  replace h:=aC.q3 h dL ti
  obtain⟨bg,dd,h⟩:=aC.cJ h
  refine dp dd (cT (b:=({ (default:gA) with oa:=aO.1,nH:=(((aF J.bQ aW).bX).length:Int),ll:=(⟨some dL.1⟩:gf) } :gA)) rfl SZ S0 (.cons Hs rfl (ad rfl) rfl (.cons Hv rfl (ad rfl) rfl (.cons Aw rfl (ad rfl) rfl (.nil))))) ?_
  refine ai.yZ 2 rfl (Cell.mP bg) (fun _=>rfl) (ad rfl) rfl fun ef zr=> ?_
  replace h:=aC.q3 h ef zr
  refine aM ?_
  refine bK ?_
  refine aA ?_
  refine aB ?_
  refine aI ?_
  refine ag.block ?_
  refine aA ?_
  refine bd fz ?_
  refine aM ?_
  refine aI ?_
  refine ag.x9 (γ:=Unit) h (fun bB aw=> [(0,I.of (J)),(1,I.of (aj)),(2,I.eq (.pointer (some ⟨aR,0,none⟩))),(4,I.of (none:Ref)),(5,I.of (ak)),(6,I.eq (.pointer (some ⟨a0,0,none⟩))),(7,I.of (aO.1)),(8,I.of (aO.2)),(9,I.of (some ef.1:Ref)),(16,I.of (decide (ak < 0))),(34,I.of (aO.1)),(42,I.of (aO.1 ==1))]) (fun bB aw=>(⟨some a0,.var (aF J.bQ aW:bN)⟩ :: ⟨some aR,.var (J:aY)⟩ :: a3 bB)) (ad rfl) (fun bB aw h=> ?_) (fun hm ar h=> ?_) (fun hm ar h=> ?_)
  ·refine ab.dz ?_
   refine ab.next ?_
   refine aA ?_
   refine aB ?_
   refine aM ?_
   refine aI ?_
   refine ag.ret ?_
   exact ab.gv (⟨⟨((some ef.1:Ref),bB),h⟩,()⟩: {r // _} × _) (.cons _ (.cons _ (.refl _))) rfl rfl (dV rfl)
  ·refine ag.cj ?_
   refine aB ?_
   refine ai.kj 2 0 rfl Uw (O6 h) rfl rfl trivial rfl fun⟨⟨bc,h⟩,az⟩=> ?_
   refine ai.en (L2:=(⟨some a0,.var (aF J.bQ aW:bN)⟩ :: ⟨some aR,.var (J:aY)⟩ :: a3 bc.2)) rfl ?_
   refine ho S1 S2 { ps:=bc.1:jR } (h4 AJ .nil) ?_
   refine bj (EH Tryz.underlying166 rfl (ad rfl) (fun _ _ _ h=>PQ h)) ?_
   refine bj (eI (fv (ad rfl) rfl)) ?_
   refine aT (aQ u3) ?_
   obtain⟨cd,ff,h⟩:=aC.cJ h
   obtain⟨dF,oq,h⟩:=aC.cJ h
   refine ai.o4 (k':=Cell.mP ({ cd with iM:=(gm.lX ({ ps:=bc.1:jR })) } :gA)) 2 rfl ((aK.id gA).comp ua) (v:=((gm.lX ({ ps:=bc.1:jR })):gm)) sS (ad rfl) (ad rfl) (nc ff) rfl rfl rfl rfl (aH oq) ?_
   refine ai.nil ?_
   exact df 0 (hm dF () h)
  ·refine aA ?_
   refine bd fz ?_
   refine aM ?_
   refine aI ?_
   refine ag.x9 (γ:=Unit) h (fun cu a5=> [(0,I.of (J)),(1,I.of (aj)),(2,I.eq (.pointer (some ⟨aR,0,none⟩))),(4,I.of (none:Ref)),(5,I.of (ak)),(6,I.eq (.pointer (some ⟨a0,0,none⟩))),(7,I.of (aO.1)),(8,I.of (aO.2)),(9,I.of (some ef.1:Ref)),(16,I.of (decide (ak < 0))),(34,I.of (aO.1)),(42,I.of (aO.1 ==1)),(50,I.of (aO.1 ==2))]) (fun cu a5=>(⟨some a0,.var (aF J.bQ aW:bN)⟩ :: ⟨some aR,.var (J:aY)⟩ :: a3 cu)) (ad rfl) (fun cu a5 h=> ?_) (fun hm ar h=> ?_) (fun hm ar h=> ?_)
   ·exact df 0 (hm cu () h)
   ·refine aA ?_
    refine aM ?_
    refine bK ?_
    refine ag.seq ?_
    obtain⟨bR,cN,h⟩:=aC.cJ h
    obtain⟨br,fY,h⟩:=aC.cJ h
    refine ag.draw mixed 8 [some 52,some 53,some 54,some 55,some 56,some 57,some 58,some 59] [[],[],[1],[],[2,3],[4],[5],[0,6]] [.val _,.val _,.val _,.val _,.val _,.val _,.val _,.val _] [false,false,false,false,false,false,false,false] (by kernel_rfl) rfl rfl rfl (fun c1=>⟨e5 1 fs,H1 (aQ kg),dI 0 iK jY,c3,lB cN Tryz.underlying62 g8,qi m3 Bq,H1 (c7 bo),fm LM (HI fY),trivial⟩) fun c1=> ?_
    refine aM ?_
    refine b2 ?_
    refine aB ?_
    refine bd kX ?_
    refine aI ?_
    obtain⟨eL,fX,h⟩:=aC.cJ h
    refine ag.cC (γ:=Unit) (fun bA=> [(0,I.of (J)),(1,I.of (aj)),(2,I.eq (.pointer (some ⟨aR,0,none⟩))),(4,I.of (none:Ref)),(5,I.of (ak)),(6,I.eq (.pointer (some ⟨a0,0,none⟩))),(7,I.of (aO.1)),(8,I.of (aO.2)),(9,I.of (some ef.1:Ref)),(10,I.of (eL)),(11,I.of (br)),(16,I.of (decide (ak < 0))),(34,I.of (aO.1)),(42,I.of (aO.1 ==1)),(50,I.of (aO.1 ==2)),(61,I.of (decide (br≥0)))]) (fun bA=>(⟨some a0,.var (aF J.bQ aW:bN)⟩ :: ⟨some aR,.var (J:aY)⟩ :: a3 ef.2)) (ad rfl) (fun bA=> ?_) (fun hm ar=> ?_) (fun hm ar=> ?_)
    ·clear fX
     refine ab.next ?_
     refine ag.cj ?_
     refine aB ?_
     refine aB ?_
     refine aB ?_
     refine ai.Ey (α:=Vector al 4) (β:=Ref) 2 rfl (Cell.mQ ([]:List ((Vector al 4) × Ref))) (fun _=>rfl) rfl fun jq Vo=> ?_
     replace h:=aC.q3 h jq Vo
     obtain⟨dw,ha,h⟩:=aC.cJ h
     refine dp ha (cT (b:= { p2:=aO.2,ey:=eL,fE:=(⟨some jq.1⟩:gf):dY }) rfl S3 S4 (.cons wD rfl (ad rfl) rfl (.cons qO rfl (ad rfl) rfl (.cons m1 rfl (ad rfl) rfl (.nil))))) ?_
     refine bj (EH Tryz.underlying169 rfl (ad rfl) (fun _ _ _ h=>PR h)) ?_
     refine bj (eI (fv (ad rfl) rfl)) ?_
     refine aT (aQ u3) ?_
     obtain⟨cS,gD,h⟩:=aC.cJ h
     obtain⟨eJ,vF,h⟩:=aC.cJ h
     refine ai.o4 (k':=Cell.mP ({ cS with iM:=(gm.lY dw) } :gA)) 2 rfl ((aK.id gA).comp ua) (v:=((gm.lY dw):gm)) sS (ad rfl) (ad rfl) (nc gD) rfl rfl rfl rfl (aH vF) ?_
     refine ai.nil ?_
     exact df 0 (hm eJ () h)
    ·have h:=gI ar fX
     refine ag.cj ?_
     refine aT (aQ sE) ?_
     refine bL 1 r7 rv ?_
     refine aB ?_
     obtain⟨dj,gp,h⟩:=ay h
     refine gk gp Tryz.underlying24 nJ ?_
     refine vV m2 Bi ?_
     refine aT (c7 bo) ?_
     refine aM ?_
     refine ai.nil ?_
     obtain rfl:=aH h
     exact df 0 (hm ())
    ·have h:=gJ ar fX
     refine ag.skip ?_
     obtain rfl:=aH h
     exact df 0 (hm ())
   ·refine ag.cj ?_
    refine aB ?_
    refine cm 1 fs ?_
    obtain⟨cx,ih,h⟩:=aC.cJ h
    refine eE 0 Ux (Oc ih) fun c6=> ?_
    refine ai.S5 4 2 (Cell.rA cx c6.2.1 c6.2.2) rfl rfl rfl rfl List.mem_cons_self fun mh Vp Vq=> ?_
    replace h:=h (c6.2.1,c6.2.2) mh Vp
    refine ai.S6 37 rfl Vq ?_
    refine ho S7 S8 { cb:=(some mh.1:Ref):je } (h4 AO .nil) ?_
    refine bj (EH Tryz.underlying173 rfl (ad rfl) (fun _ _ _ h=>PS h)) ?_
    refine bj (eI (fv (ad rfl) rfl)) ?_
    refine aT (aQ u3) ?_
    obtain⟨e2,l9,h⟩:=aC.cJ h
    obtain⟨h7,Fv,h⟩:=aC.cJ h
    refine ai.o4 (k':=Cell.mP ({ e2 with iM:=(gm.lZ ({ cb:=(some mh.1:Ref):je })) } :gA)) 2 rfl ((aK.id gA).comp ua) (v:=((gm.lZ ({ cb:=(some mh.1:Ref):je })):gm)) sS (ad rfl) (ad rfl) (nc l9) rfl rfl rfl rfl (aH Fv) ?_
    refine ai.nil ?_
    exact df 0 (hm h7 () h)
end Go.Proofs.YtmnggbjcnoffeaaGreat
namespace Go.Proofs.YtmnggbjcnoffeaaGreat
open Go Gv
set_option linter.unusedVariables false
set_option linter.unusedSimpArgs false
set_option maxRecDepth 100000
set_option maxHeartbeats 2000000
theorem OQ {hp:a1 Cell} {Q:Bool × (a1 Cell)→Prop} (h:xv hp Q):cf Tryz.prog 23 [] ([] ++ a3 hp) (δ:= {r:Bool × (a1 Cell) // Q r} × Unit) (fun d=>I.of (d.1.1.1)) (fun d=> [] ++ a3 d.1.1.2):=by
 unfold xv at h
 refine cf.of Tryz.func23 rfl Tryz.ntmps23 rfl fun W A=> ?_
 refine aA ?_
 refine aM ?_
 refine b2 ?_
 obtain⟨ak,bt,h⟩:=aC.cJ h
 refine eE 0 Fw (Ds bt) fun az=> ?_
 refine ai.bI 0 rfl ?_
 obtain⟨aO,cq,h⟩:=aC.cJ h
 refine eE 1 LR (Hw cq) fun c6=> ?_
 refine cM y9 fun aR=> ?_
 refine ck 0 fs ?_
 refine b2 ?_
 refine cm 0 fs ?_
 refine ai.kj 2 0 rfl vG (uQ h) rfl rfl ⟨ad rfl,bD 1,trivial⟩ rfl fun⟨⟨bc,h⟩,e6⟩=> ?_
 refine ai.en (L2:=(⟨some aR,.var (aO.1:aY)⟩ :: ⟨some az,.var (aO.2:bk)⟩ :: a3 bc.2)) rfl ?_
 obtain⟨br,fY,h⟩:=aC.cJ h
 refine ai.lf (gO.lr 2 rfl B1 (AS fY) ⟨ad rfl,trivial⟩) rfl rfl rfl ?_
 refine bd fz ?_
 refine aB ?_
 refine ea (fun hb=>dP (i:=0) (aK.id aY) (r:=aO.1) fs (ad rfl) rfl rfl rfl) ?_
 refine ai.CT (γ:=Unit) h (fun y=>I.of (y.1)) (fun y g=>(⟨some aR,.var (aO.1:aY)⟩ :: ⟨some az,.var (aO.2:bk)⟩ :: a3 y.2)) () rfl rfl rfl rfl rfl rfl (fun hb hm=>by refine eR.to ?_ (eR.kj 2 0 rfl vG (uQ hm) rfl rfl ?_); exact fun _=>rfl; exact⟨b3 rfl hb,bD 2,trivial⟩) fun cx h9 h=> ?_
 obtain⟨dC,l6,h⟩:=aC.cJ h
 refine ai.GU (fun hb=>gO.lr 2 rfl B1 (AS (fC l6 hb)) ⟨b3 rfl hb,trivial⟩) rfl rfl rfl rfl rfl ?_
 refine iW fz ?_
 refine ig ?_
 refine aB ?_
 refine ea (fun hb=>dP (i:=0) (aK.id aY) (r:=aO.1) fs (ad rfl) rfl rfl rfl) ?_
 refine ai.CT (γ:=Unit) h (fun y=>I.of (y.1)) (fun y g=>(⟨some aR,.var (aO.1:aY)⟩ :: ⟨some az,.var (aO.2:bk)⟩ :: a3 y.2)) () rfl rfl rfl rfl rfl rfl (fun hb hm=>by refine eR.to ?_ (eR.kj 2 0 rfl vG (uQ hm) rfl rfl ?_); exact fun _=>rfl; exact⟨b3 rfl hb,bD 3,trivial⟩) fun e7 fZ h=> ?_
 obtain⟨gL,ou,h⟩:=aC.cJ h
 refine ai.GU (fun hb=>gO.lr 2 rfl B1 (AS (fC ou hb)) ⟨b3 rfl hb,trivial⟩) rfl rfl rfl rfl rfl ?_
 refine iW fz ?_
 refine ig ?_
 refine aB ?_
 refine ea (fun hb=>dP (i:=0) (aK.id aY) (r:=aO.1) fs (ad rfl) rfl rfl rfl) ?_
 refine ai.CT (γ:=Unit) h (fun y=>I.of (y.1)) (fun y g=>(⟨some aR,.var (aO.1:aY)⟩ :: ⟨some az,.var (aO.2:bk)⟩ :: a3 y.2)) () rfl rfl rfl rfl rfl rfl (fun hb hm=>by refine eR.to ?_ (eR.kj 2 0 rfl vG (uQ hm) rfl rfl ?_); exact fun _=>rfl; exact⟨b3 rfl hb,bD 4,trivial⟩) fun gF gX h=> ?_
 obtain⟨gU,qb,h⟩:=aC.cJ h
 refine ai.GU (fun hb=>gO.lr 2 rfl B1 (AS (fC qb hb)) ⟨b3 rfl hb,trivial⟩) rfl rfl rfl rfl rfl ?_
 refine iW fz ?_
 refine ig ?_
 refine aB ?_
 refine ea (fun hb=>dP (i:=0) (aK.id aY) (r:=aO.1) fs (ad rfl) rfl rfl rfl) ?_
 refine ai.CT (γ:=Unit) h (fun y=>I.of (y.1)) (fun y g=>(⟨some aR,.var (aO.1:aY)⟩ :: ⟨some az,.var (aO.2:bk)⟩ :: a3 y.2)) () rfl rfl rfl rfl rfl rfl (fun hb hm=>by refine eR.to ?_ (eR.kj 2 0 rfl vG (uQ hm) rfl rfl ?_); exact fun _=>rfl; exact⟨b3 rfl hb,bD 9,trivial⟩) fun hU wh h=> ?_
 refine ea (fun hb=>m9 Tryz.underlying37 (b3 rfl hb)) ?_
 obtain⟨bg,dd,h⟩:=aC.cJ h
 refine dp dd (mE (ad rfl) (ad rfl) (fun h=>h)) ?_
 refine aM ?_
 refine aI ?_
 refine ag.ret ?_
 exact ab.gv (⟨⟨(bg,hU.2),h⟩,()⟩: {r // _} × _) (.cons _ (.cons _ (.refl _))) rfl rfl (dV rfl)
theorem NL {hp:a1 Cell} {J:dY} {aj:bu} {r:Int × Bool} (h:wL hp J aj=some r):cf Tryz.prog 235 [I.of (J),I.of (aj)] ([] ++ a3 hp) (δ:=Unit) (fun _=>I.cG [I.of (r.1),I.of (r.2)]) (fun _=> [] ++ a3 hp):=by
 unfold wL at h
 refine cf.of Tryz.func235 rfl Tryz.ntmps235 rfl fun W A=> ?_
 refine aA ?_
 refine b8 fun aR=> ?_
 refine b8 fun a0=> ?_
 refine aM ?_
 refine aM ?_
 refine b2 ?_
 refine cm 1 BD ?_
 refine cm 0 g9 ?_
 obtain⟨ak,bt,h⟩:=ay h
 refine ev K4 (Hm bt) ?_
 refine aB ?_
 refine h6 ?_
 refine h6 ?_
 refine h6 ?_
 refine cM vm fun bF=> ?_
 refine cM et fun cA=> ?_
 refine ck 1 hJ ?_
 refine ck 0 bV ?_
 refine aM ?_
 refine bK ?_
 obtain⟨cW,eA,h⟩:=ay h
 obtain⟨cd,ff,h⟩:=ay h
 obtain⟨bg,dd,h⟩:=ay h
 obtain⟨aO,cq,h⟩:=ay h
 refine iC [0,1,2,3,6,7,8,9,10,11,12,13,14,15] ?_
 refine ag.pY 4 mixed (bb 16 [] [] _ :: bb 17 (0 :: []) (3 :: []) _ :: bb 18 [] (1 :: []) _ :: ⟨some 19,(1 :: 2 :: []),[],[],fun _=>I.of (bg),fun _ _=>⟨none,.dead⟩⟩ :: bb 20 [] (0 :: []) _ :: bb 21 [] [] _ :: ⟨some 22,(3 :: 4 :: 5 :: []),[],[],fun _=>I.cG [I.of (aO.1),I.of (aO.2)],fun _ _=>⟨none,.dead⟩⟩ :: bb 23 (6 :: []) [] _ :: bb 24 (6 :: []) [] _ :: bb 4 (7 :: []) [] _ :: bb 5 (8 :: []) [] _ :: []) _ (0 :: 1 :: 2 :: 3 :: 6 :: 7 :: 8 :: 9 :: 10 :: 11 :: 12 :: 13 :: 14 :: 15 :: []) rfl rfl (by kernel_rfl) (by kernel_rfl) ⟨cR.q (e1 (aQ nB)),cR.q (mT 3 m1 nj),cR.q (k5 1 hJ),?_,cR.q (k5 0 bV),cR.q (fJ),?_,cR.q (cw fun hd E' L' aE ao=>kY (ad (aE _ _ rfl)) rfl),cR.q (cw fun hd E' L' aE ao=>kY (ad (aE _ _ rfl)) rfl),cR.q (cw fun hd E' L' aE ao=>eW (ad (aE _ _ rfl))),cR.q (cw fun hd E' L' aE ao=>eW (ad (aE _ _ rfl))),trivial⟩ fun fl=> ?_
 ·intro hd E' L' aE ao dB
  refine bj (xU (r:=bg) Tryz.underlying167 yA BO (n6 (ad (aE _ _ rfl)) eA) (ad (aE _ _ rfl)) (gn (n:=4) (dB.trans rfl) (oc ff) rfl) (aH dd)) ?_
  refine ai.nil ?_
  exact ab.fin (eh []) rfl rfl
 ·intro hd E' L' aE ao dB
  refine ai.lf (gO.lr 4 (dB.trans rfl) S9 (Ov cq) ⟨ad (aE _ _ rfl),ad (aE _ _ rfl),ad (aE _ _ rfl),trivial⟩) rfl rfl rfl ?_
  refine ai.nil ?_
  exact ab.fin (eh []) rfl rfl
 refine ab.en (L2:=(⟨some cA,.var (ak.2.1:al)⟩ :: ⟨some bF,.var (ak.1:Vector al 4)⟩ :: ⟨some a0,.var (aj:bu)⟩ :: ⟨some aR,.var (J:dY)⟩ :: a3 hp)) rfl ?_
 refine jF [0,1,2,3,4,5,6,7,8,9,10,11,12,13,14,15,16,17,18,19,20,21,22,23,24] ?_
 refine ab.next ?_
 refine ag.ret ?_
 obtain rfl:=aH h
 exact ab.kF () (.cons _ (.cons _ (.cons _ (.cons _ (.refl _))))) rfl rfl (dV rfl) (dV rfl)
end Go.Proofs.YtmnggbjcnoffeaaGreat
namespace Go.Proofs.YtmnggbjcnoffeaaGreat
open Go Gv
set_option linter.unusedVariables false
set_option linter.unusedSimpArgs false
set_option maxRecDepth 100000
set_option maxHeartbeats 2000000
theorem O2 {J:aJ} {aj:aJ} {r:Bool} (h:uN J aj=some r):bE Tryz.prog 22 [I.of (J),I.of (aj)] (I.of (r)):=by
 unfold uN at h
 refine bE.of Tryz.func22 rfl Tryz.ntmps22 rfl fun W A=> ?_
 refine aA ?_
 refine b8 fun aR=> ?_
 refine b8 fun a0=> ?_
 refine aM ?_
 refine b2 ?_
 refine aT (aQ jx) ?_
 refine bL 1 jd g9 ?_
 refine aT (aQ jx) ?_
 refine bL 0 jd g9 ?_
 obtain⟨ak,bt,h⟩:=ay h
 refine ev Uy (O1 bt) ?_
 refine aB ?_
 refine dK (aQ mC) ?_
 refine ea (fun hb=>dP (i:=1) ((aK.id aJ).comp lN) (r:=J.cI) bo (b3 rfl hb) rfl rfl rfl) ?_
 refine dK (aQ mC) ?_
 refine ea (fun hb=>dP (i:=0) ((aK.id aJ).comp lN) (r:=aj.cI) bo (b3 rfl hb) rfl rfl rfl) ?_
 refine iW fz ?_
 refine ig ?_
 refine aB ?_
 refine dK (aQ Kg) ?_
 refine ea (fun hb=>dP (i:=1) ((aK.id aJ).comp C0) (r:=J.kE) bo (b3 rfl hb) rfl rfl rfl) ?_
 refine dK (aQ Kg) ?_
 refine ea (fun hb=>dP (i:=0) ((aK.id aJ).comp C0) (r:=aj.kE) bo (b3 rfl hb) rfl rfl rfl) ?_
 refine iW fz ?_
 refine ig ?_
 refine aM ?_
 refine aI ?_
 refine ag.ret ?_
 obtain rfl:=aH h
 exact cv
end Go.Proofs.YtmnggbjcnoffeaaGreat
