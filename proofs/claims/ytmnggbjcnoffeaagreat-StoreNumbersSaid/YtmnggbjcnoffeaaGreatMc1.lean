/-
  Each function meets its functional program. Conditions: none.
-/
import Derived.Test.YtmnggbjcnoffeaaGreatMc0
import Derived.Test.YtmnggbjcnoffeaaGreatMd
namespace Go.Proofs.YtmnggbjcnoffeaaGreat
open Go Gv
set_option linter.unusedVariables false
set_option linter.unusedSimpArgs false
set_option maxRecDepth 100000
set_option maxHeartbeats 2000000
theorem Ie {hp:aI Cell} {ab:Ref} {al:az} {aP:Int} {r:Bool} (h:vb hp ab al aP=some r):bF Tryz.prog 251 [I.of (ab),I.of (al),I.of (aP)] ([] ++ aY hp) (δ:=Unit) (fun _=>I.of (r)) (fun _=> [] ++ aY hp):=by
 unfold vb at h
 refine bF.of Tryz.func251 rfl Tryz.ntmps251 rfl fun W A=> ?_
 refine aG ?_
 refine cL fun a8=> ?_
 refine aT ?_
 refine b2 ?_
 obtain⟨bS,cU,h⟩:=aA h
 obtain⟨bl,dw,h⟩:=aA h
 obtain⟨bT,eW,h⟩:=aA h
 obtain⟨b7,e9,h⟩:=aA h
 obtain⟨aB,bG,h⟩:=aA h
 obtain⟨aK,cF,h⟩:=aA h
 obtain⟨bD,dG,h⟩:=aA h
 refine ai.draw mixed 26 ((some 7) :: (some 8) :: (some 9) :: (some 10) :: (some 11) :: (some 12) :: (some 13) :: (some 14) :: (some 15) :: (some 16) :: (some 17) :: (some 18) :: (some 19) :: (some 20) :: (some 21) :: (some 22) :: (some 23) :: (some 24) :: (some 25) :: (some 26) :: (some 27) :: (some 28) :: (some 29) :: (some 30) :: (some 31) :: (some 32) :: []) ([] :: [0] :: [1] :: [2] :: [2,3] :: [2,4] :: [5] :: [6] :: [6] :: [6,8] :: [6,9] :: [6,10] :: [6,7,11] :: [6,12] :: [13] :: [14] :: [14] :: [14,16] :: [14,17] :: [14,18] :: [14] :: [14,19,20] :: [14,15,21] :: [14] :: [14,22,23] :: [14,24] :: []) (.val _ :: .val _ :: .val _ :: .val _ :: .val _ :: .val _ :: .val _ :: .val _ :: .val _ :: .val _ :: .val _ :: .val _ :: .val _ :: .val _ :: .val _ :: .val _ :: .val _ :: .val _ :: .val _ :: .val _ :: .val _ :: .val _ :: .val _ :: .val _ :: .val _ :: .val _ :: []) (false :: false :: false :: false :: false :: false :: false :: false :: false :: false :: false :: false :: false :: false :: false :: false :: false :: false :: false :: false :: false :: false :: false :: false :: false :: false :: []) (by kernel_rfl) rfl rfl rfl (fun du=>⟨dW,eO fun av an=>En Tryz.underlying321 (aa rfl),dW,ia fun av an=>fun hb=>cj (aa rfl),ia fun av an=>fun hb=>nX (c2 rfl hb) (bE 0),eO fun av an=>oH (aa rfl) (aa rfl) (fun h=>h),dW,ia fun av an=>fun hb=>cj (aa rfl),ia fun av an=>fun hb=>cj (aa rfl),ia fun av an=>fun hb=>de (dO (c2 rfl hb) (h2 cU hb)),ia fun av an=>fun hb=>a1 yg (c2 rfl hb),ia fun av an=>fun hb=>e7 ((aO.id fb).comp va) (r:=bl.fm) bP (c2 rfl hb) (jx (fun i e q=>an i e q rfl) (ei (n:=1) rfl (mB (h2 dw hb)) rfl)) rfl rfl,ia fun av an=>fun hb=>yG (c2 rfl hb) (c2 rfl hb),eO fun av an=>oH (aa rfl) (aa rfl) (fun h=>h),dW,ia fun av an=>fun hb=>fE (i:=0) (aO.id az) (r:=al) cw (aa rfl) (an _ _ rfl rfl) rfl rfl,ia fun av an=>fun hb=>cj (aa rfl),ia fun av an=>fun hb=>de (dO (c2 rfl hb) (h2 eW hb)),ia fun av an=>fun hb=>a1 yg (c2 rfl hb),ia fun av an=>fun hb=>e7 ((aO.id fb).comp va) (r:=b7.fm) bP (c2 rfl hb) (jx (fun i e q=>an i e q rfl) (ei (n:=1) rfl (mB (h2 e9 hb)) rfl)) rfl rfl,ia fun av an=>fun hb=>cj (aa rfl),ia fun av an=>fun hb=>lz TL (Pb (h2 bG hb)) ⟨c2 rfl hb,c2 rfl hb,trivial⟩,ia fun av an=>fun hb=>lz TM (PL (h2 cF hb)) ⟨c2 rfl hb,c2 rfl hb,trivial⟩,ia fun av an=>fun hb=>fE (i:=0) (aO.id az) (r:=al) cw (aa rfl) (an _ _ rfl rfl) rfl rfl,ia fun av an=>fun hb=>TN v3 rfl TO rfl (c2 rfl hb) (c2 rfl hb),Hy dG fun av an=>oH (aa rfl) (aa rfl) (fun h=>h),trivial⟩) fun du=> ?_
 refine aT ?_
 refine aV ?_
 refine ai.ret ?_
 obtain rfl:=aS h
 exact ah.ez () (.cons _ (.refl _)) rfl rfl (df rfl)
theorem PF {ab:List aH} {pJ:Option Nat} {ff:Nat} {r:(List aH)} (h:vu ab=some r):bF Tryz.prog 269 [I.eq (a5 pJ ab.length ff)] [⟨pJ,.row 52 (ab:List aH) ff⟩] (δ:=Unit) (fun d=>I.of (r)) (fun d=> [⟨pJ,.row 52 (ab:List aH) ff⟩]):=by
 unfold vu at h
 refine bF.of Tryz.func269 rfl Tryz.ntmps269 rfl fun W A=> ?_
 refine aG ?_
 refine bp (eJ (look_nil (α:=aH))) ?_
 refine bY ?_
 refine ag.own (α:=aH) 52 ?_
 refine bp (eJ vy) ?_
 refine b2 ?_
 refine aG ?_
 refine aD ?_
 refine bp (rR (i:=1) Tryz.underlying38 (aa rfl) rfl rfl) ?_
 refine aD ?_
 refine aV ?_
 refine ai.block ?_
 obtain⟨aE,ar,h⟩:=aA h
 refine la (γ:=(Option Nat × Nat)) (δ:=(Option Nat × Nat)) ar [0,2,6,7] (fun s1 ay=> [(3,I.eq (a5 ay.1 s1.2.length ay.2)),(8,I.of (s1.1))]) (fun s1 ay=> [(0,⟨ay.1,.row 52 (s1.2:List aH) ay.2⟩)]) (fun aM=>Exit.exit 0) (fun aM ay=> [(3,I.eq (a5 ay.1 aM.2.2.length ay.2)),(8,I.of (aM.1)),(9,I.of (aM.2.1))]) (fun aM ay=> [(0,⟨ay.1,.row 52 (aM.2.2:List aH) ay.2⟩)]) (none,0) (fun s1 r h ay=> ?_) fun ay=> ?_
 ·clear ar
  refine aG ?_
  refine bL gr ?_
  refine b2 ?_
  refine dv h (fun h=>?_) fun h=>?_
  ·refine dE ?_
   refine ai.seq ?_
   refine ai.block ?_
   refine aG ?_
   obtain⟨bh,dF,h⟩:=aA h
   refine bp (oI (i:=1) (k:=bh) (xs:=(ab:List aH)) Tryz.underlying38 cZ (aa rfl) (aa rfl) rfl (eU dF)) ?_
   refine bp (vF (i:=1) (k:=bh) (aO.id aH) (r:=(aN ab bh)) cZ (aa rfl) rfl (eU dF).1 rfl rfl) ?_
   refine dI hP fun a8=> ?_
   refine cP 0 cZ ?_
   refine aV ?_
   refine ai.cO ?_
   refine aD ?_
   refine cS 0 cZ ?_
   obtain⟨aB,bG,h⟩:=aA h
   refine hH Cn (A6 bG) ?_
   refine hI [aB] Tryz.underlying38 cZ hP ?_
   obtain⟨aK,cF,h⟩:=aA h
   refine n8 1 Tryz.underlying38 cZ hP cF fun hV fG=> ?_
   refine aT ?_
   refine ag.nil ?_
   refine ah.fF ?_
   refine ah.next ?_
   refine ai.cO ?_
   refine bL ep ?_
   refine aD ?_
   refine ag.nil ?_
   obtain rfl:=aS h
   exact j7 (hV,fG) 1
  ·refine ai.exit ?_
   refine ah.exit ?_
   obtain rfl:=aS h
   exact hn (ay.1,ay.2) 0
 ·clear ar
  refine ah.h4 ?_
  refine ah.next ?_
  refine aG ?_
  refine aD ?_
  refine aT ?_
  refine aV ?_
  refine ai.ret ?_
  refine ah.m7 (α:=aH) 0 [2,3,18] ⟨rfl,rfl,rfl,trivial⟩ rfl ?_
  refine ah.bt 1 rfl ?_
  obtain rfl:=aS h
  exact k9 ()
theorem OK {hp:aI Cell} {ab:Ref} {al:Int} {aP:Bool} {r:aH × Bool} (h:xu hp ab al aP=some r):bF Tryz.prog 72 [I.of (ab),I.of (al),I.of (aP)] ([] ++ aY hp) (δ:=Unit) (fun _=>I.eA [I.of (r.1),I.of (r.2)]) (fun _=> [] ++ aY hp):=by
 unfold xu at h
 refine bF.of Tryz.func72 rfl Tryz.ntmps72 rfl fun W A=> ?_
 refine aG ?_
 refine dI hP fun a8=> ?_
 refine aT ?_
 refine b2 ?_
 refine aG ?_
 refine aD ?_
 refine ba ko ?_
 refine aV ?_
 refine dv h (fun h=>?_) fun h=>?_
 ·refine aG ?_
  refine g7 y8 hP (default:aH) .nil ?_
  refine cP 0 cZ ?_
  refine aT ?_
  refine aV ?_
  refine ai.ret ?_
  refine ah.ret ?_
  obtain rfl:=aS h
  exact ah.jJ () (.cons _ (.refl _)) rfl rfl (jK (i:=0) cZ rfl rfl) (df rfl)
 ·refine dE ?_
  refine aG ?_
  refine aD ?_
  obtain⟨bS,cU,h⟩:=aA h
  refine bp (de (dO (aa rfl) cU)) ?_
  refine ba (a1 yf) ?_
  obtain⟨bl,dw,h⟩:=aA h
  refine bp (e7 ((aO.id gn).comp u0) (r:=bl.jH) vW (aa rfl) (ei (n:=1) rfl (lX dw) rfl) rfl rfl) ?_
  refine aD ?_
  obtain⟨bT,eW,h⟩:=aA h
  obtain⟨b7,e9,h⟩:=aA h
  obtain⟨bD,dG,h⟩:=aA h
  refine bp (tk (r:=bD) Tryz.underlying133 wy hP (kI (aa rfl) eW) (aa rfl) (ei (n:=1) rfl (rQ e9) rfl) (aS dG)) ?_
  obtain⟨aB,bG,h⟩:=aA h
  refine hH Cn (A6 bG) ?_
  refine cP 0 cZ ?_
  refine aT ?_
  refine aV ?_
  refine ai.ret ?_
  obtain rfl:=aS h
  exact ah.jJ () (.cons _ (.refl _)) rfl rfl (jK (i:=0) cZ rfl rfl) (df rfl)
theorem Is {ab:aZ} {al:bo} {r:Int} (h:vo ab al=some r):b9 Tryz.prog 190 [I.of (ab),I.of (al)] (I.of (r)):=by
 unfold vo at h
 refine b9.of Tryz.func190 rfl Tryz.ntmps190 rfl fun W A=> ?_
 refine aG ?_
 refine cL fun a8=> ?_
 refine cL fun bn=> ?_
 refine aT ?_
 refine bY ?_
 refine cS 1 hC ?_
 refine cS 0 fH ?_
 obtain⟨aB,bG,h⟩:=aA h
 refine hH TP (Pt bG) ?_
 refine aD ?_
 refine fS ?_
 refine fS ?_
 refine dI k6 fun c0=> ?_
 refine cP 0 fX ?_
 refine aT ?_
 refine bY ?_
 refine ba (a1 lW) ?_
 refine c1 0 kg lF ?_
 obtain⟨aK,cF,h⟩:=aA h
 refine bp (lz TQ (NV cF) ⟨aa rfl,Q2 TR (fun _ _=>OS),trivial⟩) ?_
 refine aT ?_
 refine b2 ?_
 refine aG ?_
 refine aD ?_
 refine ba ko ?_
 refine aD ?_
 refine eB cj ?_
 refine ji gr ?_
 refine sk ?_
 refine aD ?_
 refine eB cj ?_
 refine eB (a1 nT) ?_
 refine fD (fun hb=>fE (i:=1) ((aO.id bo).comp m4) (r:=al.c8) nj (c2 rfl hb) rfl rfl rfl) ?_
 refine eB (gO Tryz.underlying47) ?_
 refine ji nX ?_
 obtain⟨bD,dG,h⟩:=aA h
 refine dd dG (y0 (aa rfl) (aa rfl) (fun h=>h)) ?_
 refine aV ?_
 refine dv h (fun h=>?_) fun h=>?_
 ·refine aG ?_
  refine aT ?_
  refine aV ?_
  refine ai.ret ?_
  refine ah.ret ?_
  obtain rfl:=aS h
  exact e8
 ·refine dE ?_
  refine aG ?_
  refine ba (a1 nT) ?_
  refine c1 1 m4 nj ?_
  refine aD ?_
  obtain⟨bh,dF,h⟩:=aA h
  refine jB dF Tryz.underlying47 hD ?_
  refine Gy w9 Kp ?_
  refine ba (eG bP) ?_
  refine aT ?_
  refine aV ?_
  refine ai.ret ?_
  obtain rfl:=aS h
  exact e8
theorem Pc {hp:aI Cell} {ab:Ref} {r:(List cW)} (h:A7 hp ab=some r):bF Tryz.prog 253 [I.of (ab)] ([] ++ aY hp) (δ:=Unit) (fun _=>I.of (r)) (fun _=> [] ++ aY hp):=by
 unfold A7 at h
 refine bF.of Tryz.func253 rfl Tryz.ntmps253 rfl fun W A=> ?_
 refine aG ?_
 refine bp (eJ (look_nil (α:=cW))) ?_
 refine bY ?_
 refine ag.nU (z:=(default:List cW)) [0] Rz TS rfl fun a8=> ?_
 refine ag.own (α:=cW) 347 ?_
 refine bY ?_
 refine aD ?_
 refine bp (TT (f:=257) (us:= [.pointer (some ⟨a8,0,none⟩)]) ⟨aa rfl,trivial⟩) ?_
 refine ag.CE (γ:=cW) (b':=([]:List cW)) (aO.id (List cW)) 1 0 rfl rfl rfl ?_
 refine ag.bt 0 rfl ?_
 refine ag.bt 1 rfl ?_
 obtain⟨aB,bG,h⟩:=aA h
 refine ag.uQ (fr.im 2 2 rfl TU (NZ (key02_0:=none) (cap02_0:=0) bG) rfl rfl ⟨aa rfl,aa rfl,trivial⟩) rfl rfl rfl fun aM=> ?_
 refine ag.dT (L2:=(⟨some a8,.bU ([]:List cW) [(0,a5 aM.1 aB.length aM.2)]⟩ :: ⟨aM.1,.row 347 (aB:List cW) aM.2⟩ :: aY hp)) rfl ?_
 refine bY ?_
 refine bp (hM (i:=0) (q:=0) (β:=List cW) (γ:=cW) Fv (aa rfl) rfl rfl) ?_
 refine aT ?_
 refine aV ?_
 refine ai.ret ?_
 refine ah.r4 (β:=List cW) (γ:=cW) (b':=(aB:List cW)) (aO.id (List cW)) 0 1 0 2 rfl rfl rfl rfl rfl rfl rfl ?_
 refine ah.nY 0 rfl ?_
 obtain rfl:=aS h
 exact ah.ez () (.cons _ (.cons _ (.refl _))) rfl rfl (df rfl)
end Go.Proofs.YtmnggbjcnoffeaaGreat
namespace Go.Proofs.YtmnggbjcnoffeaaGreat
open Go Gv
set_option linter.unusedVariables false
set_option linter.unusedSimpArgs false
set_option maxRecDepth 100000
set_option maxHeartbeats 2000000
theorem Il {hp:aI Cell} {ab:Ref} {al:az} {aP:Int} {r:Ref} (h:vi hp ab al aP=some r):bF Tryz.prog 247 [I.of (ab),I.of (al),I.of (aP)] ([] ++ aY hp) (δ:=Unit) (fun _=>I.of (r)) (fun _=> [] ++ aY hp):=by
 unfold vi at h
 refine bF.ofM Tryz.func247 rfl Tryz.ntmps247 rfl fun W A=> ?_
 refine aG ?_
 refine cL fun a8=> ?_
 refine dI v5 fun bn=> ?_
 refine b2 ?_
 refine aG ?_
 refine aD ?_
 refine cS 1 cw ?_
 refine aD ?_
 obtain⟨aB,bG,h⟩:=aA h
 refine ag.gW (eP.gZ 2 rfl Lh (Ie bG) ⟨aa rfl,aa rfl,aa rfl,trivial⟩) rfl rfl rfl ?_
 refine ba ko ?_
 refine aV ?_
 refine dv h (fun h=>?_) fun h=>?_
 ·refine aG ?_
  refine ag.store (i:=0) (aO.id Ref) (v:=((none:Ref):Ref)) (b':=((none:Ref):Ref)) dY (aa rfl) (nK) rfl rfl rfl ?_
  refine aV ?_
  refine ai.ret ?_
  refine ah.ret ?_
  obtain rfl:=aS h
  refine ah.Co ?_
  exact ah.ez () (.cons _ (.cons _ (.refl _))) rfl rfl (jK (i:=0) dY rfl rfl)
 ·refine dE ?_
  refine aG ?_
  refine aD ?_
  obtain⟨bS,cU,h⟩:=aA h
  refine bp (de (dO (aa rfl) cU)) ?_
  refine ba (a1 rL) ?_
  obtain⟨bl,dw,h⟩:=aA h
  refine bp (e7 ((aO.id fb).comp rD) (r:=bl.ck) dY (aa rfl) (ei (n:=2) rfl (mB dw) rfl) rfl rfl) ?_
  refine dI v5 fun c0=> ?_
  refine cP 0 dY ?_
  refine b2 ?_
  refine aG ?_
  refine aD ?_
  refine cS 2 cw ?_
  refine aD ?_
  obtain⟨aK,cF,h⟩:=aA h
  refine hH FF (DY cF) ?_
  refine aV ?_
  refine ai.block ?_
  obtain⟨aE,ar,h⟩:=aA h
  refine I3 (hp:=hp) (γ:=Unit) (g0:=()) (Ls:=fun s1 ay=>(⟨some c0,.var (s1:Ref)⟩ :: ⟨some bn,.var ((default:Ref):Ref)⟩ :: ⟨some a8,.var (al:az)⟩ :: aY hp)) (Lx:=fun aM ay=>(⟨some c0,.var (aM.1:Ref)⟩ :: ⟨some bn,.var (aM.2:Ref)⟩ :: ⟨some a8,.var (al:az)⟩ :: aY hp)) (fun s1 ay=> [⟨some c0,.var (s1:Ref)⟩,⟨some bn,.var ((default:Ref):Ref)⟩,⟨some a8,.var (al:az)⟩]) (fun aM=> .ret) rfl FG rfl H6 ar (fun _ _=>rfl) rfl rfl (fun uo s1 r h ay mR mW mS l D rec zt=> ?_) (fun s1 aQ ay D=> ?_) (fun aM aQ ay D=> ?_)
  ·clear ar
   refine ai.cO ?_
   refine aT ?_
   refine ag.nil ?_
   refine ah.begin 0 rfl zt ?_
   refine ai.block ?_
   refine ai.seq ?_
   refine aG ?_
   refine cS 2 dY ?_
   refine bp (lT Tryz.underlying331 (aa rfl)) ?_
   refine aV ?_
   refine dv h (fun h=>?_) fun h=>?_
   ·refine aG ?_
    refine ag.store (i:=3) (aO.id Ref) (v:=((none:Ref):Ref)) (b':=((none:Ref):Ref)) dY (aa rfl) (nK) rfl rfl rfl ?_
    refine aV ?_
    refine ai.ret ?_
    refine ah.ret ?_
    refine ah.e4 ?_
    obtain rfl:=aS h
    exact ah.Sm () 0 rfl rfl rfl
   ·refine dE ?_
    refine ai.cO ?_
    refine cS 2 dY ?_
    refine aD ?_
    obtain⟨bT,eW,h⟩:=aA h
    refine bp (de (dO (aa rfl) eW)) ?_
    refine ba (a1 qj) ?_
    obtain⟨bh,dF,h⟩:=aA h
    refine bp (oN (k:=bh) r1 (aa rfl) (aa rfl) (eU dF)) ?_
    obtain⟨b7,e9,h⟩:=aA h
    refine bp (e7 (((aO.id di).comp p6).comp (aO.idx (α:=Ref) 2 bh (eU dF).1)) (r:=cg b7.cJ bh) dY (aa rfl) (ei (n:=5) rfl (ja e9) rfl) rfl rfl) ?_
    refine cP 2 dY ?_
    refine ag.nil ?_
    refine ah.fF ?_
    obtain rfl:=aS h
    exact ah.MQ () 0 rfl
  ·clear ar; subst aQ; simp only [Sum.elim_inl] at h
   refine ah.dT (L2:=(⟨some D,.dk⟩ :: ⟨some c0,.var (s1:Ref)⟩ :: ⟨some bn,.var ((default:Ref):Ref)⟩ :: ⟨some a8,.var (al:az)⟩ :: aY hp)) rfl ?_
   refine ah.fF ?_
   refine ah.next ?_
   refine aG ?_
   refine cS 1 dY ?_
   refine cP 2 dY ?_
   refine aV ?_
   refine ai.ret ?_
   obtain rfl:=aS h
   refine ah.Cp 0 rfl rfl ?_
   exact ah.ez () (.cons _ (.cons _ (.cons _ (.cons _ (.refl _))))) rfl rfl (jK (i:=2) dY rfl rfl)
  ·clear ar; subst aQ; simp only [Sum.elim_inr] at h
   refine ai.ret ?_
   refine ah.dT (L2:=(⟨some D,.dk⟩ :: ⟨some c0,.var (aM.1:Ref)⟩ :: ⟨some bn,.var (aM.2:Ref)⟩ :: ⟨some a8,.var (al:az)⟩ :: aY hp)) rfl ?_
   refine ah.e4 ?_
   refine ah.ret ?_
   obtain rfl:=aS h
   refine ah.Cp 0 rfl rfl ?_
   exact ah.ez () (.cons _ (.cons _ (.cons _ (.cons _ (.refl _))))) rfl rfl (jK (i:=2) dY rfl rfl)
theorem Oh {ab:cG} {cb:Nat} {ki:Option Nat} {kj:Nat} {r:(List aH)} (h:w7 ab=some r):bF Tryz.prog 264 [I.eq (.pointer (some ⟨cb,0,none⟩))] [⟨some cb,.bU (({ ab with cK:= [] } :cG):cG) [(10,a5 ki ab.cK.length kj)]⟩,⟨ki,.row 52 (ab.cK:List aH) kj⟩] (δ:=Unit) (fun d=>I.of (r)) (fun d=> [⟨some cb,.bU (({ ab with cK:= [] } :cG):cG) [(10,a5 ki (ab.cK).length kj)]⟩,⟨ki,.row 52 (ab.cK:List aH) kj⟩]):=by
 unfold w7 at h
 refine bF.of Tryz.func264 rfl Tryz.ntmps264 rfl fun W A=> ?_
 refine aG ?_
 refine bp (eJ (look_nil (α:=aH))) ?_
 refine b2 ?_
 refine aG ?_
 refine aD ?_
 refine bp (Fc Tryz.underlying170 (aa rfl)) ?_
 refine aV ?_
 refine ai.yI (aa rfl) rfl ?_
 refine dE ?_
 refine aG ?_
 refine aD ?_
 refine ba de ?_
 refine ba (a1 rK) ?_
 refine bp (hM (i:=0) (q:=0) (β:=cG) (γ:=aH) qH (aa rfl) rfl rfl) ?_
 obtain⟨aB,bG,h⟩:=aA h
 refine ag.gW (eP.call [1] TV (PF bG) ⟨aa rfl,trivial⟩ rfl ⟨rfl,trivial⟩ rfl) rfl rfl rfl ?_
 refine aT ?_
 refine aV ?_
 refine ai.ret ?_
 refine ah.bt 1 rfl ?_
 refine ah.bt 1 rfl ?_
 obtain rfl:=aS h
 exact k9 ()
theorem Iy {ab:aZ} {al:aH} {aP:aH} {r:Bool} (h:vq ab al aP=some r):b9 Tryz.prog 150 [I.of (ab),I.of (al),I.of (aP)] (I.of (r)):=by
 unfold vq at h
 refine b9.of Tryz.func150 rfl Tryz.ntmps150 rfl fun W A=> ?_
 refine aG ?_
 refine cL fun a8=> ?_
 refine cL fun bn=> ?_
 refine cL fun c0=> ?_
 refine aT ?_
 refine b2 ?_
 obtain⟨aB,bG,h⟩:=aA h
 obtain⟨aK,cF,h⟩:=aA h
 obtain⟨bk,gQ,h⟩:=aA h
 obtain⟨b1,hY,h⟩:=aA h
 obtain⟨cm,iv,h⟩:=aA h
 obtain⟨cD,iw,h⟩:=aA h
 refine ai.draw mixed 24 ((some 7) :: (some 8) :: (some 9) :: (some 10) :: (some 11) :: (some 12) :: (some 13) :: (some 14) :: (some 15) :: (some 16) :: (some 17) :: (some 18) :: (some 19) :: (some 20) :: (some 21) :: (some 22) :: (some 23) :: (some 24) :: (some 25) :: (some 26) :: (some 27) :: (some 28) :: (some 29) :: (some 30) :: []) ([] :: [0] :: [1] :: [] :: [3] :: [4] :: [2,5] :: [] :: [] :: [8] :: [7,9] :: [] :: [] :: [12] :: [11,13] :: [10,14] :: [] :: [16] :: [] :: [18] :: [17,19] :: [6,15,20] :: [21] :: [22] :: []) (.val _ :: .val _ :: .val _ :: .val _ :: .val _ :: .val _ :: .val _ :: .val _ :: .val _ :: .val _ :: .val _ :: .val _ :: .val _ :: .val _ :: .val _ :: .val _ :: .val _ :: .val _ :: .val _ :: .val _ :: .val _ :: .val _ :: .val _ :: .val _ :: []) (false :: false :: false :: false :: false :: false :: false :: false :: false :: false :: false :: false :: false :: false :: false :: false :: false :: false :: false :: false :: false :: false :: false :: false :: []) (by kernel_rfl) rfl rfl rfl (fun du=>⟨H1 (a1 nW),H1 (a1 yt),hl 1 (m3.comp w5) bP,H1 (a1 nW),H1 (a1 yt),hl 0 (m3.comp w5) bP,iM F6 (DX bG),hr 2 hC,H1 (a1 nW),hl 1 m3 fH,iM Li (Is cF),hr 2 hC,H1 (a1 nW),hl 0 m3 fH,iM Li (Is gQ),iM F6 (DX hY),H1 (a1 nV),hl 1 m2 bP,H1 (a1 nV),hl 0 m2 bP,iM F6 (DX iv),eO fun av an=>iH (r:= [aB,b1,cm]) Tryz.underlying63 bP kP rfl rfl (.cons (by simp) (aa rfl) (.cons (by simp) (aa rfl) (.cons (by simp) (aa rfl) (.nil)))),iM TW (Pu iw),lN qx,trivial⟩) fun du=> ?_
 refine aT ?_
 refine aV ?_
 refine ai.ret ?_
 obtain rfl:=aS h
 exact e8
theorem Pd {hp:aI Cell} {ab:Ref} {r:Int} (h:vj hp ab=some r):bF Tryz.prog 246 [I.of (ab)] ([] ++ aY hp) (δ:=Unit) (fun _=>I.of (r)) (fun _=> [] ++ aY hp):=by
 unfold vj at h
 refine bF.of Tryz.func246 rfl Tryz.ntmps246 rfl fun W A=> ?_
 refine aG ?_
 refine aT ?_
 refine bY ?_
 refine aD ?_
 obtain⟨aB,bG,h⟩:=aA h
 refine ag.gW (eP.gZ 0 rfl TX (Pc bG) ⟨aa rfl,trivial⟩) rfl rfl rfl ?_
 refine ba (gO Tryz.underlying342) ?_
 refine aT ?_
 refine aV ?_
 refine ai.ret ?_
 obtain rfl:=aS h
 exact ah.ez () (.refl _) rfl rfl (df rfl)
end Go.Proofs.YtmnggbjcnoffeaaGreat
namespace Go.Proofs.YtmnggbjcnoffeaaGreat
open Go Gv
set_option linter.unusedVariables false
set_option linter.unusedSimpArgs false
set_option maxRecDepth 100000
set_option maxHeartbeats 2000000
theorem Ip {hp:aI Cell} {ab:Ref} {al:az} {aP:Int} {r:Int × Bool} (h:sV hp ab al aP=some r):bF Tryz.prog 240 [I.of (ab),I.of (al),I.of (aP)] ([] ++ aY hp) (δ:=Unit) (fun _=>I.eA [I.of (r.1),I.of (r.2)]) (fun _=> [] ++ aY hp):=by
 unfold sV at h
 refine bF.of Tryz.func240 rfl Tryz.ntmps240 rfl fun W A=> ?_
 refine aG ?_
 refine cL fun a8=> ?_
 refine aT ?_
 refine aT ?_
 refine bY ?_
 refine aD ?_
 refine cS 0 cw ?_
 refine aD ?_
 obtain⟨aB,bG,h⟩:=aA h
 refine ag.gW (eP.gZ 1 rfl Lj (Il bG) ⟨aa rfl,aa rfl,aa rfl,trivial⟩) rfl rfl rfl ?_
 refine aT ?_
 refine b2 ?_
 refine aG ?_
 refine aD ?_
 refine bp (lT Tryz.underlying331 (aa rfl)) ?_
 refine aD ?_
 refine eB cj ?_
 obtain⟨bS,cU,h⟩:=aA h
 refine fD (fun hb=>de (dO (c2 rfl hb) (h2 cU hb))) ?_
 refine eB (a1 qi) ?_
 obtain⟨bl,dw,h⟩:=aA h
 refine fD (fun hb=>e7 ((aO.id di).comp p9) (r:=bl.dr) lg (c2 rfl hb) (ei (n:=1) rfl (ja (h2 dw hb)) rfl) rfl rfl) ?_
 refine eB ko ?_
 refine sk ?_
 refine aV ?_
 refine dv h (fun h=>?_) fun h=>?_
 ·refine aG ?_
  refine aT ?_
  refine aT ?_
  refine aV ?_
  refine ai.ret ?_
  refine ah.ret ?_
  obtain rfl:=aS h
  exact ah.jJ () (.cons _ (.refl _)) rfl rfl (df rfl) (df rfl)
 ·refine dE ?_
  refine aG ?_
  refine aD ?_
  obtain⟨bT,eW,h⟩:=aA h
  refine bp (de (dO (aa rfl) eW)) ?_
  refine ba (a1 By) ?_
  obtain⟨b7,e9,h⟩:=aA h
  refine bp (e7 ((aO.id di).comp A5) (r:=b7.hW) bP (aa rfl) (ei (n:=1) rfl (ja e9) rfl) rfl rfl) ?_
  refine aT ?_
  refine aT ?_
  refine aV ?_
  refine ai.ret ?_
  obtain rfl:=aS h
  exact ah.jJ () (.cons _ (.refl _)) rfl rfl (df rfl) (df rfl)
theorem OL {hp:aI Cell} {ab:iX} {al:bo} {r:Int × Bool} (h:xv hp ab al=some r):bF Tryz.prog 260 [I.of (ab),I.of (al)] ([] ++ aY hp) (δ:=Unit) (fun _=>I.eA [I.of (r.1),I.of (r.2)]) (fun _=> [] ++ aY hp):=by
 unfold xv at h
 refine bF.of Tryz.func260 rfl Tryz.ntmps260 rfl fun W A=> ?_
 refine aG ?_
 refine cL fun a8=> ?_
 refine cL fun bn=> ?_
 refine aT ?_
 refine aT ?_
 refine b2 ?_
 refine aG ?_
 refine ba (a1 EX) ?_
 refine c1 1 AV Cc ?_
 obtain⟨bS,cU,h⟩:=aA h
 obtain⟨bl,dw,h⟩:=aA h
 obtain⟨aB,bG,h⟩:=aA h
 refine ag.gW (eP.obj 2 rfl (ts dw) TY (Oh bG) rfl ⟨dO (aa rfl) cU,trivial⟩) rfl rfl rfl ?_
 refine ba (gO Tryz.underlying38) ?_
 refine aD ?_
 refine aV ?_
 refine ai.block ?_
 obtain⟨aE,ar,h⟩:=aA h
 refine ai.Cd (σ:=Int) (ε:=(Int × Bool) ⊕ (Int × Bool × Int × Bool × Bool)) (γ:=Unit) (δ:=Unit) ar (fun s1 ay=> [(0,I.of (ab)),(1,I.of (al)),(2,I.eq (.pointer (some ⟨a8,0,none⟩))),(3,I.eq (.pointer (some ⟨bn,0,none⟩))),(4,I.of (0:Int)),(5,I.of (false)),(10,I.of (aB)),(11,I.of (aB.length:Int)),(12,I.of (s1))]) (fun s1 ay=>(⟨some bn,.var (al:bo)⟩ :: ⟨some a8,.var (ab:iX)⟩ :: aY hp)) (fun aM=>Sum.elim (fun aM=>Exit.exit 0) (fun aM=>Exit.ret) aM) (fun aM ay=>Sum.elim (fun aM=> [(0,I.of (ab)),(1,I.of (al)),(2,I.eq (.pointer (some ⟨a8,0,none⟩))),(3,I.eq (.pointer (some ⟨bn,0,none⟩))),(4,I.of (0:Int)),(5,I.of (false)),(10,I.of (aB)),(11,I.of (aB.length:Int)),(12,I.of (aM.1)),(13,I.of (aM.2))]) (fun aM=> [(0,I.of (ab)),(1,I.of (al)),(2,I.eq (.pointer (some ⟨a8,0,none⟩))),(3,I.eq (.pointer (some ⟨bn,0,none⟩))),(4,I.of (aM.1)),(5,I.of (aM.2.1)),(10,I.of (aB)),(11,I.of (aB.length:Int)),(12,I.of (aM.2.2.1)),(13,I.of (aM.2.2.2.1)),(19,I.of (aM.2.2.2.2))]) aM) (fun aM ay=>Sum.elim (fun aM=>(⟨some bn,.var (al:bo)⟩ :: ⟨some a8,.var (ab:iX)⟩ :: aY hp)) (fun aM=>(⟨some bn,.var (al:bo)⟩ :: ⟨some a8,.var (ab:iX)⟩ :: aY hp)) aM) () rfl (.same rfl (.same rfl (.same rfl (.same rfl (.same rfl (.same rfl (.same rfl (.same rfl (.same rfl .nil))))))))) (fun s1 r h ay=> ?_) (fun ay=> ?_)
 ·clear ar
  refine aG ?_
  refine bL gr ?_
  refine b2 ?_
  refine dv h (fun h=>?_) fun h=>?_
  ·refine dE ?_
   refine ai.seq ?_
   refine ai.block ?_
   refine aG ?_
   obtain⟨bh,dF,h⟩:=aA h
   refine jB dF Tryz.underlying38 cZ ?_
   refine ba (eG cZ) ?_
   refine dI hP fun c0=> ?_
   refine cP 0 cZ ?_
   refine bY ?_
   refine ba (a1 nW) ?_
   refine c1 0 m3 fH ?_
   refine cS 1 fH ?_
   obtain⟨aK,cF,h⟩:=aA h
   refine hH TZ (O9 cF) ?_
   refine aV ?_
   refine dv h (fun h=>?_) fun h=>?_
   ·refine aG ?_
    refine ba (a1 nV) ?_
    refine c1 0 m2 bP ?_
    refine aT ?_
    refine aT ?_
    refine aV ?_
    refine ai.ret ?_
    refine ah.e4 ?_
    refine ah.ret ?_
    obtain rfl:=aS h
    exact hn () 1
   ·refine ai.skip ?_
    refine ah.fF ?_
    refine ah.next ?_
    refine ai.cO ?_
    refine bL ep ?_
    refine aD ?_
    refine ag.nil ?_
    obtain rfl:=aS h
    exact j7 () 1
  ·refine ai.exit ?_
   refine ah.exit ?_
   obtain rfl:=aS h
   exact hn () 0
 ·clear ar
  rcases aE with aE | aE
  ·simp only [Sum.elim_inl] at h
   refine ah.h4 ?_
   refine ah.next ?_
   refine aG ?_
   refine aT ?_
   refine aT ?_
   refine aV ?_
   refine ai.ret ?_
   obtain rfl:=aS h
   exact ah.jJ () (.cons _ (.cons _ (.refl _))) rfl rfl (df rfl) (df rfl)
  ·simp only [Sum.elim_inr] at h
   refine ah.e4 ?_
   refine ah.ret ?_
   obtain rfl:=aS h
   exact ah.jJ () (.cons _ (.cons _ (.refl _))) rfl rfl (df rfl) (df rfl)
end Go.Proofs.YtmnggbjcnoffeaaGreat
namespace Go.Proofs.YtmnggbjcnoffeaaGreat
open Go Gv
set_option linter.unusedVariables false
set_option linter.unusedSimpArgs false
set_option maxRecDepth 100000
set_option maxHeartbeats 2000000
theorem Pe {hp:aI Cell} {ab:Ref} {al:az} {aP:Int} {cE:Int} {Q:Bool × (aI Cell)→Prop} (h:vk hp ab al aP cE Q):bF Tryz.prog 244 [I.of (ab),I.of (al),I.of (aP),I.of (cE)] ([] ++ aY hp) (δ:= {r:Bool × (aI Cell) // Q r} × Unit) (fun d=>I.of (d.1.1.1)) (fun d=> [] ++ aY d.1.1.2):=by
 unfold vk at h
 refine bF.ofM Tryz.func244 rfl Tryz.ntmps244 rfl fun W A=> ?_
 refine aG ?_
 refine cL fun a8=> ?_
 refine aT ?_
 refine b2 ?_
 refine aG ?_
 refine aD ?_
 refine cS 0 cw ?_
 refine aD ?_
 obtain⟨aB,bG,h⟩:=ao.bX h
 refine ag.gW (eP.gZ 1 rfl Lh (Ie bG) ⟨aa rfl,aa rfl,aa rfl,trivial⟩) rfl rfl rfl ?_
 refine ba ko ?_
 refine aV ?_
 refine ai.cond (aa rfl) (fun aj=> ?_) (fun aj=> ?_)
 ·replace h:=jt aj h
  refine aG ?_
  refine aT ?_
  refine aV ?_
  refine ai.ret ?_
  refine ah.ret ?_
  refine ah.Co ?_
  exact ah.ez (⟨⟨(false,hp),h⟩,()⟩: {r // _} × _) (.cons _ (.refl _)) rfl rfl (df rfl)
 ·replace h:=ju aj h
  refine dE ?_
  refine ai.seq ?_
  refine aG ?_
  refine aD ?_
  refine cS 0 cw ?_
  refine aD ?_
  obtain⟨aK,cF,h⟩:=ao.bX h
  refine ag.gW (eP.gZ 1 rfl Lj (Il cF) ⟨aa rfl,aa rfl,aa rfl,trivial⟩) rfl rfl rfl ?_
  refine aT ?_
  refine bY ?_
  refine aD ?_
  refine bp (En Tryz.underlying331 (aa rfl)) ?_
  refine aD ?_
  refine eB cj ?_
  obtain⟨bS,cU,h⟩:=ao.bX h
  refine fD (fun hb=>de (dO (c2 rfl hb) (h2 cU hb))) ?_
  refine eB (a1 qi) ?_
  obtain⟨bl,dw,h⟩:=ao.bX h
  refine fD (fun hb=>e7 ((aO.id di).comp p9) (r:=bl.dr) lg (c2 rfl hb) (ei (n:=1) rfl (ja (h2 dw hb)) rfl) rfl rfl) ?_
  refine lI ?_
  refine aV ?_
  refine ai.cond (aa rfl) (fun aj=> ?_) (fun aj=> ?_)
  ·replace h:=jt aj h
   refine aG ?_
   refine aT ?_
   refine aV ?_
   refine ai.ret ?_
   refine ah.ret ?_
   refine ah.Co ?_
   exact ah.ez (⟨⟨(false,hp),h⟩,()⟩: {r // _} × _) (.cons _ (.refl _)) rfl rfl (df rfl)
  ·replace h:=ju aj h
   refine dE ?_
   refine ai.seq ?_
   refine aG ?_
   refine aD ?_
   obtain⟨bT,eW,h⟩:=ao.bX h
   refine bp (de (dO (aa rfl) eW)) ?_
   refine ba (a1 rL) ?_
   obtain⟨b7,e9,h⟩:=ao.bX h
   refine bp (e7 ((aO.id fb).comp rD) (r:=b7.ck) dY (aa rfl) (ei (n:=1) rfl (mB e9) rfl) rfl rfl) ?_
   refine bp (lT Tryz.underlying331 (aa rfl)) ?_
   refine aV ?_
   refine ai.vL (γ:=Unit) h (fun bH ay=> [(0,I.of (ab)),(1,I.of (al)),(2,I.of (aP)),(3,I.of (cE)),(5,I.eq (.pointer (some ⟨a8,0,none⟩))),(8,I.of (false)),(9,I.of (aK)),(16,I.of (!aB)),(28,I.of (aK.isSome && bl.dr)),(33,I.of (b7.ck.isNone))]) (fun bH ay=>(⟨some a8,.var (al:az)⟩ :: aY bH)) (aa rfl) (fun bH ay h=> ?_) (fun hm aj h=> ?_) (fun hm aj h=> ?_)
   ·refine ah.next ?_
    refine aG ?_
    refine aD ?_
    refine bp (de (dO (aa rfl) eW)) ?_
    refine ba (a1 rL) ?_
    obtain⟨e0,lf,h⟩:=ao.bX h
    refine bp (e7 ((aO.id fb).comp rD) (r:=e0.ck) dY (aa rfl) (ei (n:=1) rfl (mB lf) rfl) rfl rfl) ?_
    refine dI v5 fun bn=> ?_
    refine cP 0 dY ?_
    refine b2 ?_
    refine aG ?_
    refine aD ?_
    refine cS 1 cw ?_
    refine aD ?_
    obtain⟨bk,gQ,h⟩:=ao.bX h
    refine hH FF (DY gQ) ?_
    refine aV ?_
    refine ai.block ?_
    refine Qp (σ:=Ref × (aI Cell)) (ε:=Empty) (γ:=Unit) (g0:=()) (Ls:=fun s2 bJ=>(⟨some bn,.var (s2.1:Ref)⟩ :: ⟨some a8,.var (al:az)⟩ :: aY s2.2)) (Lx:=fun eK bJ=>Empty.elim eK) (hq:=fun s2=>s2.2) (fun s2 bJ=> [⟨some bn,.var (s2.1:Ref)⟩,⟨some a8,.var (al:az)⟩]) (fun eK=>Empty.elim eK) rfl FG rfl Oz h (fun _ _=>rfl) rfl rfl (fun wE s2 R h bJ mR mW mS l D rec zt=> ?_) (fun s2 h bJ D=> ?_) (fun eK h bJ D=> ?_)
    ·refine ai.cO ?_
     refine aT ?_
     refine ag.nil ?_
     refine ah.begin 0 rfl zt ?_
     refine ai.block ?_
     refine ai.seq ?_
     refine aG ?_
     refine cS 2 dY ?_
     refine aD ?_
     obtain⟨lP,sn,h⟩:=ao.bX h
     refine bp (de (dO (aa rfl) sn)) ?_
     refine ba (a1 qj) ?_
     obtain⟨bh,dF,h⟩:=ao.bX h
     refine bp (oN (k:=bh) r1 (aa rfl) (aa rfl) (eU dF)) ?_
     obtain⟨jD,ui,h⟩:=ao.bX h
     refine bp (e7 (((aO.id di).comp p6).comp (aO.idx (α:=Ref) 2 bh (eU dF).1)) (r:=cg jD.cJ bh) dY (aa rfl) (ei (n:=4) rfl (ja ui) rfl) rfl rfl) ?_
     refine bp (lT Tryz.underlying331 (aa rfl)) ?_
     refine aV ?_
     refine ai.vL (γ:=Unit) h (fun cI dz=> [(0,I.of (ab)),(1,I.of (al)),(2,I.of (aP)),(3,I.of (cE)),(5,I.eq (.pointer (some ⟨a8,0,none⟩))),(8,I.of (false)),(9,I.of (aK)),(10,I.eq (.pointer (some ⟨bn,0,none⟩))),(11,I.of (wE)),(16,I.of (!aB)),(28,I.of (aK.isSome && bl.dr)),(33,I.of (b7.ck.isNone)),(46,I.gi 255 [I.ptr bk.1,I.ptr bk.2.1,I.ptr bk.2.2]),(47,I.of (wE)),(54,I.of ((cg jD.cJ bh).isNone))]) (fun cI dz=>(⟨some l,.is (.loop { rec with state:= .busy })⟩ :: ⟨some D,.dk⟩ :: ⟨some bn,.var (s2.1:Ref)⟩ :: ⟨some a8,.var (al:az)⟩ :: aY cI)) (aa rfl) (fun cI dz h=> ?_) (fun hm aj h=> ?_) (fun hm aj h=> ?_)
     ·refine ah.next ?_
      refine ai.cO ?_
      refine cS 2 dY ?_
      refine aD ?_
      refine bp (de (dO (aa rfl) sn)) ?_
      refine ba (a1 qj) ?_
      obtain⟨cC,dV,h⟩:=ao.bX h
      refine bp (oN (k:=cC) r1 (aa rfl) (aa rfl) (eU dV)) ?_
      obtain⟨lq,uj,h⟩:=ao.bX h
      refine bp (e7 (((aO.id di).comp p6).comp (aO.idx (α:=Ref) 2 cC (eU dV).1)) (r:=cg lq.cJ cC) dY (aa rfl) (ei (n:=4) rfl (ja uj) rfl) rfl rfl) ?_
      refine cP 2 dY ?_
      refine ag.nil ?_
      refine ah.fF ?_
      exact ah.Vn h () 0 rfl
     ·refine ai.cO ?_
      refine cS 2 dY ?_
      refine aD ?_
      refine g7 Lk Ll (default:di) .nil ?_
      refine ag.wb 4 rfl (Cell.fp (default:di)) (fun _=>rfl) (aa rfl) rfl fun cR qQ=> ?_
      replace h:=ao.pA h cR qQ
      refine bp (de (dO (aa rfl) sn)) ?_
      refine ba (a1 qj) ?_
      obtain⟨fu,kt,h⟩:=ao.bX h
      refine bp (oN (k:=fu) r1 (aa rfl) (aa rfl) (eU kt)) ?_
      obtain⟨kE,wF,h⟩:=ao.bX h
      obtain⟨cd,ir,h⟩:=ao.bX h
      refine ag.lY (k':=Cell.fp ({ kE with cJ:=iJ kE.cJ fu (some cR.1:Ref) } :di)) 4 rfl (((aO.id di).comp p6).comp (aO.idx (α:=Ref) 2 fu (eU kt).1)) (v:=((some cR.1:Ref):Ref)) dY (aa rfl) (aa rfl) (ja wF) rfl rfl rfl rfl (aS ir) ?_
      refine ag.nil ?_
      exact dZ 0 (hm cd () h)
     ·refine ai.skip ?_
      exact dZ 0 (hm s2.2 () h)
    ·simp only [Sum.elim_inl] at h
     refine ah.dT (L2:=(⟨some D,.dk⟩ :: ⟨some bn,.var (s2.1:Ref)⟩ :: ⟨some a8,.var (al:az)⟩ :: aY s2.2)) rfl ?_
     refine ah.fF ?_
     refine ah.next ?_
     refine ai.seq ?_
     obtain⟨jo,CI,h⟩:=ao.bX h
     obtain⟨wT,CJ,h⟩:=ao.bX h
     obtain⟨cq,sb,h⟩:=ao.bX h
     refine ai.T0 mixed 9 (Array.mk (false :: false :: false :: false :: false :: false :: false :: false :: false :: [])) rfl rfl ?_
     refine cB.cut (γ:=Unit) 3 (Array.mk (true :: true :: true :: true :: true :: true :: false :: false :: false :: [])) (fun Kv=> [(0,I.of (ab)),(1,I.of (al)),(2,I.of (aP)),(3,I.of (cE)),(5,I.eq (.pointer (some ⟨a8,0,none⟩))),(8,I.of (false)),(9,I.of (aK)),(10,I.eq (.pointer (some ⟨bn,0,none⟩))),(16,I.of (!aB)),(28,I.of (aK.isSome && bl.dr)),(33,I.of (b7.ck.isNone)),(39,I.of (ab)),(40,I.eq (.pointer (some ⟨bT,0,none⟩))),(41,I.eq (.pointer (some ⟨bT,0 + 1,none⟩))),(42,I.of (e0.ck)),(43,I.of (ab)),(44,I.of (al)),(45,I.of (aP)),(46,I.gi 255 [I.ptr bk.1,I.ptr bk.2.1,I.ptr bk.2.2]),(68,I.of (s2.1)),(69,I.of (s2.1)),(70,I.of (cE)),(71,I.eq (.pointer (some ⟨jo,0,none⟩))),(72,I.eq (.pointer (some ⟨jo,0 + 2,none⟩)))]) (fun Kv=>(⟨some D,.dk⟩ :: ⟨some bn,.var (s2.1:Ref)⟩ :: ⟨some a8,.var (al:az)⟩ :: aY cq)) (fun Kv=> ?_) (fun FH=> ?_)
     ·refine cB.tail 6 rfl (by kernel_rfl) ?_
      obtain⟨Hz,Wi,h⟩:=ao.bX h
      refine bp (de (dO (aa rfl) Wi)) ?_
      refine ba (a1 By) ?_
      obtain⟨HA,Wj,h⟩:=ao.bX h
      obtain⟨fT,yX,h⟩:=ao.bX h
      refine ag.lY (k':=Cell.fp ({ HA with hW:=cE } :di)) 3 rfl ((aO.id di).comp A5) (v:=(cE:Int)) bP (aa rfl) (aa rfl) (ja Wj) rfl rfl rfl rfl (aS yX) ?_
      refine bY ?_
      refine aT ?_
      refine aV ?_
      refine ai.ret ?_
      refine ah.Cp 0 rfl rfl ?_
      exact ah.ez (⟨⟨(true,fT),h⟩,()⟩: {r // _} × _) (.cons _ (.cons _ (.cons _ (.refl _)))) rfl rfl (df rfl)
     refine cB.cut (γ:=Unit) 4 (Array.mk (true :: false :: true :: true :: true :: true :: false :: false :: false :: [])) (fun Kw=> [(0,I.of (ab)),(1,I.of (al)),(2,I.of (aP)),(3,I.of (cE)),(5,I.eq (.pointer (some ⟨a8,0,none⟩))),(8,I.of (false)),(9,I.of (aK)),(10,I.eq (.pointer (some ⟨bn,0,none⟩))),(16,I.of (!aB)),(28,I.of (aK.isSome && bl.dr)),(33,I.of (b7.ck.isNone)),(39,I.of (ab)),(40,I.eq (.pointer (some ⟨bT,0,none⟩))),(41,I.eq (.pointer (some ⟨bT,0 + 1,none⟩))),(42,I.of (e0.ck)),(43,I.of (ab)),(44,I.of (al)),(45,I.of (aP)),(46,I.gi 255 [I.ptr bk.1,I.ptr bk.2.1,I.ptr bk.2.2]),(68,I.of (s2.1)),(70,I.of (cE)),(71,I.eq (.pointer (some ⟨jo,0,none⟩))),(72,I.eq (.pointer (some ⟨jo,0 + 2,none⟩)))]) (fun Kw=>(⟨some D,.dk⟩ :: ⟨some bn,.var (s2.1:Ref)⟩ :: ⟨some a8,.var (al:az)⟩ :: aY cq)) (fun Kw=> ?_) (fun Lm=> ?_)
     ·clear h
      refine cB.step [1] (by kernel_rfl) rfl ⟨⟨_,rfl,?_⟩,trivial⟩
      ·refine cS 1 dY ?_
       refine ag.nil ?_
       exact ah.any rfl (cB.le (.same rfl (.same rfl (.same rfl (.same rfl (.same rfl (.same rfl (.same rfl (.same rfl (.same rfl (.same rfl (.same rfl (.same rfl (.same rfl (.same rfl (.same rfl (.same rfl (.same rfl (.same rfl (.same rfl (.same rfl (.same rfl (.same rfl (.same rfl (.same rfl .nil)))))))))))))))))))))))) (FH ()))
     refine cB.cut (γ:=Unit) 4 (Array.mk (true :: true :: false :: true :: true :: true :: false :: false :: false :: [])) (fun Kx=> [(0,I.of (ab)),(1,I.of (al)),(2,I.of (aP)),(3,I.of (cE)),(5,I.eq (.pointer (some ⟨a8,0,none⟩))),(8,I.of (false)),(9,I.of (aK)),(10,I.eq (.pointer (some ⟨bn,0,none⟩))),(16,I.of (!aB)),(28,I.of (aK.isSome && bl.dr)),(33,I.of (b7.ck.isNone)),(39,I.of (ab)),(40,I.eq (.pointer (some ⟨bT,0,none⟩))),(41,I.eq (.pointer (some ⟨bT,0 + 1,none⟩))),(42,I.of (e0.ck)),(43,I.of (ab)),(44,I.of (al)),(45,I.of (aP)),(46,I.gi 255 [I.ptr bk.1,I.ptr bk.2.1,I.ptr bk.2.2]),(68,I.of (s2.1)),(69,I.of (s2.1)),(71,I.eq (.pointer (some ⟨jo,0,none⟩))),(72,I.eq (.pointer (some ⟨jo,0 + 2,none⟩)))]) (fun Kx=>(⟨some D,.dk⟩ :: ⟨some bn,.var (s2.1:Ref)⟩ :: ⟨some a8,.var (al:az)⟩ :: aY cq)) (fun Kx=> ?_) (fun Ln=> ?_)
     ·clear h
      refine cB.step [2] (by kernel_rfl) rfl ⟨⟨_,rfl,?_⟩,trivial⟩
      ·refine aD ?_
       refine ag.nil ?_
       exact ah.any rfl (cB.le (.same rfl (.same rfl (.same rfl (.same rfl (.same rfl (.same rfl (.same rfl (.same rfl (.same rfl (.same rfl (.same rfl (.same rfl (.same rfl (.same rfl (.same rfl (.same rfl (.same rfl (.same rfl (.same rfl (.same rfl (.same rfl (.same rfl (.same rfl (.same rfl .nil)))))))))))))))))))))))) (FH ()))
     refine cB.cut (γ:=Unit) 4 (Array.mk (true :: true :: true :: true :: true :: false :: false :: false :: false :: [])) (fun Ky=> [(0,I.of (ab)),(1,I.of (al)),(2,I.of (aP)),(3,I.of (cE)),(5,I.eq (.pointer (some ⟨a8,0,none⟩))),(8,I.of (false)),(9,I.of (aK)),(10,I.eq (.pointer (some ⟨bn,0,none⟩))),(16,I.of (!aB)),(28,I.of (aK.isSome && bl.dr)),(33,I.of (b7.ck.isNone)),(39,I.of (ab)),(40,I.eq (.pointer (some ⟨bT,0,none⟩))),(41,I.eq (.pointer (some ⟨bT,0 + 1,none⟩))),(42,I.of (e0.ck)),(43,I.of (ab)),(44,I.of (al)),(45,I.of (aP)),(46,I.gi 255 [I.ptr bk.1,I.ptr bk.2.1,I.ptr bk.2.2]),(68,I.of (s2.1)),(69,I.of (s2.1)),(70,I.of (cE)),(71,I.eq (.pointer (some ⟨jo,0,none⟩))),(72,I.eq (.pointer (some ⟨jo,0 + 2,none⟩)))]) (fun Ky=>(⟨some D,.dk⟩ :: ⟨some bn,.var (s2.1:Ref)⟩ :: ⟨some a8,.var (al:az)⟩ :: aY s2.2)) (fun Ky=> ?_) (fun FI=> ?_)
     ·clear h
      refine cB.step [5] (by kernel_rfl) rfl ⟨⟨_,rfl,?_⟩,trivial⟩
      ·refine ag.lY (k':=Cell.fp ({ wT with dr:=true } :di)) 3 rfl ((aO.id di).comp p9) (v:=(true:Bool)) lg (aa rfl) (fz true) (ja CJ) rfl rfl rfl rfl (aS sb) ?_
       refine ag.nil ?_
       exact ah.any rfl (cB.le (.same rfl (.same rfl (.same rfl (.same rfl (.same rfl (.same rfl (.same rfl (.same rfl (.same rfl (.same rfl (.same rfl (.same rfl (.same rfl (.same rfl (.same rfl (.same rfl (.same rfl (.same rfl (.same rfl (.same rfl (.same rfl (.same rfl (.same rfl (.same rfl .nil)))))))))))))))))))))))) (FH ()))
     refine cB.cut (γ:=Unit) 5 (Array.mk (true :: false :: false :: true :: true :: true :: false :: false :: false :: [])) (fun Kz=> [(0,I.of (ab)),(1,I.of (al)),(2,I.of (aP)),(3,I.of (cE)),(5,I.eq (.pointer (some ⟨a8,0,none⟩))),(8,I.of (false)),(9,I.of (aK)),(10,I.eq (.pointer (some ⟨bn,0,none⟩))),(16,I.of (!aB)),(28,I.of (aK.isSome && bl.dr)),(33,I.of (b7.ck.isNone)),(39,I.of (ab)),(40,I.eq (.pointer (some ⟨bT,0,none⟩))),(41,I.eq (.pointer (some ⟨bT,0 + 1,none⟩))),(42,I.of (e0.ck)),(43,I.of (ab)),(44,I.of (al)),(45,I.of (aP)),(46,I.gi 255 [I.ptr bk.1,I.ptr bk.2.1,I.ptr bk.2.2]),(68,I.of (s2.1)),(71,I.eq (.pointer (some ⟨jo,0,none⟩))),(72,I.eq (.pointer (some ⟨jo,0 + 2,none⟩)))]) (fun Kz=>(⟨some D,.dk⟩ :: ⟨some bn,.var (s2.1:Ref)⟩ :: ⟨some a8,.var (al:az)⟩ :: aY cq)) (fun Kz=> ?_) (fun T1=> ?_)
     ·clear h
      refine cB.step [1,2] (by kernel_rfl) rfl ⟨⟨_,rfl,?_⟩,⟨_,rfl,?_⟩,trivial⟩
      ·refine cS 1 dY ?_
       refine ag.nil ?_
       exact ah.any rfl (cB.le (.same rfl (.same rfl (.same rfl (.same rfl (.same rfl (.same rfl (.same rfl (.same rfl (.same rfl (.same rfl (.same rfl (.same rfl (.same rfl (.same rfl (.same rfl (.same rfl (.same rfl (.same rfl (.same rfl (.same rfl (.same rfl (.same rfl (.same rfl .nil))))))))))))))))))))))) (Ln ()))
      ·refine aD ?_
       refine ag.nil ?_
       exact ah.any rfl (cB.le (.same rfl (.same rfl (.same rfl (.same rfl (.same rfl (.same rfl (.same rfl (.same rfl (.same rfl (.same rfl (.same rfl (.same rfl (.same rfl (.same rfl (.same rfl (.same rfl (.same rfl (.same rfl (.same rfl (.same rfl (.same rfl (.same rfl (.same rfl .nil))))))))))))))))))))))) (Lm ()))
     refine cB.cut (γ:=Unit) 5 (Array.mk (true :: false :: true :: true :: true :: false :: false :: false :: false :: [])) (fun KA=> [(0,I.of (ab)),(1,I.of (al)),(2,I.of (aP)),(3,I.of (cE)),(5,I.eq (.pointer (some ⟨a8,0,none⟩))),(8,I.of (false)),(9,I.of (aK)),(10,I.eq (.pointer (some ⟨bn,0,none⟩))),(16,I.of (!aB)),(28,I.of (aK.isSome && bl.dr)),(33,I.of (b7.ck.isNone)),(39,I.of (ab)),(40,I.eq (.pointer (some ⟨bT,0,none⟩))),(41,I.eq (.pointer (some ⟨bT,0 + 1,none⟩))),(42,I.of (e0.ck)),(43,I.of (ab)),(44,I.of (al)),(45,I.of (aP)),(46,I.gi 255 [I.ptr bk.1,I.ptr bk.2.1,I.ptr bk.2.2]),(68,I.of (s2.1)),(70,I.of (cE)),(71,I.eq (.pointer (some ⟨jo,0,none⟩))),(72,I.eq (.pointer (some ⟨jo,0 + 2,none⟩)))]) (fun KA=>(⟨some D,.dk⟩ :: ⟨some bn,.var (s2.1:Ref)⟩ :: ⟨some a8,.var (al:az)⟩ :: aY s2.2)) (fun KA=> ?_) (fun Lp=> ?_)
     ·clear h
      refine cB.step [1,5] (by kernel_rfl) rfl ⟨⟨_,rfl,?_⟩,⟨_,rfl,?_⟩,trivial⟩
      ·refine cS 1 dY ?_
       refine ag.nil ?_
       exact ah.any rfl (cB.le (.same rfl (.same rfl (.same rfl (.same rfl (.same rfl (.same rfl (.same rfl (.same rfl (.same rfl (.same rfl (.same rfl (.same rfl (.same rfl (.same rfl (.same rfl (.same rfl (.same rfl (.same rfl (.same rfl (.same rfl (.same rfl (.same rfl (.same rfl (.same rfl .nil)))))))))))))))))))))))) (FI ()))
      ·refine ag.lY (k':=Cell.fp ({ wT with dr:=true } :di)) 3 rfl ((aO.id di).comp p9) (v:=(true:Bool)) lg (aa rfl) (fz true) (ja CJ) rfl rfl rfl rfl (aS sb) ?_
       refine ag.nil ?_
       exact ah.any rfl (cB.le (.same rfl (.same rfl (.same rfl (.same rfl (.same rfl (.same rfl (.same rfl (.same rfl (.same rfl (.same rfl (.same rfl (.same rfl (.same rfl (.same rfl (.same rfl (.same rfl (.same rfl (.same rfl (.same rfl (.same rfl (.same rfl (.same rfl (.same rfl .nil))))))))))))))))))))))) (Lm ()))
     refine cB.cut (γ:=Unit) 5 (Array.mk (true :: true :: false :: true :: true :: false :: false :: false :: false :: [])) (fun KB=> [(0,I.of (ab)),(1,I.of (al)),(2,I.of (aP)),(3,I.of (cE)),(5,I.eq (.pointer (some ⟨a8,0,none⟩))),(8,I.of (false)),(9,I.of (aK)),(10,I.eq (.pointer (some ⟨bn,0,none⟩))),(16,I.of (!aB)),(28,I.of (aK.isSome && bl.dr)),(33,I.of (b7.ck.isNone)),(39,I.of (ab)),(40,I.eq (.pointer (some ⟨bT,0,none⟩))),(41,I.eq (.pointer (some ⟨bT,0 + 1,none⟩))),(42,I.of (e0.ck)),(43,I.of (ab)),(44,I.of (al)),(45,I.of (aP)),(46,I.gi 255 [I.ptr bk.1,I.ptr bk.2.1,I.ptr bk.2.2]),(68,I.of (s2.1)),(69,I.of (s2.1)),(71,I.eq (.pointer (some ⟨jo,0,none⟩))),(72,I.eq (.pointer (some ⟨jo,0 + 2,none⟩)))]) (fun KB=>(⟨some D,.dk⟩ :: ⟨some bn,.var (s2.1:Ref)⟩ :: ⟨some a8,.var (al:az)⟩ :: aY s2.2)) (fun KB=> ?_) (fun Lq=> ?_)
     ·clear h
      refine cB.step [2,5] (by kernel_rfl) rfl ⟨⟨_,rfl,?_⟩,⟨_,rfl,?_⟩,trivial⟩
      ·refine aD ?_
       refine ag.nil ?_
       exact ah.any rfl (cB.le (.same rfl (.same rfl (.same rfl (.same rfl (.same rfl (.same rfl (.same rfl (.same rfl (.same rfl (.same rfl (.same rfl (.same rfl (.same rfl (.same rfl (.same rfl (.same rfl (.same rfl (.same rfl (.same rfl (.same rfl (.same rfl (.same rfl (.same rfl (.same rfl .nil)))))))))))))))))))))))) (FI ()))
      ·refine ag.lY (k':=Cell.fp ({ wT with dr:=true } :di)) 3 rfl ((aO.id di).comp p9) (v:=(true:Bool)) lg (aa rfl) (fz true) (ja CJ) rfl rfl rfl rfl (aS sb) ?_
       refine ag.nil ?_
       exact ah.any rfl (cB.le (.same rfl (.same rfl (.same rfl (.same rfl (.same rfl (.same rfl (.same rfl (.same rfl (.same rfl (.same rfl (.same rfl (.same rfl (.same rfl (.same rfl (.same rfl (.same rfl (.same rfl (.same rfl (.same rfl (.same rfl (.same rfl (.same rfl (.same rfl .nil))))))))))))))))))))))) (Ln ()))
     refine cB.cut (γ:=Unit) 5 (Array.mk (true :: true :: true :: true :: false :: false :: false :: false :: false :: [])) (fun KC=> [(0,I.of (ab)),(1,I.of (al)),(2,I.of (aP)),(3,I.of (cE)),(5,I.eq (.pointer (some ⟨a8,0,none⟩))),(8,I.of (false)),(9,I.of (aK)),(10,I.eq (.pointer (some ⟨bn,0,none⟩))),(16,I.of (!aB)),(28,I.of (aK.isSome && bl.dr)),(33,I.of (b7.ck.isNone)),(39,I.of (ab)),(40,I.eq (.pointer (some ⟨bT,0,none⟩))),(41,I.eq (.pointer (some ⟨bT,0 + 1,none⟩))),(42,I.of (e0.ck)),(43,I.of (ab)),(44,I.of (al)),(45,I.of (aP)),(46,I.gi 255 [I.ptr bk.1,I.ptr bk.2.1,I.ptr bk.2.2]),(68,I.of (s2.1)),(69,I.of (s2.1)),(70,I.of (cE)),(71,I.eq (.pointer (some ⟨jo,0,none⟩)))]) (fun KC=>(⟨some D,.dk⟩ :: ⟨some bn,.var (s2.1:Ref)⟩ :: ⟨some a8,.var (al:az)⟩ :: aY s2.2)) (fun KC=> ?_) (fun FJ=> ?_)
     ·clear h
      refine cB.step [4] (by kernel_rfl) rfl ⟨⟨_,rfl,?_⟩,trivial⟩
      ·refine ba (a1 qi) ?_
       refine ag.nil ?_
       exact ah.any rfl (cB.le (.same rfl (.same rfl (.same rfl (.same rfl (.same rfl (.same rfl (.same rfl (.same rfl (.same rfl (.same rfl (.same rfl (.same rfl (.same rfl (.same rfl (.same rfl (.same rfl (.same rfl (.same rfl (.same rfl (.same rfl (.same rfl (.same rfl (.same rfl (.same rfl .nil)))))))))))))))))))))))) (FI ()))
     refine cB.cut (γ:=Unit) 6 (Array.mk (true :: false :: false :: true :: true :: false :: false :: false :: false :: [])) (fun KD=> [(0,I.of (ab)),(1,I.of (al)),(2,I.of (aP)),(3,I.of (cE)),(5,I.eq (.pointer (some ⟨a8,0,none⟩))),(8,I.of (false)),(9,I.of (aK)),(10,I.eq (.pointer (some ⟨bn,0,none⟩))),(16,I.of (!aB)),(28,I.of (aK.isSome && bl.dr)),(33,I.of (b7.ck.isNone)),(39,I.of (ab)),(40,I.eq (.pointer (some ⟨bT,0,none⟩))),(41,I.eq (.pointer (some ⟨bT,0 + 1,none⟩))),(42,I.of (e0.ck)),(43,I.of (ab)),(44,I.of (al)),(45,I.of (aP)),(46,I.gi 255 [I.ptr bk.1,I.ptr bk.2.1,I.ptr bk.2.2]),(68,I.of (s2.1)),(71,I.eq (.pointer (some ⟨jo,0,none⟩))),(72,I.eq (.pointer (some ⟨jo,0 + 2,none⟩)))]) (fun KD=>(⟨some D,.dk⟩ :: ⟨some bn,.var (s2.1:Ref)⟩ :: ⟨some a8,.var (al:az)⟩ :: aY s2.2)) (fun KD=> ?_) (fun T2=> ?_)
     ·clear h
      refine cB.step [1,2,5] (by kernel_rfl) rfl ⟨⟨_,rfl,?_⟩,⟨_,rfl,?_⟩,⟨_,rfl,?_⟩,trivial⟩
      ·refine cS 1 dY ?_
       refine ag.nil ?_
       exact ah.any rfl (cB.le (.same rfl (.same rfl (.same rfl (.same rfl (.same rfl (.same rfl (.same rfl (.same rfl (.same rfl (.same rfl (.same rfl (.same rfl (.same rfl (.same rfl (.same rfl (.same rfl (.same rfl (.same rfl (.same rfl (.same rfl (.same rfl (.same rfl (.same rfl .nil))))))))))))))))))))))) (Lq ()))
      ·refine aD ?_
       refine ag.nil ?_
       exact ah.any rfl (cB.le (.same rfl (.same rfl (.same rfl (.same rfl (.same rfl (.same rfl (.same rfl (.same rfl (.same rfl (.same rfl (.same rfl (.same rfl (.same rfl (.same rfl (.same rfl (.same rfl (.same rfl (.same rfl (.same rfl (.same rfl (.same rfl (.same rfl (.same rfl .nil))))))))))))))))))))))) (Lp ()))
      ·refine ag.lY (k':=Cell.fp ({ wT with dr:=true } :di)) 3 rfl ((aO.id di).comp p9) (v:=(true:Bool)) lg (aa rfl) (fz true) (ja CJ) rfl rfl rfl rfl (aS sb) ?_
       refine ag.nil ?_
       exact ah.any rfl (cB.le (.same rfl (.same rfl (.same rfl (.same rfl (.same rfl (.same rfl (.same rfl (.same rfl (.same rfl (.same rfl (.same rfl (.same rfl (.same rfl (.same rfl (.same rfl (.same rfl (.same rfl (.same rfl (.same rfl (.same rfl (.same rfl (.same rfl .nil)))))))))))))))))))))) (T1 ()))
     refine cB.cut (γ:=Unit) 6 (Array.mk (true :: false :: true :: true :: false :: false :: false :: false :: false :: [])) (fun KE=> [(0,I.of (ab)),(1,I.of (al)),(2,I.of (aP)),(3,I.of (cE)),(5,I.eq (.pointer (some ⟨a8,0,none⟩))),(8,I.of (false)),(9,I.of (aK)),(10,I.eq (.pointer (some ⟨bn,0,none⟩))),(16,I.of (!aB)),(28,I.of (aK.isSome && bl.dr)),(33,I.of (b7.ck.isNone)),(39,I.of (ab)),(40,I.eq (.pointer (some ⟨bT,0,none⟩))),(41,I.eq (.pointer (some ⟨bT,0 + 1,none⟩))),(42,I.of (e0.ck)),(43,I.of (ab)),(44,I.of (al)),(45,I.of (aP)),(46,I.gi 255 [I.ptr bk.1,I.ptr bk.2.1,I.ptr bk.2.2]),(68,I.of (s2.1)),(70,I.of (cE)),(71,I.eq (.pointer (some ⟨jo,0,none⟩)))]) (fun KE=>(⟨some D,.dk⟩ :: ⟨some bn,.var (s2.1:Ref)⟩ :: ⟨some a8,.var (al:az)⟩ :: aY s2.2)) (fun KE=> ?_) (fun Lt=> ?_)
     ·clear h
      refine cB.step [1,4] (by kernel_rfl) rfl ⟨⟨_,rfl,?_⟩,⟨_,rfl,?_⟩,trivial⟩
      ·refine cS 1 dY ?_
       refine ag.nil ?_
       exact ah.any rfl (cB.le (.same rfl (.same rfl (.same rfl (.same rfl (.same rfl (.same rfl (.same rfl (.same rfl (.same rfl (.same rfl (.same rfl (.same rfl (.same rfl (.same rfl (.same rfl (.same rfl (.same rfl (.same rfl (.same rfl (.same rfl (.same rfl (.same rfl (.same rfl .nil))))))))))))))))))))))) (FJ ()))
      ·refine ba (a1 qi) ?_
       refine ag.nil ?_
       exact ah.any rfl (cB.le (.same rfl (.same rfl (.same rfl (.same rfl (.same rfl (.same rfl (.same rfl (.same rfl (.same rfl (.same rfl (.same rfl (.same rfl (.same rfl (.same rfl (.same rfl (.same rfl (.same rfl (.same rfl (.same rfl (.same rfl (.same rfl (.same rfl (.same rfl .nil))))))))))))))))))))))) (Lp ()))
     refine cB.cut (γ:=Unit) 6 (Array.mk (true :: true :: false :: true :: false :: false :: false :: false :: false :: [])) (fun Lu=> [(0,I.of (ab)),(1,I.of (al)),(2,I.of (aP)),(3,I.of (cE)),(5,I.eq (.pointer (some ⟨a8,0,none⟩))),(8,I.of (false)),(9,I.of (aK)),(10,I.eq (.pointer (some ⟨bn,0,none⟩))),(16,I.of (!aB)),(28,I.of (aK.isSome && bl.dr)),(33,I.of (b7.ck.isNone)),(39,I.of (ab)),(40,I.eq (.pointer (some ⟨bT,0,none⟩))),(41,I.eq (.pointer (some ⟨bT,0 + 1,none⟩))),(42,I.of (e0.ck)),(43,I.of (ab)),(44,I.of (al)),(45,I.of (aP)),(46,I.gi 255 [I.ptr bk.1,I.ptr bk.2.1,I.ptr bk.2.2]),(68,I.of (s2.1)),(69,I.of (s2.1)),(71,I.eq (.pointer (some ⟨jo,0,none⟩)))]) (fun Lu=>(⟨some D,.dk⟩ :: ⟨some bn,.var (s2.1:Ref)⟩ :: ⟨some a8,.var (al:az)⟩ :: aY s2.2)) (fun Lu=> ?_) (fun Ml=> ?_)
     ·clear h
      refine cB.step [2,4] (by kernel_rfl) rfl ⟨⟨_,rfl,?_⟩,⟨_,rfl,?_⟩,trivial⟩
      ·refine aD ?_
       refine ag.nil ?_
       exact ah.any rfl (cB.le (.same rfl (.same rfl (.same rfl (.same rfl (.same rfl (.same rfl (.same rfl (.same rfl (.same rfl (.same rfl (.same rfl (.same rfl (.same rfl (.same rfl (.same rfl (.same rfl (.same rfl (.same rfl (.same rfl (.same rfl (.same rfl (.same rfl (.same rfl .nil))))))))))))))))))))))) (FJ ()))
      ·refine ba (a1 qi) ?_
       refine ag.nil ?_
       exact ah.any rfl (cB.le (.same rfl (.same rfl (.same rfl (.same rfl (.same rfl (.same rfl (.same rfl (.same rfl (.same rfl (.same rfl (.same rfl (.same rfl (.same rfl (.same rfl (.same rfl (.same rfl (.same rfl (.same rfl (.same rfl (.same rfl (.same rfl (.same rfl (.same rfl .nil))))))))))))))))))))))) (Lq ()))
     refine cB.cut (γ:=Unit) 6 (Array.mk (true :: true :: true :: false :: false :: false :: false :: false :: false :: [])) (fun Lv=> [(0,I.of (ab)),(1,I.of (al)),(2,I.of (aP)),(3,I.of (cE)),(5,I.eq (.pointer (some ⟨a8,0,none⟩))),(8,I.of (false)),(9,I.of (aK)),(10,I.eq (.pointer (some ⟨bn,0,none⟩))),(16,I.of (!aB)),(28,I.of (aK.isSome && bl.dr)),(33,I.of (b7.ck.isNone)),(39,I.of (ab)),(40,I.eq (.pointer (some ⟨bT,0,none⟩))),(41,I.eq (.pointer (some ⟨bT,0 + 1,none⟩))),(42,I.of (e0.ck)),(43,I.of (ab)),(44,I.of (al)),(45,I.of (aP)),(46,I.gi 255 [I.ptr bk.1,I.ptr bk.2.1,I.ptr bk.2.2]),(68,I.of (s2.1)),(69,I.of (s2.1)),(70,I.of (cE))]) (fun Lv=>(⟨some D,.dk⟩ :: ⟨some bn,.var (s2.1:Ref)⟩ :: ⟨some a8,.var (al:az)⟩ :: aY s2.2)) (fun Lv=> ?_) (fun F7=> ?_)
     ·clear h
      refine cB.step [3] (by kernel_rfl) rfl ⟨⟨_,rfl,?_⟩,trivial⟩
      ·refine bp (de (dO (aa rfl) CI)) ?_
       refine ag.nil ?_
       exact ah.any rfl (cB.le (.same rfl (.same rfl (.same rfl (.same rfl (.same rfl (.same rfl (.same rfl (.same rfl (.same rfl (.same rfl (.same rfl (.same rfl (.same rfl (.same rfl (.same rfl (.same rfl (.same rfl (.same rfl (.same rfl (.same rfl (.same rfl (.same rfl (.same rfl .nil))))))))))))))))))))))) (FJ ()))
     refine cB.cut (γ:=Unit) 7 (Array.mk (false :: true :: true :: false :: false :: false :: false :: false :: false :: [])) (fun Lw=> [(0,I.of (ab)),(1,I.of (al)),(2,I.of (aP)),(3,I.of (cE)),(5,I.eq (.pointer (some ⟨a8,0,none⟩))),(8,I.of (false)),(9,I.of (aK)),(10,I.eq (.pointer (some ⟨bn,0,none⟩))),(16,I.of (!aB)),(28,I.of (aK.isSome && bl.dr)),(33,I.of (b7.ck.isNone)),(39,I.of (ab)),(40,I.eq (.pointer (some ⟨bT,0,none⟩))),(41,I.eq (.pointer (some ⟨bT,0 + 1,none⟩))),(42,I.of (e0.ck)),(43,I.of (ab)),(44,I.of (al)),(45,I.of (aP)),(46,I.gi 255 [I.ptr bk.1,I.ptr bk.2.1,I.ptr bk.2.2]),(69,I.of (s2.1)),(70,I.of (cE))]) (fun Lw=>(⟨some D,.dk⟩ :: ⟨some bn,.var (s2.1:Ref)⟩ :: ⟨some a8,.var (al:az)⟩ :: aY s2.2)) (fun Lw=> ?_) (fun Mm=> ?_)
     ·clear h
      refine cB.step [0] (by kernel_rfl) rfl ⟨⟨_,rfl,?_⟩,trivial⟩
      ·refine cS 1 dY ?_
       refine ag.nil ?_
       exact ah.any rfl (cB.le (.same rfl (.same rfl (.same rfl (.same rfl (.same rfl (.same rfl (.same rfl (.same rfl (.same rfl (.same rfl (.same rfl (.same rfl (.same rfl (.same rfl (.same rfl (.same rfl (.same rfl (.same rfl (.same rfl (.same rfl (.same rfl (.same rfl .nil)))))))))))))))))))))) (F7 ()))
     refine cB.cut (γ:=Unit) 7 (Array.mk (true :: false :: false :: true :: false :: false :: false :: false :: false :: [])) (fun Ly=> [(0,I.of (ab)),(1,I.of (al)),(2,I.of (aP)),(3,I.of (cE)),(5,I.eq (.pointer (some ⟨a8,0,none⟩))),(8,I.of (false)),(9,I.of (aK)),(10,I.eq (.pointer (some ⟨bn,0,none⟩))),(16,I.of (!aB)),(28,I.of (aK.isSome && bl.dr)),(33,I.of (b7.ck.isNone)),(39,I.of (ab)),(40,I.eq (.pointer (some ⟨bT,0,none⟩))),(41,I.eq (.pointer (some ⟨bT,0 + 1,none⟩))),(42,I.of (e0.ck)),(43,I.of (ab)),(44,I.of (al)),(45,I.of (aP)),(46,I.gi 255 [I.ptr bk.1,I.ptr bk.2.1,I.ptr bk.2.2]),(68,I.of (s2.1)),(71,I.eq (.pointer (some ⟨jo,0,none⟩)))]) (fun Ly=>(⟨some D,.dk⟩ :: ⟨some bn,.var (s2.1:Ref)⟩ :: ⟨some a8,.var (al:az)⟩ :: aY s2.2)) (fun Ly=> ?_) (fun Vo=> ?_)
     ·clear h
      refine cB.step [1,2,4] (by kernel_rfl) rfl ⟨⟨_,rfl,?_⟩,⟨_,rfl,?_⟩,⟨_,rfl,?_⟩,trivial⟩
      ·refine cS 1 dY ?_
       refine ag.nil ?_
       exact ah.any rfl (cB.le (.same rfl (.same rfl (.same rfl (.same rfl (.same rfl (.same rfl (.same rfl (.same rfl (.same rfl (.same rfl (.same rfl (.same rfl (.same rfl (.same rfl (.same rfl (.same rfl (.same rfl (.same rfl (.same rfl (.same rfl (.same rfl (.same rfl .nil)))))))))))))))))))))) (Ml ()))
      ·refine aD ?_
       refine ag.nil ?_
       exact ah.any rfl (cB.le (.same rfl (.same rfl (.same rfl (.same rfl (.same rfl (.same rfl (.same rfl (.same rfl (.same rfl (.same rfl (.same rfl (.same rfl (.same rfl (.same rfl (.same rfl (.same rfl (.same rfl (.same rfl (.same rfl (.same rfl (.same rfl (.same rfl .nil)))))))))))))))))))))) (Lt ()))
      ·refine ba (a1 qi) ?_
       refine ag.nil ?_
       exact ah.any rfl (cB.le (.same rfl (.same rfl (.same rfl (.same rfl (.same rfl (.same rfl (.same rfl (.same rfl (.same rfl (.same rfl (.same rfl (.same rfl (.same rfl (.same rfl (.same rfl (.same rfl (.same rfl (.same rfl (.same rfl (.same rfl (.same rfl (.same rfl .nil)))))))))))))))))))))) (T2 ()))
     refine cB.cut (γ:=Unit) 7 (Array.mk (true :: false :: true :: false :: false :: false :: false :: false :: false :: [])) (fun Lz=> [(0,I.of (ab)),(1,I.of (al)),(2,I.of (aP)),(3,I.of (cE)),(5,I.eq (.pointer (some ⟨a8,0,none⟩))),(8,I.of (false)),(9,I.of (aK)),(10,I.eq (.pointer (some ⟨bn,0,none⟩))),(16,I.of (!aB)),(28,I.of (aK.isSome && bl.dr)),(33,I.of (b7.ck.isNone)),(39,I.of (ab)),(40,I.eq (.pointer (some ⟨bT,0,none⟩))),(41,I.eq (.pointer (some ⟨bT,0 + 1,none⟩))),(42,I.of (e0.ck)),(43,I.of (ab)),(44,I.of (al)),(45,I.of (aP)),(46,I.gi 255 [I.ptr bk.1,I.ptr bk.2.1,I.ptr bk.2.2]),(68,I.of (s2.1)),(70,I.of (cE))]) (fun Lz=>(⟨some D,.dk⟩ :: ⟨some bn,.var (s2.1:Ref)⟩ :: ⟨some a8,.var (al:az)⟩ :: aY s2.2)) (fun Lz=> ?_) (fun Mn=> ?_)
     ·clear h
      refine cB.step [1,3] (by kernel_rfl) rfl ⟨⟨_,rfl,?_⟩,⟨_,rfl,?_⟩,trivial⟩
      ·refine cS 1 dY ?_
       refine ag.nil ?_
       exact ah.any rfl (cB.le (.same rfl (.same rfl (.same rfl (.same rfl (.same rfl (.same rfl (.same rfl (.same rfl (.same rfl (.same rfl (.same rfl (.same rfl (.same rfl (.same rfl (.same rfl (.same rfl (.same rfl (.same rfl (.same rfl (.same rfl (.same rfl (.same rfl .nil)))))))))))))))))))))) (F7 ()))
      ·refine bp (de (dO (aa rfl) CI)) ?_
       refine ag.nil ?_
       exact ah.any rfl (cB.le (.same rfl (.same rfl (.same rfl (.same rfl (.same rfl (.same rfl (.same rfl (.same rfl (.same rfl (.same rfl (.same rfl (.same rfl (.same rfl (.same rfl (.same rfl (.same rfl (.same rfl (.same rfl (.same rfl (.same rfl (.same rfl (.same rfl .nil)))))))))))))))))))))) (Lt ()))
     refine cB.cut (γ:=Unit) 7 (Array.mk (true :: true :: false :: false :: false :: false :: false :: false :: false :: [])) (fun LA=> [(0,I.of (ab)),(1,I.of (al)),(2,I.of (aP)),(3,I.of (cE)),(5,I.eq (.pointer (some ⟨a8,0,none⟩))),(8,I.of (false)),(9,I.of (aK)),(10,I.eq (.pointer (some ⟨bn,0,none⟩))),(16,I.of (!aB)),(28,I.of (aK.isSome && bl.dr)),(33,I.of (b7.ck.isNone)),(39,I.of (ab)),(40,I.eq (.pointer (some ⟨bT,0,none⟩))),(41,I.eq (.pointer (some ⟨bT,0 + 1,none⟩))),(42,I.of (e0.ck)),(43,I.of (ab)),(44,I.of (al)),(45,I.of (aP)),(46,I.gi 255 [I.ptr bk.1,I.ptr bk.2.1,I.ptr bk.2.2]),(68,I.of (s2.1)),(69,I.of (s2.1))]) (fun LA=>(⟨some D,.dk⟩ :: ⟨some bn,.var (s2.1:Ref)⟩ :: ⟨some a8,.var (al:az)⟩ :: aY s2.2)) (fun LA=> ?_) (fun Mo=> ?_)
     ·clear h
      refine cB.step [2,3] (by kernel_rfl) rfl ⟨⟨_,rfl,?_⟩,⟨_,rfl,?_⟩,trivial⟩
      ·refine aD ?_
       refine ag.nil ?_
       exact ah.any rfl (cB.le (.same rfl (.same rfl (.same rfl (.same rfl (.same rfl (.same rfl (.same rfl (.same rfl (.same rfl (.same rfl (.same rfl (.same rfl (.same rfl (.same rfl (.same rfl (.same rfl (.same rfl (.same rfl (.same rfl (.same rfl (.same rfl (.same rfl .nil)))))))))))))))))))))) (F7 ()))
      ·refine bp (de (dO (aa rfl) CI)) ?_
       refine ag.nil ?_
       exact ah.any rfl (cB.le (.same rfl (.same rfl (.same rfl (.same rfl (.same rfl (.same rfl (.same rfl (.same rfl (.same rfl (.same rfl (.same rfl (.same rfl (.same rfl (.same rfl (.same rfl (.same rfl (.same rfl (.same rfl (.same rfl (.same rfl (.same rfl (.same rfl .nil)))))))))))))))))))))) (Ml ()))
     refine cB.cut (γ:=Unit) 8 (Array.mk (false :: false :: true :: false :: false :: false :: false :: false :: false :: [])) (fun LB=> [(0,I.of (ab)),(1,I.of (al)),(2,I.of (aP)),(3,I.of (cE)),(5,I.eq (.pointer (some ⟨a8,0,none⟩))),(8,I.of (false)),(9,I.of (aK)),(10,I.eq (.pointer (some ⟨bn,0,none⟩))),(16,I.of (!aB)),(28,I.of (aK.isSome && bl.dr)),(33,I.of (b7.ck.isNone)),(39,I.of (ab)),(40,I.eq (.pointer (some ⟨bT,0,none⟩))),(41,I.eq (.pointer (some ⟨bT,0 + 1,none⟩))),(42,I.of (e0.ck)),(43,I.of (ab)),(44,I.of (al)),(45,I.of (aP)),(46,I.gi 255 [I.ptr bk.1,I.ptr bk.2.1,I.ptr bk.2.2]),(70,I.of (cE))]) (fun LB=>(⟨some D,.dk⟩ :: ⟨some bn,.var (s2.1:Ref)⟩ :: ⟨some a8,.var (al:az)⟩ :: aY s2.2)) (fun LB=> ?_) (fun Vp=> ?_)
     ·clear h
      refine cB.step [0,1] (by kernel_rfl) rfl ⟨⟨_,rfl,?_⟩,⟨_,rfl,?_⟩,trivial⟩
      ·refine cS 1 dY ?_
       refine ag.nil ?_
       exact ah.any rfl (cB.le (.same rfl (.same rfl (.same rfl (.same rfl (.same rfl (.same rfl (.same rfl (.same rfl (.same rfl (.same rfl (.same rfl (.same rfl (.same rfl (.same rfl (.same rfl (.same rfl (.same rfl (.same rfl (.same rfl (.same rfl (.same rfl .nil))))))))))))))))))))) (Mn ()))
      ·refine cS 1 dY ?_
       refine ag.nil ?_
       exact ah.any rfl (cB.le (.same rfl (.same rfl (.same rfl (.same rfl (.same rfl (.same rfl (.same rfl (.same rfl (.same rfl (.same rfl (.same rfl (.same rfl (.same rfl (.same rfl (.same rfl (.same rfl (.same rfl (.same rfl (.same rfl (.same rfl (.same rfl .nil))))))))))))))))))))) (Mm ()))
     refine cB.cut (γ:=Unit) 8 (Array.mk (false :: true :: false :: false :: false :: false :: false :: false :: false :: [])) (fun LC=> [(0,I.of (ab)),(1,I.of (al)),(2,I.of (aP)),(3,I.of (cE)),(5,I.eq (.pointer (some ⟨a8,0,none⟩))),(8,I.of (false)),(9,I.of (aK)),(10,I.eq (.pointer (some ⟨bn,0,none⟩))),(16,I.of (!aB)),(28,I.of (aK.isSome && bl.dr)),(33,I.of (b7.ck.isNone)),(39,I.of (ab)),(40,I.eq (.pointer (some ⟨bT,0,none⟩))),(41,I.eq (.pointer (some ⟨bT,0 + 1,none⟩))),(42,I.of (e0.ck)),(43,I.of (ab)),(44,I.of (al)),(45,I.of (aP)),(46,I.gi 255 [I.ptr bk.1,I.ptr bk.2.1,I.ptr bk.2.2]),(69,I.of (s2.1))]) (fun LC=>(⟨some D,.dk⟩ :: ⟨some bn,.var (s2.1:Ref)⟩ :: ⟨some a8,.var (al:az)⟩ :: aY s2.2)) (fun LC=> ?_) (fun Vq=> ?_)
     ·clear h
      refine cB.step [0,2] (by kernel_rfl) rfl ⟨⟨_,rfl,?_⟩,⟨_,rfl,?_⟩,trivial⟩
      ·refine cS 1 dY ?_
       refine ag.nil ?_
       exact ah.any rfl (cB.le (.same rfl (.same rfl (.same rfl (.same rfl (.same rfl (.same rfl (.same rfl (.same rfl (.same rfl (.same rfl (.same rfl (.same rfl (.same rfl (.same rfl (.same rfl (.same rfl (.same rfl (.same rfl (.same rfl (.same rfl (.same rfl .nil))))))))))))))))))))) (Mo ()))
      ·refine aD ?_
       refine ag.nil ?_
       exact ah.any rfl (cB.le (.same rfl (.same rfl (.same rfl (.same rfl (.same rfl (.same rfl (.same rfl (.same rfl (.same rfl (.same rfl (.same rfl (.same rfl (.same rfl (.same rfl (.same rfl (.same rfl (.same rfl (.same rfl (.same rfl (.same rfl (.same rfl .nil))))))))))))))))))))) (Mm ()))
     refine cB.cut (γ:=Unit) 8 (Array.mk (true :: false :: false :: false :: false :: false :: false :: false :: false :: [])) (fun LD=> [(0,I.of (ab)),(1,I.of (al)),(2,I.of (aP)),(3,I.of (cE)),(5,I.eq (.pointer (some ⟨a8,0,none⟩))),(8,I.of (false)),(9,I.of (aK)),(10,I.eq (.pointer (some ⟨bn,0,none⟩))),(16,I.of (!aB)),(28,I.of (aK.isSome && bl.dr)),(33,I.of (b7.ck.isNone)),(39,I.of (ab)),(40,I.eq (.pointer (some ⟨bT,0,none⟩))),(41,I.eq (.pointer (some ⟨bT,0 + 1,none⟩))),(42,I.of (e0.ck)),(43,I.of (ab)),(44,I.of (al)),(45,I.of (aP)),(46,I.gi 255 [I.ptr bk.1,I.ptr bk.2.1,I.ptr bk.2.2]),(68,I.of (s2.1))]) (fun LD=>(⟨some D,.dk⟩ :: ⟨some bn,.var (s2.1:Ref)⟩ :: ⟨some a8,.var (al:az)⟩ :: aY s2.2)) (fun LD=> ?_) (fun Vr=> ?_)
     ·clear h
      refine cB.step [1,2,3] (by kernel_rfl) rfl ⟨⟨_,rfl,?_⟩,⟨_,rfl,?_⟩,⟨_,rfl,?_⟩,trivial⟩
      ·refine cS 1 dY ?_
       refine ag.nil ?_
       exact ah.any rfl (cB.le (.same rfl (.same rfl (.same rfl (.same rfl (.same rfl (.same rfl (.same rfl (.same rfl (.same rfl (.same rfl (.same rfl (.same rfl (.same rfl (.same rfl (.same rfl (.same rfl (.same rfl (.same rfl (.same rfl (.same rfl (.same rfl .nil))))))))))))))))))))) (Mo ()))
      ·refine aD ?_
       refine ag.nil ?_
       exact ah.any rfl (cB.le (.same rfl (.same rfl (.same rfl (.same rfl (.same rfl (.same rfl (.same rfl (.same rfl (.same rfl (.same rfl (.same rfl (.same rfl (.same rfl (.same rfl (.same rfl (.same rfl (.same rfl (.same rfl (.same rfl (.same rfl (.same rfl .nil))))))))))))))))))))) (Mn ()))
      ·refine bp (de (dO (aa rfl) CI)) ?_
       refine ag.nil ?_
       exact ah.any rfl (cB.le (.same rfl (.same rfl (.same rfl (.same rfl (.same rfl (.same rfl (.same rfl (.same rfl (.same rfl (.same rfl (.same rfl (.same rfl (.same rfl (.same rfl (.same rfl (.same rfl (.same rfl (.same rfl (.same rfl (.same rfl (.same rfl .nil))))))))))))))))))))) (Vo ()))
     refine cB.step [0,1,2] (by kernel_rfl) rfl ⟨⟨_,rfl,?_⟩,⟨_,rfl,?_⟩,⟨_,rfl,?_⟩,trivial⟩
     ·refine cS 1 dY ?_
      refine ag.nil ?_
      exact ah.any rfl (cB.le (.same rfl (.same rfl (.same rfl (.same rfl (.same rfl (.same rfl (.same rfl (.same rfl (.same rfl (.same rfl (.same rfl (.same rfl (.same rfl (.same rfl (.same rfl (.same rfl (.same rfl (.same rfl (.same rfl (.same rfl .nil)))))))))))))))))))) (Vr ()))
     ·refine cS 1 dY ?_
      refine ag.nil ?_
      exact ah.any rfl (cB.le (.same rfl (.same rfl (.same rfl (.same rfl (.same rfl (.same rfl (.same rfl (.same rfl (.same rfl (.same rfl (.same rfl (.same rfl (.same rfl (.same rfl (.same rfl (.same rfl (.same rfl (.same rfl (.same rfl (.same rfl .nil)))))))))))))))))))) (Vq ()))
     ·refine aD ?_
      refine ag.nil ?_
      exact ah.any rfl (cB.le (.same rfl (.same rfl (.same rfl (.same rfl (.same rfl (.same rfl (.same rfl (.same rfl (.same rfl (.same rfl (.same rfl (.same rfl (.same rfl (.same rfl (.same rfl (.same rfl (.same rfl (.same rfl (.same rfl (.same rfl .nil)))))))))))))))))))) (Vp ()))
    ·exact Empty.elim eK
   ·refine ai.cO ?_
    refine aD ?_
    refine g7 Lk Ll (default:di) .nil ?_
    refine ag.wb 1 rfl (Cell.fp (default:di)) (fun _=>rfl) (aa rfl) rfl fun cy uf=> ?_
    replace h:=ao.pA h cy uf
    refine bp (de (dO (aa rfl) eW)) ?_
    refine ba (a1 rL) ?_
    obtain⟨Ad,CK,h⟩:=ao.bX h
    obtain⟨so,F8,h⟩:=ao.bX h
    refine ag.lY (k':=Cell.iK ({ Ad with ck:=(some cy.1:Ref) } :fb)) 1 rfl ((aO.id fb).comp rD) (v:=((some cy.1:Ref):Ref)) dY (aa rfl) (aa rfl) (mB CK) rfl rfl rfl rfl (aS F8) ?_
    refine ag.nil ?_
    exact dZ 0 (hm so () h)
   ·refine ai.skip ?_
    exact dZ 0 (hm hp () h)
end Go.Proofs.YtmnggbjcnoffeaaGreat
namespace Go.Proofs.YtmnggbjcnoffeaaGreat
open Go Gv
set_option linter.unusedVariables false
set_option linter.unusedSimpArgs false
set_option maxRecDepth 100000
set_option maxHeartbeats 2000000
theorem Oi {ab:cG} {al:aH} {aP:aH} {r:Int} (h:u3 ab al aP=some r):b9 Tryz.prog 273 [I.ptr ab,I.of (al),I.of (aP)] (I.of (r)):=by
 unfold u3 at h
 refine b9.of Tryz.func273 rfl Tryz.ntmps273 rfl fun W A=> ?_
 refine aG ?_
 refine cL fun a8=> ?_
 refine cL fun bn=> ?_
 refine aT ?_
 refine b2 ?_
 refine ai.block ?_
 refine ai.seq ?_
 obtain⟨aB,bG,h⟩:=aA h
 refine ai.draw mixed 7 [some 8,some 9,some 10,some 11,some 12,some 13,some 14] [[],[0],[1],[2],[],[],[3,4,5]] [.val _,.val _,.val _,.val _,.val _,.val _,.val _] [false,false,false,false,false,false,false] (by kernel_rfl) rfl rfl rfl (fun du=>⟨dW,H1 yq,ug Dv J1,H1 (eG hC),hr 1 cZ,hr 0 cZ,iM LF (Iy bG),trivial⟩) fun du=> ?_
 refine aT ?_
 refine aV ?_
 refine dv h (fun h=>?_) fun h=>?_
 ·refine aG ?_
  refine aT ?_
  refine aV ?_
  refine ai.ret ?_
  refine ah.e4 ?_
  refine ah.ret ?_
  obtain rfl:=aS h
  exact e8
 ·refine ai.seq ?_
  obtain⟨aK,cF,h⟩:=aA h
  refine ai.draw mixed 7 [some 16,some 17,some 18,some 19,some 20,some 21,some 22] [[],[0],[1],[2],[],[],[3,4,5]] [.val _,.val _,.val _,.val _,.val _,.val _,.val _] [false,false,false,false,false,false,false] (by kernel_rfl) rfl rfl rfl (fun mP=>⟨dW,H1 yq,ug Dv J1,H1 (eG hC),hr 0 cZ,hr 1 cZ,iM LF (Iy cF),trivial⟩) fun mP=> ?_
  refine aT ?_
  refine aV ?_
  refine dv h (fun h=>?_) fun h=>?_
  ·refine aG ?_
   refine aT ?_
   refine aV ?_
   refine ai.ret ?_
   refine ah.e4 ?_
   refine ah.ret ?_
   obtain rfl:=aS h
   exact e8
  ·refine ai.skip ?_
   refine ah.fF ?_
   refine ah.next ?_
   refine aG ?_
   refine aT ?_
   refine aV ?_
   refine ai.ret ?_
   obtain rfl:=aS h
   exact e8
theorem Ov {hp:aI Cell} {ab:gm} {al:bo} {r:Int × Bool} (h:xf hp ab al=some r):bF Tryz.prog 235 [I.of (ab),I.of (al)] ([] ++ aY hp) (δ:=Unit) (fun _=>I.eA [I.of (r.1),I.of (r.2)]) (fun _=> [] ++ aY hp):=by
 unfold xf at h
 refine bF.of Tryz.func235 rfl Tryz.ntmps235 rfl fun W A=> ?_
 refine aG ?_
 refine cL fun a8=> ?_
 refine cL fun bn=> ?_
 refine aT ?_
 refine aT ?_
 refine bY ?_
 refine cS 1 B3 ?_
 refine cS 0 fH ?_
 obtain⟨aB,bG,h⟩:=aA h
 refine hH FK (Dx bG) ?_
 refine aD ?_
 refine fS ?_
 refine fS ?_
 refine fS ?_
 refine dI vV fun c0=> ?_
 refine dI er fun iB=> ?_
 refine cP 1 j0 ?_
 refine cP 0 cw ?_
 refine aT ?_
 refine b2 ?_
 obtain⟨bS,cU,h⟩:=aA h
 obtain⟨bl,dw,h⟩:=aA h
 obtain⟨bD,dG,h⟩:=aA h
 obtain⟨aK,cF,h⟩:=aA h
 refine jh [0,1,2,3,6,7,8,9,10,11,12,13,14,15] ?_
 refine ai.pI 4 mixed (bb 16 [] [] _ :: bb 17 (0 :: []) (3 :: []) _ :: bb 18 [] (1 :: []) _ :: ⟨some 19,(1 :: 2 :: []),[],[],fun _=>I.of (bD),fun _ _=>⟨none,.dead⟩⟩ :: bb 20 [] (0 :: []) _ :: bb 21 [] [] _ :: ⟨some 22,(3 :: 4 :: 5 :: []),[],[],fun _=>I.eA [I.of (aK.1),I.of (aK.2)],fun _ _=>⟨none,.dead⟩⟩ :: bb 23 (6 :: []) [] _ :: bb 24 (6 :: []) [] _ :: bb 4 (7 :: []) [] _ :: bb 5 (8 :: []) [] _ :: []) _ (0 :: 1 :: 2 :: 3 :: 6 :: 7 :: 8 :: 9 :: 10 :: 11 :: 12 :: 13 :: 14 :: 15 :: []) rfl rfl (by kernel_rfl) (by kernel_rfl) ⟨cl.q (e6 (a1 rM)),cl.q (mQ 3 p5 qC),cl.q (nq 1 j0),?_,cl.q (nq 0 cw),cl.q (fi),?_,cl.q (ca fun hd E' av aw an=>lC (aa (aw _ _ rfl)) rfl),cl.q (ca fun hd E' av aw an=>lC (aa (aw _ _ rfl)) rfl),cl.q (ca fun hd E' av aw an=>eJ (aa (aw _ _ rfl))),cl.q (ca fun hd E' av aw an=>eJ (aa (aw _ _ rfl))),trivial⟩ fun en=> ?_
 ·intro hd E' av aw an cX
  refine bp (tk (r:=bD) Tryz.underlying167 tI yN (kI (aa (aw _ _ rfl)) cU) (aa (aw _ _ rfl)) (ei (n:=4) (cX.trans rfl) (lA dw) rfl) (aS dG)) ?_
  refine ag.nil ?_
  exact ah.fin (ee []) rfl rfl
 ·intro hd E' av aw an cX
  refine ag.gW (eP.gZ 4 (cX.trans rfl) LG (Ip cF) ⟨aa (aw _ _ rfl),aa (aw _ _ rfl),aa (aw _ _ rfl),trivial⟩) rfl rfl rfl ?_
  refine ag.nil ?_
  exact ah.fin (ee []) rfl rfl
 refine ah.dT (L2:=(⟨some iB,.var (aB.2.1:az)⟩ :: ⟨some c0,.var (aB.1:Vector az 4)⟩ :: ⟨some bn,.var (al:bo)⟩ :: ⟨some a8,.var (ab:gm)⟩ :: aY hp)) rfl ?_
 refine jS [0,1,2,3,4,5,6,7,8,9,10,11,12,13,14,15,16,17,18,19,20,21,22,23,24] ?_
 refine ah.next ?_
 refine ai.ret ?_
 obtain rfl:=aS h
 exact ah.jJ () (.cons _ (.cons _ (.cons _ (.cons _ (.refl _))))) rfl rfl (df rfl) (df rfl)
theorem OA {hp:aI Cell} {ab:gm} {al:aH} {Q:(aI Cell)→Prop} (h:xl hp ab al Q):bF Tryz.prog 237 [I.of (ab),I.of (al)] ([] ++ aY hp) (δ:= {r:(aI Cell) // Q r} × Unit) (fun d=>I.eA []) (fun d=> [] ++ aY d.1.1):=by
 unfold xl at h
 refine bF.of Tryz.func237 rfl Tryz.ntmps237 rfl fun W A=> ?_
 refine aG ?_
 refine cL fun a8=> ?_
 refine cL fun bn=> ?_
 refine bY ?_
 refine cS 1 B3 ?_
 refine ba (a1 nW) ?_
 refine c1 0 m3 fH ?_
 obtain⟨aB,bG,h⟩:=ao.bX h
 refine hH FK (Dx bG) ?_
 refine aD ?_
 refine fS ?_
 refine fS ?_
 refine fS ?_
 refine dI vV fun c0=> ?_
 refine dI er fun iB=> ?_
 refine cP 1 j0 ?_
 refine cP 0 cw ?_
 refine aT ?_
 refine b2 ?_
 refine aG ?_
 refine ba (a1 rM) ?_
 refine c1 3 p5 qC ?_
 refine cS 1 j0 ?_
 obtain⟨bS,cU,h⟩:=ao.bX h
 obtain⟨bl,dw,h⟩:=ao.bX h
 obtain⟨bD,dG,h⟩:=ao.bX h
 refine bp (tk (r:=bD) Tryz.underlying167 tI yN (kI (aa rfl) cU) (aa rfl) (ei (n:=4) rfl (lA dw) rfl) (aS dG)) ?_
 refine bp (lT Tryz.underlying321 (aa rfl)) ?_
 refine aV ?_
 refine ai.vL (γ:=Unit) h (fun bH ay=> [(0,I.of (ab)),(1,I.of (al)),(2,I.eq (.pointer (some ⟨a8,0,none⟩))),(3,I.eq (.pointer (some ⟨bn,0,none⟩))),(4,I.eq (.pointer (some ⟨c0,0,none⟩))),(5,I.eq (.pointer (some ⟨iB,0,none⟩))),(6,I.of (aB.2.2)),(19,I.of (bD.isNone))]) (fun bH ay=>(⟨some iB,.var (aB.2.1:az)⟩ :: ⟨some c0,.var (aB.1:Vector az 4)⟩ :: ⟨some bn,.var (al:aH)⟩ :: ⟨some a8,.var (ab:gm)⟩ :: aY bH)) (aa rfl) (fun bH ay h=> ?_) (fun hm aj h=> ?_) (fun hm aj h=> ?_)
 ·refine ah.next ?_
  obtain⟨b7,e9,h⟩:=ao.bX h
  obtain⟨dp,hG,h⟩:=ao.bX h
  refine ai.draw mixed 8 [some 26,some 27,some 28,some 29,some 30,some 31,some 32,some 33] [[],[0],[],[1,2],[],[],[],[6]] [.val _,.val _,.val _,.val _,.val _,.val _,.val _,.val _] [false,false,false,false,false,false,false,false] (by kernel_rfl) rfl rfl rfl (fun du=>⟨H1 (a1 rM),hl 3 p5 qC,hr 1 j0,eO fun av an=>tk (r:=dp) Tryz.underlying167 tI yN (kI (aa rfl) cU) (aa rfl) (jx (fun i e q=>an i e q rfl) (ei (n:=4) rfl (lA e9) rfl)) (aS hG),hr 0 cw,dW,H1 (a1 nV),hl 2 m2 bP,trivial⟩) fun du=> ?_
  refine ag.im 4 0 rfl T3 (Pe h) rfl rfl ⟨aa rfl,aa rfl,aa rfl,aa rfl,trivial⟩ rfl fun⟨⟨aK,h⟩,aM⟩=> ?_
  refine ag.dT (L2:=(⟨some iB,.var (aB.2.1:az)⟩ :: ⟨some c0,.var (aB.1:Vector az 4)⟩ :: ⟨some bn,.var (al:aH)⟩ :: ⟨some a8,.var (ab:gm)⟩ :: aY aK.2)) rfl ?_
  refine ag.nil ?_
  refine ah.oS ?_
  exact ah.mD (⟨⟨aK.2,h⟩,()⟩: {r // _} × _) (.cons _ (.cons _ (.cons _ (.cons _ (.refl _))))) rfl rfl
 ·obtain⟨Wk,Vs,Vt⟩:=ao.ex h
  refine Ks mixed 6 5 25 _ (K:=Wk) [some (20,I.eq (.pointer (some ⟨a8,0 + 2,none⟩))),some (21,I.of (ab.m8)),some (22,I.of (aB.1)),some (23,I.eq (.pointer (some ⟨a8,0 + 1,none⟩))),some (24,I.of (ab.fm)),none] _ [[],[0],[],[],[3],[4]] _ (fun bk=>I.of (bk.1)) (fun bk=>(⟨some iB,.var (aB.2.1:az)⟩ :: ⟨some c0,.var (aB.1:Vector az 4)⟩ :: ⟨some bn,.var (al:aH)⟩ :: ⟨some a8,.var (ab:gm)⟩ :: aY bk.2)) rfl rfl rfl rfl rfl rfl (by kernel_rfl) ⟨⟨a1 rM (aa rfl),fun bk sd=>a1 rM (aa rfl)⟩,⟨fE (i:=3) ((aO.id gm).comp p5) (r:=ab.m8) qC (aa rfl) rfl rfl rfl,fun bk sd=>fE (i:=3) ((aO.id gm).comp p5) (r:=ab.m8) qC (aa rfl) rfl rfl rfl⟩,⟨fE (i:=1) (aO.id (Vector az 4)) (r:=aB.1) j0 (aa rfl) rfl rfl rfl,fun bk sd=>fE (i:=1) (aO.id (Vector az 4)) (r:=aB.1) j0 (aa rfl) rfl rfl rfl⟩,⟨a1 J2 (aa rfl),fun bk sd=>a1 J2 (aa rfl)⟩,⟨fE (i:=3) ((aO.id gm).comp Dw) (r:=ab.fm) bP (aa rfl) rfl rfl rfl,fun bk sd=>fE (i:=3) ((aO.id gm).comp Dw) (r:=ab.fm) bP (aa rfl) rfl rfl rfl⟩,trivial⟩ (fun bL uO aw cC=> ?_) (fun bk sd=> ?_)
  ·refine ag.im 4 0 rfl T4 (P4 Vs) rfl rfl ⟨aa (aw rfl),trivial⟩ rfl fun⟨⟨bk,sd⟩,_⟩=> ?_
   refine ag.dT (L2:=(⟨some iB,.var (aB.2.1:az)⟩ :: ⟨some c0,.var (aB.1:Vector az 4)⟩ :: ⟨some bn,.var (al:aH)⟩ :: ⟨some a8,.var (ab:gm)⟩ :: aY bk.2)) rfl ?_
   refine ag.nil ?_
   exact cC bk sd
  have h:=Vt bk sd
  refine ag.le (E':= [(0,I.of (ab)),(1,I.of (al)),(2,I.eq (.pointer (some ⟨a8,0,none⟩))),(3,I.eq (.pointer (some ⟨bn,0,none⟩))),(4,I.eq (.pointer (some ⟨c0,0,none⟩))),(5,I.eq (.pointer (some ⟨iB,0,none⟩))),(6,I.of (aB.2.2)),(7,I.eA [I.of (aB.1),I.of (aB.2.1),I.of (aB.2.2)]),(8,I.of (ab)),(9,I.eq (.pointer (some ⟨bn,0 + 0,none⟩))),(10,I.of (al.bQ)),(11,I.eA [I.of (aB.1),I.of (aB.2.1),I.of (aB.2.2)]),(12,I.of (aB.1)),(13,I.of (aB.2.1)),(14,I.of (aB.2.2)),(15,I.eq (.pointer (some ⟨a8,0 + 2,none⟩))),(16,I.of (ab.m8)),(17,I.of (aB.1)),(18,I.of (bD)),(19,I.of (bD.isNone)),(20,I.eq (.pointer (some ⟨a8,0 + 2,none⟩))),(21,I.of (ab.m8)),(22,I.of (aB.1)),(23,I.eq (.pointer (some ⟨a8,0 + 1,none⟩))),(24,I.of (ab.fm)),(25,I.of (bk.1))]) (.same rfl (.same rfl (.same rfl (.same rfl (.same rfl (.same rfl (.same rfl (.same rfl (.same rfl (.same rfl (.same rfl (.same rfl (.same rfl (.same rfl (.same rfl (.same rfl (.same rfl (.same rfl (.same rfl (.same rfl (.same rfl (.same rfl (.same rfl (.same rfl (.same rfl (.same rfl .nil)))))))))))))))))))))))))) ?_
  obtain⟨e0,lf,h⟩:=ao.bX h
  obtain⟨cd,ir,h⟩:=ao.bX h
  refine ag.B0 (k':=Cell.kL (fo e0 aB.1 bk.1)) 4 rfl (by first | exact .inl rfl | exact .inr rfl) Tryz.underlying167 tI (kI (aa rfl) cU) (aa rfl) (aa rfl) (lA lf) rfl rfl rfl (aS ir) ?_
  refine ag.nil ?_
  exact dZ 0 (hm cd () h)
 ·refine ai.skip ?_
  exact dZ 0 (hm hp () h)
end Go.Proofs.YtmnggbjcnoffeaaGreat
namespace Go.Proofs.YtmnggbjcnoffeaaGreat
open Go Gv
set_option linter.unusedVariables false
set_option linter.unusedSimpArgs false
set_option maxRecDepth 100000
set_option maxHeartbeats 2000000
theorem NR {ab aP:List aH} {al:Int} {pJ LH:Option Nat} {ff tJ:Nat} {r:List aH} (h:Aw ab al aP=some r):bF Tryz.prog 275 [I.eq (a5 pJ ab.length ff),I.of al,I.eq (a5 LH aP.length tJ)] [⟨pJ,.row 52 ab ff⟩,⟨LH,.row 52 aP tJ⟩] (δ:=(Option Nat × Nat)) (fun d=>I.eq (a5 d.1 r.length d.2)) (fun d=> [⟨d.1,.row 52 r d.2⟩]):=by
 unfold Aw at h
 obtain⟨k,rfl,au,a3,uq,mb,rfl⟩:=Qq h
 refine bF.of Tryz.func275 rfl Tryz.ntmps275 rfl fun W A=> ?_
 refine ai.seq ?_
 refine ai.cO ?_
 refine ag.v (eJ vy) rfl rfl rfl ?_
 refine ag.nil ?_
 refine ah.next ?_
 refine ai.seq ?_
 refine ai.cO ?_
 refine ag.v (cj (aa rfl)) rfl rfl rfl ?_
 refine ag.v (cj (aa rfl)) rfl rfl rfl ?_
 refine ag.v (Bq (i:=0) (xs:=ab) Tryz.underlying38 cZ (aa rfl) rfl (.some (aa rfl)) .none rfl rfl ⟨au,Nat.le_refl _⟩) rfl rfl rfl ?_
 refine ag.nil ?_
 refine ah.next ?_
 refine ai.seq ?_
 refine ai.cO ?_
 refine ag.v (cj (aa rfl)) rfl rfl rfl ?_
 refine ag.v (rR (i:=1) (xs:=aP) Tryz.underlying38 (aa rfl) rfl rfl) rfl rfl rfl ?_
 refine ag.v (eJ (aa rfl)) rfl rfl rfl ?_
 refine ag.nil ?_
 refine ah.next ?_
 refine ai.seq ?_
 refine ai.seq ?_
 refine ai.cO ?_
 refine ag.v (cj (aa rfl)) rfl rfl rfl ?_
 refine ag.v (gP (aa rfl) (bE 0)) rfl rfl rfl ?_
 refine ag.nil ?_
 refine ah.next ?_
 refine ai.cond (aa rfl) (fun aj=> ?_) (fun _=> ?_)
 ·exfalso; simp only [beq_iff_eq] at aj; omega
 refine ai.skip ?_
 refine ah.next ?_
 refine ai.seq ?_
 refine ai.cO ?_
 refine ag.v (cj (aa rfl)) rfl rfl rfl ?_
 refine ag.v (rR (i:=0) (xs:=ab) Tryz.underlying38 (aa rfl) rfl rfl) rfl rfl rfl ?_
 refine ag.v (eJ (aa rfl)) rfl rfl rfl ?_
 refine ag.nil ?_
 refine ah.next ?_
 refine ai.seq ?_
 refine ai.seq ?_
 refine ai.cO ?_
 refine ag.v (cj (aa rfl)) rfl rfl rfl ?_
 refine ag.v (cj (aa rfl)) rfl rfl rfl ?_
 refine ag.v (gP (aa rfl) (aa rfl)) rfl rfl rfl ?_
 refine ag.nil ?_
 refine ah.next ?_
 refine ai.cond (aa rfl) (fun aj=> ?_) (fun aj=> ?_)
 ·have h6:k=ab.length:=by simp only [beq_iff_eq] at aj; omega
  subst h6
  refine ai.seq ?_
  refine ai.cO ?_
  refine ag.v (cj (aa rfl)) rfl rfl rfl ?_
  refine ag.m7 (α:=aH) 1 [2,13] ⟨rfl,rfl,trivial⟩ rfl ?_
  refine ag.v (cj (aa rfl)) rfl rfl rfl ?_
  refine ag.app (i:=0) (xs:=ab) (ys:=aP) (r:=ab ++ aP) Tryz.underlying38 cZ hP (by kernel_rfl) (aa rfl) rfl (aa rfl) (by unfold hQ; rw [if_pos ⟨uq,mb⟩]) rfl fun hV fG=> ?_
  refine ag.v (eJ (aa rfl)) rfl rfl rfl ?_
  refine ag.nil ?_
  refine ah.next ?_
  refine ai.ret ?_
  have aQ:ab.take ab.length ++ aP ++ ab.drop ab.length=ab ++ aP:=by simp
  rw [aQ]
  exact ah.ez (hV,fG) (.cons_cons _ (List.nil_sublist _)) rfl rfl (df rfl)
 have h6:k < ab.length:=by simp only [beq_eq_false_iff_ne] at aj; omega
 refine ai.skip ?_
 refine ah.next ?_
 refine ai.some (i:=0) (xs:=ab) rfl (by omega) fun p hp sa uh=> ?_
 subst hp
 refine ai.some (i:=1) (xs:=aP) rfl (by omega) fun q hq XY X1=> ?_
 subst hq
 refine ai.apart rfl fun zu=> ?_
 refine ai.seq ?_
 refine ai.seq ?_
 refine ai.cO ?_
 refine ag.v (cj (aa rfl)) rfl rfl rfl ?_
 refine ag.v (cj (aa rfl)) rfl rfl rfl ?_
 refine ag.v (ep (aa rfl) (aa rfl)) rfl rfl rfl ?_
 refine ag.v (cj (aa rfl)) rfl rfl rfl ?_
 refine ag.v (Sn Tryz.underlying38 (aa rfl)) rfl rfl rfl ?_
 refine ag.v (qx (aa rfl) (aa rfl)) rfl rfl rfl ?_
 refine ag.nil ?_
 refine ah.next ?_
 have hw:bu ((ab.length:Int) + (aP.length:Int))=((ab.length + aP.length:Nat):Int):=by
  have lJ:maxLen=9223372036854775807:=rfl
  rw [hO (by omega) (by omega)]; simp
 refine ai.cond (aa rfl) (fun e9=> ?_) (fun e9=> ?_)
 ·have v7:ff < ab.length + aP.length:=by rw [hw] at e9; simp only [decide_eq_true_eq] at e9; omega
  have lJ:maxLen=9223372036854775807:=rfl
  have aC:bu (bu ((ab.length:Int) + (aP.length:Int)) - (k:Int))=((ab.length + aP.length - k:Nat):Int):=by
   rw [hw,hO (by omega) (by omega)]; omega
  refine ai.seq ?_
  refine ai.cO ?_
  refine ag.v (cj (aa rfl)) rfl rfl rfl ?_
  refine ag.v (cj (aa rfl)) rfl rfl rfl ?_
  refine ag.v (Bq (i:=0) (xs:=ab) Tryz.underlying38 cZ (aa rfl) rfl .none (.some (aa rfl)) rfl rfl ⟨Nat.zero_le _,au⟩) rfl rfl rfl ?_
  refine ag.v (cj (aa rfl)) rfl rfl rfl ?_
  refine ag.v (cj (aa rfl)) rfl rfl rfl ?_
  refine ag.v (ep (aa rfl) (aa rfl)) rfl rfl rfl ?_
  refine ag.v (cj (aa rfl)) rfl rfl rfl ?_
  refine ag.v (kn (aa rfl) (aa rfl)) rfl rfl rfl ?_
  refine ag.Vu (i:=0) (m:=k) (k:=ab.length + aP.length - k) (xs:=ab) (z:=(default:aH)) Tryz.underlying38 Tryz.underlying3 cZ hP (by rfl) (by kernel_rfl) (aa rfl) (by rw [← aC]; exact aa rfl) rfl au (by omega) (by omega) (by rw [show k + (ab.length + aP.length - k)=ab.length + aP.length by omega]; exact uq) (by omega) rfl fun aM fG=> ?_
  refine ag.v (eJ (aa rfl)) rfl rfl rfl ?_
  refine ag.nil ?_
  refine ah.next ?_
  have hlen:(ab.take k ++ List.replicate (ab.length + aP.length - k) (default:aH)).length=ab.length + aP.length:=by simp; omega
  refine ai.some (i:=0) (xs:=ab.take k ++ List.replicate (ab.length + aP.length - k) (default:aH)) rfl (by omega) fun eK mT T5 X2=> ?_
  rw [hlen] at T5
  refine ai.seq ?_
  refine ai.cO ?_
  refine ag.v (cj (aa rfl)) rfl rfl rfl ?_
  refine ag.v (cj (aa rfl)) rfl rfl rfl ?_
  refine ag.v (qg (α:=aH) (m:=k) (h:=k + (ab.length + aP.length - k)) Tryz.underlying38 cZ (aa rfl) (.some (aa rfl)) .none rfl rfl ⟨by omega,by omega⟩) rfl rfl rfl ?_
  refine ag.v (cj (aa rfl)) rfl rfl rfl ?_
  refine ag.Ce (i:=0) (p:=aM) (off:=k * ae.size aH) (dLen:=k + (ab.length + aP.length - k) - k) (dCap:=fG - k) (N:=aP.length) (vs:=aP) (T:=52) Tryz.underlying38 cZ (by rw [← EY (by omega)]; exact aa rfl) (J3 (i:=2) (aa rfl) rfl a3) (Nat.min_eq_left (by omega)) rfl rfl (fun A W o cells h cV=>EB (by omega) h cV) ?_
  refine ag.nil ?_
  refine ah.next ?_
  have aE:(ab.take k ++ List.replicate (ab.length + aP.length - k) (default:aH)).take k ++ aP ++ (ab.take k ++ List.replicate (ab.length + aP.length - k) (default:aH)).drop (k + aP.length)=ab.take k ++ aP ++ List.replicate (ab.length - k) (default:aH):=by
   have iy:(ab.take k).length=k:=by rw [List.length_take]; omega
   rw [List.take_left' iy,List.drop_append,iy,List.drop_eq_nil_of_le (by omega),List.nil_append,List.drop_replicate]
   congr 2
   omega
  have ob:bu ((k:Int) + (aP.length:Int))=((k + aP.length:Nat):Int):=by rw [hO (by omega) (by omega)]; simp
  refine ai.seq ?_
  refine ai.le (E':= [(0,I.eq (a5 (some p) ab.length ff)),(1,I.of (k:Int)),(7,I.of (aP.length:Int)),(9,I.eq (a5 (some aM) (k + (ab.length + aP.length - k)) fG))]) (.same rfl (.same rfl (.same rfl (.same rfl .nil)))) ?_
  refine ai.j1 mixed (⟨some 46,[],[],[],fun _=>I.eq (a5 (some aM) (k + (ab.length + aP.length - k)) fG),fun _ _=>⟨none,.dead⟩⟩ :: ⟨some 47,[],[],[],fun _=>I.of (k:Int),fun _ _=>⟨none,.dead⟩⟩ :: ⟨some 48,[],[],[],fun _=>I.of (aP.length:Int),fun _ _=>⟨none,.dead⟩⟩ :: ⟨some 49,(1 :: 2 :: []),[],[],fun _=>I.of (bu ((k:Int) + (aP.length:Int))),fun _ _=>⟨none,.dead⟩⟩ :: ⟨some 50,(0 :: 3 :: []),[],[],fun _=>I.eq (g2 (some aM) (k + aP.length) ((k + (ab.length + aP.length - k)) - (k + aP.length)) fG (ae.size aH)),fun _ _=>⟨none,.dead⟩⟩ :: ⟨some 51,[],[],[],fun _=>I.eq (a5 (some p) ab.length ff),fun _ _=>⟨none,.dead⟩⟩ :: ⟨some 52,[],[],[],fun _=>I.of (k:Int),fun _ _=>⟨none,.dead⟩⟩ :: ⟨some 53,(5 :: 6 :: []),[],[],fun _=>I.eq (g2 (some p) k (ab.length - k) ff (ae.size aH)),fun _ _=>⟨none,.dead⟩⟩ :: ⟨some 54,(4 :: 7 :: []),(0 :: 1 :: []),(0 :: []),fun _=>I.of ((((ab.drop k).take (ab.length - k)).length:Nat):Int),fun _ _=>⟨some aM,.row 52 ((ab.take k ++ aP ++ List.replicate (ab.length - k) (default:aH)).take (k + aP.length) ++ (ab.drop k).take (ab.length - k) ++ (ab.take k ++ aP ++ List.replicate (ab.length - k) (default:aH)).drop (k + aP.length + ((ab.drop k).take (ab.length - k)).length)) fG⟩⟩ :: []) ((some 46,[],[],[]) :: (some 47,[],[],[]) :: (some 48,[],[],[]) :: (some 49,(1 :: 2 :: []),[],[]) :: (some 50,(0 :: 3 :: []),[],[]) :: (some 51,[],[],[]) :: (some 52,[],[],[]) :: (some 53,(5 :: 6 :: []),[],[]) :: (some 54,(4 :: 7 :: []),(0 :: 1 :: []),(0 :: [])) :: []) (0 :: 1 :: 7 :: 9 :: []) rfl rfl (by kernel_rfl) ⟨?_,?_,?_,?_,?_,?_,?_,?_,?_,trivial⟩ fun hd=> ?_
  ·exact hE rfl rfl rfl fun hd E' av aw an=>cj (aa (aw _ _ rfl))
  ·exact hE rfl rfl rfl fun hd E' av aw an=>cj (aa (aw _ _ rfl))
  ·exact hE rfl rfl rfl fun hd E' av aw an=>cj (aa (aw _ _ rfl))
  ·exact hE rfl rfl rfl fun hd E' av aw an=>ep (aa (aw _ _ rfl)) (aa (aw _ _ rfl))
  ·exact hE rfl rfl rfl fun hd E' av aw an=>qg (α:=aH) (m:=k + aP.length) (h:=(k + (ab.length + aP.length - k))) Tryz.underlying38 cZ (aa (aw _ _ rfl)) (.some (aa (aw _ _ rfl))) .none ob rfl ⟨by omega,by omega⟩
  ·exact hE rfl rfl rfl fun hd E' av aw an=>cj (aa (aw _ _ rfl))
  ·exact hE rfl rfl rfl fun hd E' av aw an=>cj (aa (aw _ _ rfl))
  ·exact hE rfl rfl rfl fun hd E' av aw an=>qg (α:=aH) (m:=k) (h:=ab.length) Tryz.underlying38 cZ (aa (aw _ _ rfl)) (.some (aa (aw _ _ rfl))) .none rfl rfl ⟨by omega,by omega⟩
  ·intro hd E' av aw an
   have bB:=an 0 _ rfl rfl
   rw [aE] at bB
   refine ag.Ce (i:=0) (p:=aM) (off:=(k + aP.length) * ae.size aH) (T:=52) (vs:=(ab.drop k).take (ab.length - k)) (N:=ab.length - k) (dLen:=(k + (ab.length + aP.length - k)) - (k + aP.length)) (dCap:=fG - (k + aP.length)) Tryz.underlying38 cZ (by rw [← EY (p:=aM) (lo:=k + aP.length) (cap:=fG) (size:=ae.size aH) (by omega)]; exact aa (aw _ _ rfl)) (BA (i:=1) (aa (aw _ _ rfl)) (an 1 _ rfl rfl) (by omega) (by omega)) (by rw [show((ab.drop k).take (ab.length - k)).length=ab.length - k by simp]; exact Nat.min_eq_left (by omega)) bB rfl (fun A W o cells h cV=>EB (by simp; omega) h cV) ?_
   refine ag.nil ?_
   exact ah.fin (ee []) rfl rfl
  have bd:((ab.take k ++ aP ++ List.replicate (ab.length - k) (default:aH)).take (k + aP.length) ++ (ab.drop k).take (ab.length - k) ++ (ab.take k ++ aP ++ List.replicate (ab.length - k) (default:aH)).drop (k + aP.length + ((ab.drop k).take (ab.length - k)).length))=ab.take k ++ aP ++ ab.drop k:=by
   have iy:(ab.take k ++ aP).length=k + aP.length:=by simp; omega
   have dV:(ab.drop k).take (ab.length - k)=ab.drop k:=List.take_of_length_le (by simp)
   have kt:(ab.take k ++ aP ++ List.replicate (ab.length - k) (default:aH)).drop (k + aP.length + (ab.drop k).length)= []:=List.drop_eq_nil_of_le (by rw [List.length_append,iy,List.length_replicate,List.length_drop]; omega)
   rw [dV,List.take_left' iy,kt,List.append_nil]
  refine ah.dT (L2:= [⟨some aM,.row 52 ((ab.take k ++ aP ++ List.replicate (ab.length - k) (default:aH)).take (k + aP.length) ++ (ab.drop k).take (ab.length - k) ++ (ab.take k ++ aP ++ List.replicate (ab.length - k) (default:aH)).drop (k + aP.length + ((ab.drop k).take (ab.length - k)).length)) fG⟩,⟨some p,.row 52 ab ff⟩,⟨some q,.row 52 aP tJ⟩]) rfl ?_
  rw [bd]
  refine ah.le (E':= [(9,I.eq (a5 (some aM) (k + (ab.length + aP.length - k)) fG))]) (.same rfl .nil) ?_
  refine ah.next ?_
  refine ai.seq ?_
  refine ai.cO ?_
  refine ag.v (cj (aa rfl)) rfl rfl rfl ?_
  refine ag.v (eJ (aa rfl)) rfl rfl rfl ?_
  refine ag.nil ?_
  refine ah.next ?_
  refine ai.ret ?_
  have ej:k + (ab.length + aP.length - k)=(ab.take k ++ aP ++ ab.drop k).length:=by simp; omega
  rw [ej]
  exact ah.ez (some aM,fG) (.cons_cons _ (List.nil_sublist _)) rfl rfl (df rfl)
 have v7:ab.length + aP.length≤ff:=by rw [hw] at e9; simp only [decide_eq_false_iff_not] at e9; omega
 have lJ:maxLen=9223372036854775807:=rfl
 have ob:bu ((k:Int) + (aP.length:Int))=((k + aP.length:Nat):Int):=by rw [hO (by omega) (by omega)]; simp
 refine ai.skip ?_
 refine ah.next ?_
 refine ai.seq ?_
 refine ai.cO ?_
 refine ag.v (cj (aa rfl)) rfl rfl rfl ?_
 refine ag.v (cj (aa rfl)) rfl rfl rfl ?_
 refine ag.v (cj (aa rfl)) rfl rfl rfl ?_
 refine ag.v (ep (aa rfl) (aa rfl)) rfl rfl rfl ?_
 refine ag.v (qg (α:=aH) (m:=0) (h:=ab.length + aP.length) Tryz.underlying38 cZ (aa rfl) .none (.some (aa rfl)) rfl hw ⟨by omega,by omega⟩) rfl rfl rfl ?_
 refine ag.v (eJ (aa rfl)) rfl rfl rfl ?_
 refine ag.nil ?_
 refine ah.next ?_
 refine ai.seq ?_
 refine ai.seq ?_
 refine ai.cO ?_
 refine ag.v (cj (aa rfl)) rfl rfl rfl ?_
 refine ag.v (cj (aa rfl)) rfl rfl rfl ?_
 refine ag.v (cj (aa rfl)) rfl rfl rfl ?_
 refine ag.v (cj (aa rfl)) rfl rfl rfl ?_
 refine ag.v (ep (aa rfl) (aa rfl)) rfl rfl rfl ?_
 refine ag.v (qg (α:=aH) (p:=p) (n:=ab.length + aP.length) (cap:=ff) (m:=k + aP.length) (h:=ab.length + aP.length) Tryz.underlying38 cZ (BN (size:=ae.size aH) (aa rfl)) (.some (aa rfl)) .none ob rfl ⟨by omega,by omega⟩) rfl rfl rfl ?_
 refine ag.v (T6 (α:=aH) (p:=p) (q:=q) (T:=52) (U:=52) (xs:=ab) (vs:=aP) (cap:=ff) (cap':=tJ) (i:=0) (j:=1) (tR:=4) (by kernel_rfl) Tryz.func280 (by kernel_rfl) (by kernel_rfl) (by kernel_rfl) (by kernel_rfl) Tryz.underlying38 cZ (aa rfl) (Fh (p:=p) (lo:=k + aP.length) (cap:=ff) (size:=ae.size aH) (by omega) (aa rfl)) rfl rfl zu (by omega)) rfl rfl rfl ?_
 refine ag.v (ko (aa rfl)) rfl rfl rfl ?_
 refine ag.nil ?_
 refine ah.next ?_
 refine ai.cond (aa rfl) (fun _=> ?_) (fun lf=>by cases lf)
 ·have jT:(ab.length + aP.length - 0)=ab.length + aP.length:=by omega
  have MR:(ab.drop k).take (ab.length - k)=ab.drop k:=List.take_of_length_le (by simp)
  refine ai.seq ?_
  refine ai.le (E':= [(0,I.eq (g2 (some p) 0 (ab.length + aP.length - 0) ff (ae.size aH))),(1,I.of (k:Int)),(2,I.eq (a5 (some q) aP.length tJ)),(7,I.of (aP.length:Int))]) (.same rfl (.same rfl (.same rfl (.same rfl .nil)))) ?_
  refine ai.j1 mixed (⟨some 69,[],[],[],fun _=>I.eq (g2 (some p) 0 (ab.length + aP.length - 0) ff (ae.size aH)),fun _ _=>⟨none,.dead⟩⟩ :: ⟨some 70,[],[],[],fun _=>I.of (k:Int),fun _ _=>⟨none,.dead⟩⟩ :: ⟨some 71,[],[],[],fun _=>I.of (aP.length:Int),fun _ _=>⟨none,.dead⟩⟩ :: ⟨some 72,(1 :: 2 :: []),[],[],fun _=>I.of (bu ((k:Int) + (aP.length:Int))),fun _ _=>⟨none,.dead⟩⟩ :: ⟨some 73,(0 :: 3 :: []),[],[],fun _=>I.eq (g2 (some p) (k + aP.length) (ab.length + aP.length - (k + aP.length)) ff (ae.size aH)),fun _ _=>⟨none,.dead⟩⟩ :: ⟨some 74,[],[],[],fun _=>I.eq (g2 (some p) 0 (ab.length + aP.length - 0) ff (ae.size aH)),fun _ _=>⟨none,.dead⟩⟩ :: ⟨some 75,[],[],[],fun _=>I.of (k:Int),fun _ _=>⟨none,.dead⟩⟩ :: ⟨some 76,(5 :: 6 :: []),[],[],fun _=>I.eq (g2 (some p) k (ab.length + aP.length - k) ff (ae.size aH)),fun _ _=>⟨none,.dead⟩⟩ :: ⟨some 77,(4 :: 7 :: []),(0 :: []),(0 :: []),fun _=>I.of ((((ab.drop k).take (ab.length - k)).length:Nat):Int),fun _ _=>⟨some p,.zv 52 ab k aP.length ff⟩⟩ :: []) ((some 69,[],[],[]) :: (some 70,[],[],[]) :: (some 71,[],[],[]) :: (some 72,(1 :: 2 :: []),[],[]) :: (some 73,(0 :: 3 :: []),[],[]) :: (some 74,[],[],[]) :: (some 75,[],[],[]) :: (some 76,(5 :: 6 :: []),[],[]) :: (some 77,(4 :: 7 :: []),(0 :: []),(0 :: [])) :: []) (0 :: 1 :: 2 :: 7 :: []) rfl rfl (by kernel_rfl) ⟨?_,?_,?_,?_,?_,?_,?_,?_,?_,trivial⟩ fun hd=> ?_
  ·exact hE rfl rfl rfl fun hd E' av aw an=>cj (aa (aw _ _ rfl))
  ·exact hE rfl rfl rfl fun hd E' av aw an=>cj (aa (aw _ _ rfl))
  ·exact hE rfl rfl rfl fun hd E' av aw an=>cj (aa (aw _ _ rfl))
  ·exact hE rfl rfl rfl fun hd E' av aw an=>ep (aa (aw _ _ rfl)) (aa (aw _ _ rfl))
  ·exact hE rfl rfl rfl fun hd E' av aw an=>qg (α:=aH) (n:=ab.length + aP.length) (m:=k + aP.length) (h:=ab.length + aP.length) Tryz.underlying38 cZ (BN (size:=ae.size aH) (aa (aw _ _ rfl))) (.some (aa (aw _ _ rfl))) .none ob rfl ⟨by omega,by omega⟩
  ·exact hE rfl rfl rfl fun hd E' av aw an=>cj (aa (aw _ _ rfl))
  ·exact hE rfl rfl rfl fun hd E' av aw an=>cj (aa (aw _ _ rfl))
  ·exact hE rfl rfl rfl fun hd E' av aw an=>qg (α:=aH) (n:=ab.length + aP.length) (m:=k) (h:=ab.length + aP.length) Tryz.underlying38 cZ (BN (size:=ae.size aH) (aa (aw _ _ rfl))) (.some (aa (aw _ _ rfl))) .none rfl rfl ⟨by omega,by omega⟩
  ·intro hd E' av aw an
   have bB:=an 0 _ rfl rfl
   refine ag.Ce (i:=0) (p:=p) (off:=(k + aP.length) * ae.size aH) (T:=52) (vs:=(ab.drop k).take (ab.length - k)) (N:=ab.length + aP.length - k) (dLen:=ab.length + aP.length - (k + aP.length)) (dCap:=ff - (k + aP.length)) (cp':= .zv 52 ab k aP.length ff) Tryz.underlying38 cZ (Fh (p:=p) (lo:=k + aP.length) (cap:=ff) (size:=ae.size aH) (by omega) (aa (aw _ _ rfl))) (BA (i:=0) (aa (aw _ _ rfl)) bB (by omega) (by omega)) (by rw [MR]; rw [show(ab.drop k).length=ab.length + aP.length - (k + aP.length) by simp; omega]; exact Nat.min_eq_right (by omega)) bB rfl (fun A W o cells h cV=>RA au v7 h (by rw [← MR]; exact cV)) ?_
   refine ag.nil ?_
   exact ah.fin (ee []) rfl rfl
  refine ah.dT (L2:= [⟨some p,.zv 52 ab k aP.length ff⟩,⟨some q,.row 52 aP tJ⟩]) rfl ?_
  refine ah.le (E':= [(0,I.eq (g2 (some p) 0 (ab.length + aP.length - 0) ff (ae.size aH))),(1,I.of (k:Int)),(2,I.eq (a5 (some q) aP.length tJ))]) (.same rfl (.same rfl (.same rfl .nil))) ?_
  refine ah.next ?_
  refine ai.seq ?_
  refine ai.cO ?_
  refine ag.v (cj (aa rfl)) rfl rfl rfl ?_
  refine ag.v (cj (aa rfl)) rfl rfl rfl ?_
  refine ag.v (qg (α:=aH) (n:=ab.length + aP.length) (m:=k) (h:=ab.length + aP.length) Tryz.underlying38 cZ (BN (size:=ae.size aH) (aa rfl)) (.some (aa rfl)) .none rfl rfl ⟨by omega,by omega⟩) rfl rfl rfl ?_
  refine ag.v (cj (aa rfl)) rfl rfl rfl ?_
  refine ag.Ce (i:=0) (p:=p) (off:=k * ae.size aH) (dLen:=ab.length + aP.length - k) (dCap:=ff - k) (N:=aP.length) (vs:=aP) (T:=52) (cp':= .row 52 (ab.take k ++ aP ++ ab.drop k) ff) Tryz.underlying38 cZ (Fh (p:=p) (lo:=k) (cap:=ff) (size:=ae.size aH) (by omega) (aa rfl)) (J3 (i:=1) (aa rfl) rfl a3) (Nat.min_eq_left (by omega)) rfl rfl (fun A W o cells h cV=>Q3 au h cV) ?_
  refine ag.nil ?_
  refine ah.next ?_
  refine ai.seq ?_
  refine ai.cO ?_
  refine ag.v (cj (aa rfl)) rfl rfl rfl ?_
  refine ag.v (eJ (aa rfl)) rfl rfl rfl ?_
  refine ag.nil ?_
  refine ah.next ?_
  refine ai.ret ?_
  have ej:ab.length + aP.length - 0=(ab.take k ++ aP ++ ab.drop k).length:=by simp; omega
  rw [xX,ej]
  exact ah.ez (some p,ff) (.cons_cons _ (List.nil_sublist _)) rfl rfl (df rfl)
end Go.Proofs.YtmnggbjcnoffeaaGreat
namespace Go.Proofs.YtmnggbjcnoffeaaGreat
open Go Gv
set_option linter.unusedVariables false
set_option linter.unusedSimpArgs false
set_option maxRecDepth 100000
set_option maxHeartbeats 2000000
theorem Oj {ab:cG} {al:aH} {cb:Nat} {ki:Option Nat} {kj:Nat} {r:Bool × cG} (h:w8 ab al=some r):bF Tryz.prog 267 [I.eq (.pointer (some ⟨cb,0,none⟩)),I.of (al)] [⟨some cb,.bU (({ ab with cK:= [] } :cG):cG) [(10,a5 ki ab.cK.length kj)]⟩,⟨ki,.row 52 (ab.cK:List aH) kj⟩] (δ:=(Option Nat × Nat)) (fun d=>I.of (r.1)) (fun d=> [⟨some cb,.bU (({ r.2 with cK:= [] } :cG):cG) [(10,a5 d.1 (r.2.cK).length d.2)]⟩,⟨d.1,.row 52 (r.2.cK:List aH) d.2⟩]):=by
 unfold w8 at h
 refine bF.of Tryz.func267 rfl Tryz.ntmps267 rfl fun W A=> ?_
 refine aG ?_
 refine cL fun a8=> ?_
 refine aT ?_
 refine b2 ?_
 refine aG ?_
 refine aD ?_
 refine bp (Fc Tryz.underlying170 (aa rfl)) ?_
 refine aD ?_
 refine eB cj ?_
 refine eB (a1 nV) ?_
 refine fD (fun hb=>fE (i:=0) ((aO.id aH).comp m2) (r:=al.b8) bP (c2 rfl hb) rfl rfl rfl) ?_
 obtain⟨aB,bG,h⟩:=aA h
 refine fD (fun hb=>bO.T7 (β:=cG) (γ:=aH) (b':=(ab:cG)) ((aO.id cG).comp u7) 1 2 0 rfl rfl rfl rfl rfl rfl tc (bO.LI 1 rfl tc (bO.FL (z:=(ab:cG)) 1 11 rfl (fun _ _ _ h=>h.1 hb) rfl tc (lz Lb (Oq (h2 bG hb)) ⟨aa rfl,c2 rfl hb,trivial⟩)))) ?_
 refine ji nX ?_
 refine sk ?_
 refine aV ?_
 refine dv h (fun h=>?_) fun h=>?_
 ·refine aG ?_
  refine aT ?_
  refine aV ?_
  refine ai.ret ?_
  refine ah.ret ?_
  refine ah.bt 2 rfl ?_
  refine ah.bt 2 rfl ?_
  obtain rfl:=aS h
  exact k9 (ki,kj)
 ·refine dE ?_
  refine aG ?_
  refine aD ?_
  refine bp (T8 (aa rfl)) ?_
  refine aT ?_
  refine b2 ?_
  obtain⟨aK,cF,h⟩:=aA h
  refine jh [0,1,3,4,5,8,9,10,11,12,13,14,15,16,17,18] ?_
  refine ai.j1 mixed (bb 20 [] [] _ :: bb 21 (0 :: []) [] _ :: bb 22 (1 :: []) [] _ :: bb 23 (2 :: []) (1 :: []) _ :: bb 24 [] (0 :: []) _ :: bb 25 [] [] _ :: bb 26 (3 :: 4 :: 5 :: []) (1 :: 2 :: []) _ :: bb 19 (6 :: []) [] _ :: bb 27 (7 :: []) [] _ :: bb 28 (7 :: []) [] _ :: bb 6 (8 :: []) [] _ :: bb 7 (9 :: []) [] _ :: []) _ (0 :: 1 :: 3 :: 4 :: 5 :: 8 :: 9 :: 10 :: 11 :: 12 :: 13 :: 14 :: 15 :: 16 :: 17 :: 18 :: []) rfl rfl (by kernel_rfl) ⟨fi,e6 de,e6 (a1 rK),ca fun hd E' av aw an=>hM (i:=1) (q:=0) (β:=cG) (γ:=aH) qH (aa (aw _ _ rfl)) (an 1 _ rfl rfl) rfl,nq 0 cZ,fi,ca fun hd E' av aw an=>bO.So (β:=cG) (γ:=aH) (b':=(ab:cG)) ((aO.id cG).comp u7) 1 2 0 23 rfl (an 1 _ rfl rfl) (an 2 _ rfl rfl) rfl rfl rfl (aw _ _ rfl) (Eo tc xY) (bO.LI 1 (GA (MS rfl (an 1 _ rfl rfl))) (Eo tc xY) (bO.Sp (F:=(fun hy cR=>u3 ab hy cR)) 1 25 (aw _ _ rfl) (GA (GA (MS rfl (an 1 _ rfl rfl)))) T9 (fun _ _ _ h=>Oi h) (Eo tc xY) (lz Ua (NQ cF) ⟨aa rfl,aa (aw _ _ rfl),aa rfl,trivial⟩))),fi,ca fun hd E' av aw an=>lC (aa (aw _ _ rfl)) rfl,ca fun hd E' av aw an=>lC (aa (aw _ _ rfl)) rfl,ca fun hd E' av aw an=>eJ (aa (aw _ _ rfl)),ca fun hd E' av aw an=>eJ (aa (aw _ _ rfl)),trivial⟩ fun en=> ?_
  refine ah.dT (L2:= [⟨some a8,.var (al:aH)⟩,⟨some cb,.bU (({ ab with cK:= [] } :cG):cG) [(10,a5 ki ab.cK.length kj)]⟩,⟨ki,.row 52 (ab.cK:List aH) kj⟩]) rfl ?_
  refine jS [0,1,3,4,5,6,7,8,9,10,11,12,13,14,15,16,17,18,19,20,21,22,23,24,25,26,27,28] ?_
  refine ah.next ?_
  refine ai.seq ?_
  obtain⟨bk,gQ,h⟩:=aA h
  obtain⟨b1,hY,h⟩:=aA h
  refine ai.pP 1 ?_
  refine jh [0,1,3,4,5,6,7,8,9,10,11,12,13,14,15,16,17,18,19,20,21,22,23,24,25,26,27,28] ?_
  refine ai.j1 mixed (bb 29 [] [] _ :: bb 30 [] [] _ :: bb 31 (1 :: []) [] _ :: bb 32 (2 :: []) [] _ :: bb 33 (3 :: []) (1 :: []) _ :: bb 34 [] [] _ :: bb 35 [] (0 :: []) _ :: bb 36 (6 :: []) [] _ :: ⟨some 37,(7 :: []),(3 :: []),(3 :: []),fun hd=>I.eq (a5 (hd 8 0) [bk].length 1),fun hd _=>⟨(hd 8 0),.row 52 ([bk]:List aH) 1⟩⟩ :: ⟨some 38,(4 :: 5 :: 8 :: []),(2 :: 3 :: []),(2 :: 3 :: []),fun hd=>I.eq (a5 (hd 9 0) b1.length ((hd 9 1).getD 0)),fun hd j=>bif Nat.beq j 2 then⟨(hd 9 0),.row 52 (b1:List aH) ((hd 9 1).getD 0)⟩ else⟨none,.dead⟩⟩ :: bb 39 (0 :: []) [] _ :: bb 40 (10 :: []) [] _ :: ⟨none,(4 :: 9 :: 11 :: []),(1 :: []),(1 :: []),fun _=>I.any,fun hd _=>⟨some cb,.bU (({ ab with cK:= [] } :cG):cG) [(10,a5 (hd 9 0) b1.length ((hd 9 1).getD 0))]⟩⟩ :: []) _ (0 :: 1 :: 3 :: 4 :: 5 :: 6 :: 7 :: 8 :: 9 :: 10 :: 11 :: 12 :: 13 :: 14 :: 15 :: 16 :: 17 :: 18 :: 19 :: 20 :: 21 :: 22 :: 23 :: 24 :: 25 :: 26 :: 27 :: 28 :: []) rfl rfl (by kernel_rfl) ⟨fi,fi,e6 de,e6 (a1 rK),ca fun hd E' av aw an=>hM (i:=1) (q:=0) (β:=cG) (γ:=aH) qH (aa (aw _ _ rfl)) (an 1 _ rfl rfl) rfl,fi,nq 0 cZ,ca fun hd E' av aw an=>lz Cn (A6 gQ) ⟨aa (aw _ _ rfl),trivial⟩,?_,?_,e6 de,e6 (a1 rK),?_,trivial⟩ fun ix=> ?_
  ·intro hd E' av aw an
   refine ag.pN (α:=aH) (r:= [bk]) Tryz.underlying38 cZ hP rfl rfl (.cons (by simp) (aa (aw _ _ rfl)) (.nil)) rfl fun hV=> ?_
   refine ag.nil ?_
   refine ah.place 3 (an 3 _ rfl rfl) ?_
   exact ah.fin (ee [hV]) rfl rfl
  ·intro hd E' av aw an
   refine ag.Sq (fun q=>⟨q.1,.row 52 (b1:List aH) q.2⟩) 2 3 Ub (NR hY) ⟨aa (aw _ _ rfl),aa (aw _ _ rfl),aa (aw _ _ rfl),trivial⟩ rfl (an 2 _ rfl rfl) (an 3 _ rfl rfl) (fun _=>rfl) rfl fun⟨lG,fG⟩=> ?_
   refine ag.nil ?_
   exact ah.fin (ee [lG,some fG]) rfl rfl
  ·intro hd E' av aw an
   refine ag.jw (i:=1) (γ:=aH) (b':=(({ ab with cK:= [] } :cG):cG)) (os':= [(10,a5 (hd 9 0) b1.length ((hd 9 1).getD 0))]) ((aO.id cG).comp u7) qH (aa (aw _ _ rfl)) (aa (aw _ _ rfl)) ih (an 1 _ rfl rfl) rfl rfl rfl ?_
   refine ag.nil ?_
   exact ah.fin (ee []) rfl rfl
  refine ah.dT (L2:= [⟨some a8,.var (al:aH)⟩,⟨some cb,.bU (({ ab with cK:= [] } :cG):cG) [(10,a5 (ix 9 0) b1.length ((ix 9 1).getD 0))]⟩,⟨(ix 9 0),.row 52 (b1:List aH) ((ix 9 1).getD 0)⟩,⟨none,.dead⟩]) rfl ?_
  refine jS [0,1,3,4,5,6,7,8,9,10,11,12,13,14,15,16,17,18,19,20,21,22,24,25,26,27,28,29,30,31,32,34,35,36,38,39,40] ?_
  refine ah.bt 3 rfl ?_
  refine ah.next ?_
  refine aG ?_
  refine aT ?_
  refine aV ?_
  refine ai.ret ?_
  refine ah.bt 3 rfl ?_
  refine ah.bt 3 rfl ?_
  obtain rfl:=aS h
  exact k9 ((ix 9 0),((ix 9 1).getD 0))
end Go.Proofs.YtmnggbjcnoffeaaGreat
namespace Go.Proofs.YtmnggbjcnoffeaaGreat
open Go Gv
set_option linter.unusedVariables false
set_option linter.unusedSimpArgs false
set_option maxRecDepth 100000
set_option maxHeartbeats 2000000
theorem OV {hp:aI Cell} {ab:Ref} {al:az} {aP:Int} {r:Bool × (aI Cell)} (h:vc hp ab al aP=some r):bF Tryz.prog 245 [I.of (ab),I.of (al),I.of (aP)] ([] ++ aY hp) (δ:=Unit) (fun d=>I.of (r.1)) (fun d=> [] ++ aY r.2):=by
 unfold vc at h
 refine bF.ofM Tryz.func245 rfl Tryz.ntmps245 rfl fun W A=> ?_
 refine aG ?_
 refine cL fun a8=> ?_
 refine aT ?_
 refine b2 ?_
 refine aG ?_
 refine aD ?_
 refine cS 0 cw ?_
 refine aD ?_
 obtain⟨aB,bG,h⟩:=aA h
 refine ag.gW (eP.gZ 1 rfl LG (Ip bG) ⟨aa rfl,aa rfl,aa rfl,trivial⟩) rfl rfl rfl ?_
 refine aD ?_
 refine fS ?_
 refine fS ?_
 refine aT ?_
 refine aT ?_
 refine bY ?_
 refine aD ?_
 refine ba ko ?_
 refine aV ?_
 refine dv h (fun h=>?_) fun h=>?_
 ·refine aG ?_
  refine aT ?_
  refine aV ?_
  refine ai.ret ?_
  refine ah.ret ?_
  obtain rfl:=aS h
  refine ah.Co ?_
  exact ah.ez () (.cons _ (.refl _)) rfl rfl (df rfl)
 ·refine dE ?_
  refine aG ?_
  refine aD ?_
  obtain⟨bS,cU,h⟩:=aA h
  refine bp (de (dO (aa rfl) cU)) ?_
  refine ba (a1 rL) ?_
  obtain⟨bl,dw,h⟩:=aA h
  refine bp (e7 ((aO.id fb).comp rD) (r:=bl.ck) dY (aa rfl) (ei (n:=1) rfl (mB dw) rfl) rfl rfl) ?_
  refine ag.pN (α:=Ref) (r:= [bl.ck]) Tryz.underlying341 dY v5 rfl rfl (.cons (by simp) (aa rfl) (.nil)) rfl fun hV=> ?_
  refine ag.nU (z:=(default:List Ref)) [0] RB Uc rfl fun bn=> ?_
  refine ag.own (α:=Ref) 331 ?_
  refine ag.nU (z:=(default:List Int)) [0] Sr Vv rfl fun c0=> ?_
  refine ag.own (α:=Int) 3 ?_
  refine ag.jw (i:=3) (γ:=Ref) (b':=([]:List Ref)) (os':= [(0,a5 hV [bl.ck].length 1)]) (aO.id (List Ref)) r5 (aa rfl) (aa rfl) ih rfl rfl rfl rfl ?_
  refine ag.own (α:=Int) 3 ?_
  refine ag.jw (i:=2) (γ:=Int) (b':=([]:List Int)) (os':= [(0,a5 none ([]:List Int).length 0)]) (aO.id (List Int)) tW (aa rfl) (vy) ih rfl rfl rfl rfl ?_
  refine b2 ?_
  refine aG ?_
  refine aD ?_
  refine cS 6 cw ?_
  refine aD ?_
  obtain⟨aK,cF,h⟩:=aA h
  refine hH FF (DY cF) ?_
  refine aV ?_
  refine ai.block ?_
  obtain⟨aE,ar,h⟩:=aA h
  refine I3 (hp:=hp) (γ:=(Option Nat × Nat) × (Option Nat × Nat)) (g0:=((none,0),(hV,1))) (Ls:=fun s1 ay=>(⟨ay.1.1,.row 3 (s1.1:List Int) ay.1.2⟩ :: ⟨none,.row 3 (([]:List Int):List Int) 0⟩ :: ⟨some c0,.bU ([]:List Int) [(0,a5 ay.1.1 s1.1.length ay.1.2)]⟩ :: ⟨none,.row 331 (([]:List Ref):List Ref) 0⟩ :: ⟨some bn,.bU ([]:List Ref) [(0,a5 ay.2.1 s1.2.length ay.2.2)]⟩ :: ⟨ay.2.1,.row 331 (s1.2:List Ref) ay.2.2⟩ :: ⟨some a8,.var (al:az)⟩ :: aY hp)) (Lx:=fun aM ay=>Empty.elim aM) (fun s1 ay=> [⟨ay.1.1,.row 3 (s1.1:List Int) ay.1.2⟩,⟨none,.row 3 (([]:List Int):List Int) 0⟩,⟨some c0,.bU ([]:List Int) [(0,a5 ay.1.1 s1.1.length ay.1.2)]⟩,⟨none,.row 331 (([]:List Ref):List Ref) 0⟩,⟨some bn,.bU ([]:List Ref) [(0,a5 ay.2.1 s1.2.length ay.2.2)]⟩,⟨ay.2.1,.row 331 (s1.2:List Ref) ay.2.2⟩,⟨some a8,.var (al:az)⟩]) (fun aM=>Empty.elim aM) rfl FG rfl H6 ar (fun _ _=>rfl) rfl rfl (fun uo s1 r h ay mR mW mS l D rec zt=> ?_) (fun s1 aQ ay D=> ?_) (fun aM aQ ay D=> ?_)
  ·clear ar
   refine ai.cO ?_
   refine aT ?_
   refine ag.nil ?_
   refine ah.begin 0 rfl zt ?_
   refine ai.block ?_
   obtain⟨bh,dF,h⟩:=aA h
   obtain⟨bT,eW,h⟩:=aA h
   obtain⟨cC,dV,h⟩:=aA h
   obtain⟨b7,e9,h⟩:=aA h
   obtain⟨bk,gQ,h⟩:=aA h
   obtain⟨b1,hY,h⟩:=aA h
   refine jh [0,1,2,4,6,7,8,9,10,11,14,15,16,17,18,19,20,21,22,23,24,25,26,28,29,30,31,32] ?_
   refine ai.pI 9 mixed (bb 33 [] (6 :: []) _ :: bb 34 [] (6 :: []) _ :: bb 35 [] (6 :: []) _ :: bb 36 (2 :: []) (7 :: []) _ :: bb 37 (3 :: []) [] _ :: bb 38 (1 :: 3 :: 4 :: []) (7 :: []) _ :: bb 39 (3 :: 5 :: []) (7 :: []) _ :: bb 40 [] [] _ :: bb 41 (3 :: 5 :: 6 :: []) [] _ :: bb 42 (3 :: 5 :: 6 :: 8 :: []) [] _ :: bb 43 (3 :: 5 :: 6 :: 7 :: 9 :: []) [] _ :: ⟨some 44,(3 :: 5 :: 6 :: 10 :: []),[],[],fun _=>I.of (cg b7.cJ cC),fun _ _=>⟨none,.dead⟩⟩ :: bb 45 (3 :: 5 :: 6 :: 11 :: []) [] _ :: ⟨some 46,(0 :: 3 :: 5 :: 6 :: 12 :: []),(7 :: []),(7 :: []),fun hd=>I.eq (a5 (hd 13 0) bk.length ((hd 13 1).getD 0)),fun hd _=>⟨(hd 13 0),.row 331 (bk:List Ref) ((hd 13 1).getD 0)⟩⟩ :: bb 47 [] (4 :: []) _ :: bb 48 [] [] _ :: bb 49 (15 :: []) [] _ :: ⟨some 50,(14 :: 16 :: []),(2 :: []),(2 :: []),fun hd=>I.eq (a5 (hd 17 0) b1.length ((hd 17 1).getD 0)),fun hd _=>⟨(hd 17 0),.row 3 (b1:List Int) ((hd 17 1).getD 0)⟩⟩ :: ⟨none,(0 :: 1 :: 2 :: 13 :: []),(6 :: []),(6 :: []),fun _=>I.any,fun hd _=>⟨some bn,.bU ([]:List Ref) [(0,a5 (hd 13 0) bk.length ((hd 13 1).getD 0))]⟩⟩ :: ⟨none,(14 :: 17 :: []),(4 :: []),(4 :: []),fun _=>I.any,fun hd _=>⟨some c0,.bU ([]:List Int) [(0,a5 (hd 17 0) b1.length ((hd 17 1).getD 0))]⟩⟩ :: []) _ (0 :: 1 :: 2 :: 4 :: 6 :: 7 :: 8 :: 9 :: 10 :: 11 :: 14 :: 15 :: 16 :: 17 :: 18 :: 19 :: 20 :: 21 :: 22 :: 23 :: 24 :: 25 :: 26 :: 28 :: 29 :: 30 :: 31 :: 32 :: []) rfl rfl (by kernel_rfl) (by kernel_rfl) ⟨cl.q (ca fun hd E' av aw an=>hM (i:=6) (q:=0) (β:=List Ref) (γ:=Ref) r5 (aa (aw _ _ rfl)) (an 6 _ rfl rfl) rfl),cl.q (ca fun hd E' av aw an=>hM (i:=6) (q:=0) (β:=List Ref) (γ:=Ref) r5 (aa (aw _ _ rfl)) (an 6 _ rfl rfl) rfl),cl.q (ca fun hd E' av aw an=>hM (i:=6) (q:=0) (β:=List Ref) (γ:=Ref) r5 (aa (aw _ _ rfl)) (an 6 _ rfl rfl) rfl),cl.q (ca fun hd E' av aw an=>rR (i:=7) Tryz.underlying341 (aa (aw _ _ rfl)) rfl (an 7 _ rfl rfl)),cl.q (uP kn),cl.q (ca fun hd E' av aw an=>oI (i:=7) (k:=bh) (xs:=(s1.2:List Ref)) Tryz.underlying341 dY (aa (aw _ _ rfl)) (aa (aw _ _ rfl)) (an 7 _ rfl rfl) (eU dF)),cl.q (ca fun hd E' av aw an=>vF (i:=7) (k:=bh) (aO.id Ref) (r:=(aN s1.2 bh)) dY (aa (aw _ _ rfl)) (an 7 _ rfl rfl) (eU dF).1 rfl rfl),cl.q (fi),cl.q (ca fun hd E' av aw an=>de (dO (aa (aw _ _ rfl)) eW)),cl.q (e6 (a1 qj)),cl.q (ca fun hd E' av aw an=>oN (k:=cC) r1 (aa (aw _ _ rfl)) (aa (aw _ _ rfl)) (eU dV)),?_,cl.q (ca fun hd E' av aw an=>iH (r:= [cg b7.cJ cC]) Tryz.underlying341 dY v5 rfl rfl (.cons (by simp) (aa (aw _ _ rfl)) (.nil))),?_,cl.q (ca fun hd E' av aw an=>hM (i:=4) (q:=0) (β:=List Int) (γ:=Int) tW (aa (aw _ _ rfl)) (an 4 _ rfl rfl) rfl),cl.q (fi),cl.q (ca fun hd E' av aw an=>iH (r:= [uo]) Tryz.underlying63 bP kP rfl rfl (.cons (by simp) (aa (aw _ _ rfl)) (.nil))),?_,?_,?_,trivial⟩ fun en=> ?_
   ·intro hd E' av aw an cX
    refine bp (e7 (((aO.id di).comp p6).comp (aO.idx (α:=Ref) 2 cC (eU dV).1)) (r:=cg b7.cJ cC) dY (aa (aw _ _ rfl)) (ei (n:=9) (cX.trans rfl) (ja e9) rfl) rfl rfl) ?_
    refine ag.nil ?_
    exact ah.fin (ee []) rfl rfl
   ·intro hd E' av aw an cX
    refine ag.app (i:=7) Tryz.underlying341 dY v5 (bytes:=8) (by kernel_rfl) (aa (aw _ _ rfl)) (an 7 _ rfl rfl) (aa (aw _ _ rfl)) gQ rfl fun lG fG=> ?_
    refine ag.nil ?_
    exact ah.fin (ee [lG,some fG]) rfl rfl
   ·intro hd E' av aw an cX
    refine ag.app (i:=2) Tryz.underlying63 bP kP (bytes:=8) (by kernel_rfl) (aa (aw _ _ rfl)) (an 2 _ rfl rfl) (aa (aw _ _ rfl)) hY rfl fun nm oR=> ?_
    refine ag.nil ?_
    exact ah.fin (ee [nm,some oR]) rfl rfl
   ·intro hd E' av aw an cX
    refine ag.jw (i:=6) (γ:=Ref) (b':=([]:List Ref)) (os':= [(0,a5 (hd 13 0) bk.length ((hd 13 1).getD 0))]) (aO.id (List Ref)) r5 (aa (aw _ _ rfl)) (aa (aw _ _ rfl)) ih (an 6 _ rfl rfl) rfl rfl rfl ?_
    refine ag.nil ?_
    exact ah.fin (ee []) rfl rfl
   ·intro hd E' av aw an cX
    refine ag.jw (i:=4) (γ:=Int) (b':=([]:List Int)) (os':= [(0,a5 (hd 17 0) b1.length ((hd 17 1).getD 0))]) (aO.id (List Int)) tW (aa (aw _ _ rfl)) (aa (aw _ _ rfl)) ih (an 4 _ rfl rfl) rfl rfl rfl ?_
    refine ag.nil ?_
    exact ah.fin (ee []) rfl rfl
   refine ah.dT (L2:=(⟨some l,.is (.loop { rec with state:= .busy })⟩ :: ⟨some D,.dk⟩ :: ⟨(en 17 0),.row 3 (b1:List Int) ((en 17 1).getD 0)⟩ :: ⟨none,.row 3 (([]:List Int):List Int) 0⟩ :: ⟨some c0,.bU ([]:List Int) [(0,a5 (en 17 0) b1.length ((en 17 1).getD 0))]⟩ :: ⟨none,.row 331 (([]:List Ref):List Ref) 0⟩ :: ⟨some bn,.bU ([]:List Ref) [(0,a5 (en 13 0) bk.length ((en 13 1).getD 0))]⟩ :: ⟨(en 13 0),.row 331 (bk:List Ref) ((en 13 1).getD 0)⟩ :: ⟨some a8,.var (al:az)⟩ :: aY hp)) rfl ?_
   refine jS [0,1,2,4,6,7,8,9,10,11,14,15,16,17,18,19,20,21,22,23,24,25,26,28,29,30,31,32,36,37,39,40,41,42,43,44,45,46,48,49,50] ?_
   refine ah.fF ?_
   obtain rfl:=aS h
   exact ah.MQ (((en 17 0),((en 17 1).getD 0)),((en 13 0),((en 13 1).getD 0))) 0 rfl
  ·clear ar; subst aQ; simp only [Sum.elim_inl] at h
   refine ah.dT (L2:=(⟨some D,.dk⟩ :: ⟨ay.1.1,.row 3 (s1.1:List Int) ay.1.2⟩ :: ⟨none,.row 3 (([]:List Int):List Int) 0⟩ :: ⟨some c0,.bU ([]:List Int) [(0,a5 ay.1.1 s1.1.length ay.1.2)]⟩ :: ⟨none,.row 331 (([]:List Ref):List Ref) 0⟩ :: ⟨some bn,.bU ([]:List Ref) [(0,a5 ay.2.1 s1.2.length ay.2.2)]⟩ :: ⟨ay.2.1,.row 331 (s1.2:List Ref) ay.2.2⟩ :: ⟨some a8,.var (al:az)⟩ :: aY hp)) rfl ?_
   refine ah.fF ?_
   refine ah.next ?_
   refine aG ?_
   refine bp (hM (i:=5) (q:=0) (β:=List Ref) (γ:=Ref) r5 (aa rfl) rfl rfl) ?_
   refine aD ?_
   obtain⟨fu,kt,h⟩:=aA h
   refine bp (oI (i:=6) (k:=fu) (xs:=(s1.2:List Ref)) Tryz.underlying341 dY (aa rfl) (aa rfl) rfl (eU kt)) ?_
   refine bp (vF (i:=6) (k:=fu) (aO.id Ref) (r:=(aN s1.2 fu)) dY (aa rfl) rfl (eU kt).1 rfl rfl) ?_
   refine aT ?_
   refine bY ?_
   refine aD ?_
   refine aD ?_
   obtain⟨lP,sn,h⟩:=aA h
   refine bp (de (dO (aa rfl) sn)) ?_
   refine ba (a1 qi) ?_
   obtain⟨e0,lf,h⟩:=aA h
   obtain⟨cd,ir,h⟩:=aA h
   refine ag.lY (k':=Cell.fp ({ e0 with dr:=false } :di)) 8 rfl ((aO.id di).comp p9) (v:=(false:Bool)) lg (aa rfl) (fz false) (ja lf) rfl rfl rfl rfl (aS ir) ?_
   refine bp (de (dO (aa rfl) sn)) ?_
   refine ba (a1 By) ?_
   obtain⟨jD,ui,h⟩:=aA h
   obtain⟨cq,sb,h⟩:=aA h
   refine ag.lY (k':=Cell.fp ({ jD with hW:=0 } :di)) 8 rfl ((aO.id di).comp A5) (v:=(0:Int)) bP (aa rfl) (bE 0) (ja ui) rfl rfl rfl rfl (aS sb) ?_
   refine b2 ?_
   refine aG ?_
   refine aD ?_
   refine bL kn ?_
   refine aT ?_
   refine aV ?_
   refine ai.block ?_
   obtain⟨bd,ar,h⟩:=aA h
   refine ai.Cd (σ:=Int × (aI Cell)) (ε:=(Int × Bool × (aI Cell))) (γ:=Unit) (δ:=Unit) ar (fun s2 bf=> [(0,I.of (ab)),(1,I.of (al)),(2,I.of (aP)),(4,I.eq (.pointer (some ⟨a8,0,none⟩))),(6,I.of (false)),(8,I.of (aB.2)),(9,I.eq (.pointer (some ⟨bn,0,none⟩))),(10,I.eq (.pointer (some ⟨c0,0,none⟩))),(12,I.of (aN s1.2 fu)),(13,I.of (s2.1)),(22,I.of (!aB.2)),(31,I.gi 255 [I.ptr aK.1,I.ptr aK.2.1,I.ptr aK.2.2])]) (fun s2 bf=>(⟨some D,.dk⟩ :: ⟨ay.1.1,.row 3 (s1.1:List Int) ay.1.2⟩ :: ⟨none,.row 3 (([]:List Int):List Int) 0⟩ :: ⟨some c0,.bU ([]:List Int) [(0,a5 ay.1.1 s1.1.length ay.1.2)]⟩ :: ⟨none,.row 331 (([]:List Ref):List Ref) 0⟩ :: ⟨some bn,.bU ([]:List Ref) [(0,a5 ay.2.1 s1.2.length ay.2.2)]⟩ :: ⟨ay.2.1,.row 331 (s1.2:List Ref) ay.2.2⟩ :: ⟨some a8,.var (al:az)⟩ :: aY s2.2)) (fun eK=>Exit.exit 2) (fun eK bf=> [(0,I.of (ab)),(1,I.of (al)),(2,I.of (aP)),(4,I.eq (.pointer (some ⟨a8,0,none⟩))),(6,I.of (false)),(8,I.of (aB.2)),(9,I.eq (.pointer (some ⟨bn,0,none⟩))),(10,I.eq (.pointer (some ⟨c0,0,none⟩))),(12,I.of (aN s1.2 fu)),(13,I.of (eK.1)),(22,I.of (!aB.2)),(31,I.gi 255 [I.ptr aK.1,I.ptr aK.2.1,I.ptr aK.2.2]),(72,I.of (eK.2.1))]) (fun eK bf=>(⟨some D,.dk⟩ :: ⟨ay.1.1,.row 3 (s1.1:List Int) ay.1.2⟩ :: ⟨none,.row 3 (([]:List Int):List Int) 0⟩ :: ⟨some c0,.bU ([]:List Int) [(0,a5 ay.1.1 s1.1.length ay.1.2)]⟩ :: ⟨none,.row 331 (([]:List Ref):List Ref) 0⟩ :: ⟨some bn,.bU ([]:List Ref) [(0,a5 ay.2.1 s1.2.length ay.2.2)]⟩ :: ⟨ay.2.1,.row 331 (s1.2:List Ref) ay.2.2⟩ :: ⟨some a8,.var (al:az)⟩ :: aY eK.2.2)) () rfl (.same rfl (.same rfl (.same rfl (.same rfl (.same rfl (.same rfl (.same rfl (.same rfl (.same rfl (.same rfl (.same rfl (.same rfl .nil)))))))))))) (fun s2 r h bf=> ?_) (fun bf=> ?_)
   ·clear ar
    refine ai.seq ?_
    refine aG ?_
    refine aD ?_
    refine bL nX ?_
    refine aD ?_
    refine fD (fun hb=>hM (i:=5) (q:=0) (β:=List Ref) (γ:=Ref) r5 (aa rfl) rfl rfl) ?_
    refine eB cj ?_
    refine ji ep ?_
    obtain⟨lO,wC,h⟩:=aA h
    refine fD (fun hb=>oI (i:=6) (k:=lO) (xs:=(s1.2:List Ref)) Tryz.underlying341 dY (c2 rfl hb) (c2 rfl hb) rfl (eU (h2 wC hb))) ?_
    refine fD (fun hb=>vF (i:=6) (k:=lO) (aO.id Ref) (r:=(aN s1.2 lO)) dY (c2 rfl hb) rfl (eU (h2 wC hb)).1 rfl rfl) ?_
    obtain⟨cm,iv,h⟩:=aA h
    refine ag.Ny (fun hb=>eP.gZ 8 rfl LJ (Ij (h2 iv hb)) ⟨c2 rfl hb,trivial⟩) rfl rfl rfl rfl rfl ?_
    refine lI ?_
    refine aV ?_
    refine dv h (fun h=>?_) fun h=>?_
    ·refine dE ?_
     refine ai.seq ?_
     refine ai.block ?_
     obtain⟨uR,MT,h⟩:=aA h
     obtain⟨uS,MU,h⟩:=aA h
     obtain⟨pg,GB,h⟩:=aA h
     refine jh [0,1,2,4,6,8,9,10,12,13,22,31,63,64,65,66,67,68,69,70,71,72] ?_
     refine ai.v8 10 8 mixed (bb 75 [] (5 :: []) _ :: bb 76 [] [] _ :: bb 77 (0 :: 1 :: []) (6 :: []) _ :: bb 78 (2 :: []) (6 :: []) _ :: bb 79 [] (3 :: []) _ :: bb 80 [] [] _ :: bb 81 (4 :: 5 :: []) (1 :: []) _ :: bb 82 (6 :: []) (1 :: []) _ :: bb 83 (3 :: []) [] _ :: bb 84 (8 :: []) [] _ :: []) _ (0 :: 1 :: 2 :: 4 :: 6 :: 8 :: 9 :: 10 :: 12 :: 13 :: 22 :: 31 :: 63 :: 64 :: 65 :: 66 :: 67 :: 68 :: 69 :: 70 :: 71 :: 72 :: []) rfl rfl (by kernel_rfl) (by kernel_rfl) ⟨cl.q (ca fun hd E' av aw an=>hM (i:=5) (q:=0) (β:=List Ref) (γ:=Ref) r5 (aa (aw _ _ rfl)) (an 5 _ rfl rfl) rfl),cl.q (fi),cl.q (ca fun hd E' av aw an=>oI (i:=6) (k:=uR) (xs:=(s1.2:List Ref)) Tryz.underlying341 dY (aa (aw _ _ rfl)) (aa (aw _ _ rfl)) (an 6 _ rfl rfl) (eU MT)),cl.q (ca fun hd E' av aw an=>vF (i:=6) (k:=uR) (aO.id Ref) (r:=(aN s1.2 uR)) dY (aa (aw _ _ rfl)) (an 6 _ rfl rfl) (eU MT).1 rfl rfl),cl.q (ca fun hd E' av aw an=>hM (i:=3) (q:=0) (β:=List Int) (γ:=Int) tW (aa (aw _ _ rfl)) (an 3 _ rfl rfl) rfl),cl.q (fi),cl.q (ca fun hd E' av aw an=>oI (i:=1) (k:=uS) (xs:=(s1.1:List Int)) Tryz.underlying63 bP (aa (aw _ _ rfl)) (aa (aw _ _ rfl)) (an 1 _ rfl rfl) (eU MU)),cl.q (ca fun hd E' av aw an=>vF (i:=1) (k:=uS) (aO.id Int) (r:=(aN s1.1 uS)) bP (aa (aw _ _ rfl)) (an 1 _ rfl rfl) (eU MU).1 rfl rfl),cl.q (ca fun hd E' av aw an=>de (dO (aa (aw _ _ rfl)) GB)),cl.q (e6 (a1 qj)),trivial⟩ fun ix=> ?_
     refine ag.dT (L2:=(⟨some D,.dk⟩ :: ⟨ay.1.1,.row 3 (s1.1:List Int) ay.1.2⟩ :: ⟨none,.row 3 (([]:List Int):List Int) 0⟩ :: ⟨some c0,.bU ([]:List Int) [(0,a5 ay.1.1 s1.1.length ay.1.2)]⟩ :: ⟨none,.row 331 (([]:List Ref):List Ref) 0⟩ :: ⟨some bn,.bU ([]:List Ref) [(0,a5 ay.2.1 s1.2.length ay.2.2)]⟩ :: ⟨ay.2.1,.row 331 (s1.2:List Ref) ay.2.2⟩ :: ⟨some a8,.var (al:az)⟩ :: aY s2.2)) rfl ?_
     refine ag.le (E':= [(0,I.of (ab)),(1,I.of (al)),(2,I.of (aP)),(4,I.eq (.pointer (some ⟨a8,0,none⟩))),(6,I.of (false)),(8,I.of (aB.2)),(9,I.eq (.pointer (some ⟨bn,0,none⟩))),(10,I.eq (.pointer (some ⟨c0,0,none⟩))),(12,I.of (aN s1.2 fu)),(13,I.of (s2.1)),(22,I.of (!aB.2)),(31,I.gi 255 [I.ptr aK.1,I.ptr aK.2.1,I.ptr aK.2.2]),(63,I.of (s2.1)),(64,I.of (decide (s2.1≥0))),(65,I.of (decide (s2.1≥0))),(66,I.cond ((decide (s2.1≥0))=true) (I.eq (a5 ay.2.1 s1.2.length ay.2.2))),(67,I.cond ((decide (s2.1≥0))=true) (I.of (s2.1))),(68,I.cond ((decide (s2.1≥0))=true) (I.of (bu (s2.1 + 1)))),(69,I.cond ((decide (s2.1≥0))=true) (I.eq (.pointer (some ⟨ay.2.1.getD 0,lO * 1,none⟩)))),(70,I.cond ((decide (s2.1≥0))=true) (I.of (aN s1.2 lO))),(71,I.cond ((decide (s2.1≥0))=true) (I.of (cm))),(72,I.of ((decide (s2.1≥0)) && cm)),(75,I.eq (a5 ay.2.1 s1.2.length ay.2.2)),(76,I.of (s2.1)),(77,I.eq (.pointer (some ⟨ay.2.1.getD 0,uR * 1,none⟩))),(78,I.of (aN s1.2 uR)),(79,I.eq (a5 ay.1.1 s1.1.length ay.1.2)),(80,I.of (s2.1)),(81,I.eq (.pointer (some ⟨ay.1.1.getD 0,uS * 1,none⟩))),(82,I.of (aN s1.1 uS)),(83,I.eq (.pointer (some ⟨pg,0,none⟩))),(84,I.eq (.pointer (some ⟨pg,0 + 0,none⟩)))]) (.same rfl (.same rfl (.same rfl (.same rfl (.same rfl (.same rfl (.same rfl (.same rfl (.same rfl (.same rfl (.same rfl (.same rfl (.same rfl (.same rfl (.same rfl (.same rfl (.same rfl (.same rfl (.same rfl (.same rfl (.same rfl (.same rfl (.same rfl (.same rfl (.same rfl (.same rfl (.same rfl (.same rfl (.same rfl (.same rfl (.same rfl (.same rfl .nil)))))))))))))))))))))))))))))))) ?_
     obtain⟨zw,Mp,h⟩:=aA h
     refine bp (oN (k:=zw) r1 (aa rfl) (aa rfl) (eU Mp)) ?_
     obtain⟨lq,uj,h⟩:=aA h
     obtain⟨fT,yX,h⟩:=aA h
     refine ag.lY (k':=Cell.fp ({ lq with cJ:=iJ lq.cJ zw (none:Ref) } :di)) 8 rfl (((aO.id di).comp p6).comp (aO.idx (α:=Ref) 2 zw (eU Mp).1)) (v:=((none:Ref):Ref)) dY (aa rfl) (nK) (ja uj) rfl rfl rfl rfl (aS yX) ?_
     refine ag.nil ?_
     refine ah.fF ?_
     refine ah.next ?_
     refine ai.cO ?_
     refine aD ?_
     refine bL kn ?_
     refine aT ?_
     refine ag.nil ?_
     obtain rfl:=aS h
     exact j7 () 0
    ·refine ai.exit ?_
     refine ah.exit ?_
     obtain rfl:=aS h
     exact hn () 0
   ·clear ar
    refine ah.h4 ?_
    refine ah.next ?_
    refine ai.seq ?_
    refine aG ?_
    refine aD ?_
    refine bp (de (dO (aa rfl) cU)) ?_
    refine ba (a1 rL) ?_
    obtain⟨kE,wF,h⟩:=aA h
    refine bp (e7 ((aO.id fb).comp rD) (r:=kE.ck) dY (aa rfl) (ei (n:=8) rfl (mB wF) rfl) rfl rfl) ?_
    obtain⟨cD,iw,h⟩:=aA h
    refine ag.gW (eP.gZ 8 rfl LJ (Ij iw) ⟨aa rfl,trivial⟩) rfl rfl rfl ?_
    refine aV ?_
    obtain⟨bH,cM,h⟩:=aA h
    refine ai.c5 (γ:=Unit) (fun bJ=> [(0,I.of (ab)),(1,I.of (al)),(2,I.of (aP)),(4,I.eq (.pointer (some ⟨a8,0,none⟩))),(6,I.of (false)),(8,I.of (aB.2)),(9,I.eq (.pointer (some ⟨bn,0,none⟩))),(10,I.eq (.pointer (some ⟨c0,0,none⟩))),(12,I.of (aN s1.2 fu)),(13,I.of (bd.1)),(22,I.of (!aB.2)),(31,I.gi 255 [I.ptr aK.1,I.ptr aK.2.1,I.ptr aK.2.2]),(72,I.of (bd.2.1)),(90,I.of (cD))]) (fun bJ=>(⟨some D,.dk⟩ :: ⟨ay.1.1,.row 3 (s1.1:List Int) ay.1.2⟩ :: ⟨none,.row 3 (([]:List Int):List Int) 0⟩ :: ⟨some c0,.bU ([]:List Int) [(0,a5 ay.1.1 s1.1.length ay.1.2)]⟩ :: ⟨none,.row 331 (([]:List Ref):List Ref) 0⟩ :: ⟨some bn,.bU ([]:List Ref) [(0,a5 ay.2.1 s1.2.length ay.2.2)]⟩ :: ⟨ay.2.1,.row 331 (s1.2:List Ref) ay.2.2⟩ :: ⟨some a8,.var (al:az)⟩ :: aY bH)) (aa rfl) (fun bJ=> ?_) (fun hm aj=> ?_) (fun hm aj=> ?_)
    ·clear cM
     refine ah.next ?_
     refine aG ?_
     refine aT ?_
     refine aV ?_
     refine ai.ret ?_
     obtain rfl:=aS h
     refine ah.Cp 0 rfl rfl ?_
     exact ah.ez () (.cons _ (.cons _ (.cons _ (.cons _ (.cons _ (.cons _ (.cons _ (.cons _ (.refl _))))))))) rfl rfl (df rfl)
    ·have h:=ij aj cM
     refine ai.cO ?_
     refine aD ?_
     refine bp (de (dO (aa rfl) cU)) ?_
     refine ba (a1 rL) ?_
     obtain⟨so,F8,h⟩:=aA h
     refine ag.lY (k':=Cell.iK ({ kE with ck:=(none:Ref) } :fb)) 8 rfl ((aO.id fb).comp rD) (v:=((none:Ref):Ref)) dY (aa rfl) (nK) (mB wF) rfl rfl rfl rfl (aS F8) ?_
     refine ag.nil ?_
     obtain rfl:=aS h
     exact dZ 0 (hm ())
    ·have h:=ik aj cM
     refine ai.skip ?_
     obtain rfl:=aS h
     exact dZ 0 (hm ())
  ·exact Empty.elim aM
end Go.Proofs.YtmnggbjcnoffeaaGreat
namespace Go.Proofs.YtmnggbjcnoffeaaGreat
open Go Gv
set_option linter.unusedVariables false
set_option linter.unusedSimpArgs false
set_option maxRecDepth 100000
set_option maxHeartbeats 2000000
theorem H8 {hp:aI Cell} {y:gd} {ab:bo} {r:Int × Bool} (h:AO hp y ab=some r):k1 Tryz.prog "matchguard/index.find" (I.of y) [I.of (ab)] ([] ++ aY hp) (δ:=Unit) (fun _=>I.eA [I.of (r.1),I.of (r.2)]) (fun _=> [] ++ aY hp):=by
 cases y with
 | nil=>cases h
 | l3 z=>exact k1.of Qr (fun A W u hu=>Ep hu) (OF h)
 | l4 z=>exact k1.of Qs (fun A W u hu=>Er hu) (Ov h)
 | l5 z=>exact k1.of Qt (fun A W u hu=>Es hu) (OL h)
theorem OW {hp:aI Cell} {ab:iX} {al:aH} {Q:(aI Cell)→Prop} (h:xz hp ab al Q):bF Tryz.prog 262 [I.of (ab),I.of (al)] ([] ++ aY hp) (δ:= {r:(aI Cell) // Q r} × Unit) (fun d=>I.eA []) (fun d=> [] ++ aY d.1.1):=by
 unfold xz at h
 refine bF.of Tryz.func262 rfl Tryz.ntmps262 rfl fun W A=> ?_
 refine aG ?_
 refine cL fun a8=> ?_
 refine cL fun bn=> ?_
 refine aV ?_
 refine ai.cO ?_
 refine ba (a1 EX) ?_
 refine c1 1 AV Cc ?_
 refine cS 0 cZ ?_
 obtain⟨bS,cU,h⟩:=ao.bX h
 obtain⟨bl,dw,h⟩:=ao.bX h
 obtain⟨aB,bG,h⟩:=ao.bX h
 refine ag.uQ (fr.obj 2 (fun q:Option Nat × Nat=>Cell.pO aB.2 q.1 q.2) rfl (ts dw) Ud (Oj bG) rfl (fun _=>rfl) ⟨dO (aa rfl) cU,aa rfl,trivial⟩) rfl rfl rfl fun aM=> ?_
 replace h:=ao.any_bind h aM
 obtain⟨cd,ir,h⟩:=ao.bX h
 refine ag.dT (L2:=(⟨some bn,.var (al:aH)⟩ :: ⟨some a8,.var (ab:iX)⟩ :: aY cd)) (by rw [← aS ir]; rfl) ?_
 refine ag.nil ?_
 refine ah.oS ?_
 exact ah.mD (⟨⟨cd,h⟩,()⟩: {r // _} × _) (.cons _ (.cons _ (.refl _))) rfl rfl
theorem N9 {hp:aI Cell} {ab:gm} {al:aH} {r:(aI Cell)} (h:w6 hp ab al=some r):bF Tryz.prog 238 [I.of (ab),I.of (al)] ([] ++ aY hp) (δ:=Unit) (fun d=>I.eA []) (fun d=> [] ++ aY r):=by
 unfold w6 at h
 refine bF.of Tryz.func238 rfl Tryz.ntmps238 rfl fun W A=> ?_
 refine aG ?_
 refine cL fun a8=> ?_
 refine cL fun bn=> ?_
 refine bY ?_
 refine cS 1 B3 ?_
 refine ba (a1 nW) ?_
 refine c1 0 m3 fH ?_
 obtain⟨aB,bG,h⟩:=aA h
 refine hH FK (Dx bG) ?_
 refine aD ?_
 refine fS ?_
 refine fS ?_
 refine fS ?_
 refine dI vV fun c0=> ?_
 refine dI er fun iB=> ?_
 refine cP 1 j0 ?_
 refine cP 0 cw ?_
 refine aT ?_
 refine b2 ?_
 obtain⟨bS,cU,h⟩:=aA h
 obtain⟨bl,dw,h⟩:=aA h
 obtain⟨bD,dG,h⟩:=aA h
 refine ai.draw mixed 6 [some 15,some 16,some 17,some 18,some 19,some 20] [[],[0],[],[1,2],[],[]] [.val _,.val _,.val _,.val _,.val _,.val _] [false,false,false,false,false,false] (by kernel_rfl) rfl rfl rfl (fun du=>⟨H1 (a1 rM),hl 3 p5 qC,hr 1 j0,eO fun av an=>tk (r:=bD) Tryz.underlying167 tI yN (kI (aa rfl) cU) (aa rfl) (jx (fun i e q=>an i e q rfl) (ei (n:=4) rfl (lA dw) rfl)) (aS dG),hr 0 cw,dW,trivial⟩) fun du=> ?_
 obtain⟨aK,cF,h⟩:=aA h
 refine ag.im 4 0 rfl Ue (OV cF) rfl rfl ⟨aa rfl,aa rfl,aa rfl,trivial⟩ rfl fun aM=> ?_
 refine ag.dT (L2:=(⟨some iB,.var (aB.2.1:az)⟩ :: ⟨some c0,.var (aB.1:Vector az 4)⟩ :: ⟨some bn,.var (al:aH)⟩ :: ⟨some a8,.var (ab:gm)⟩ :: aY aK.2)) rfl ?_
 refine bY ?_
 refine ba (a1 rM) ?_
 refine c1 3 p5 qC ?_
 refine cS 1 j0 ?_
 obtain⟨b7,e9,h⟩:=aA h
 obtain⟨dp,hG,h⟩:=aA h
 refine bp (tk (r:=dp) Tryz.underlying167 tI yN (kI (aa rfl) cU) (aa rfl) (ei (n:=4) rfl (lA e9) rfl) (aS hG)) ?_
 obtain⟨bk,gQ,h⟩:=aA h
 refine ag.gW (eP.gZ 4 rfl Uf (Pd gQ) ⟨aa rfl,trivial⟩) rfl rfl rfl ?_
 refine bL gP ?_
 refine aV ?_
 obtain⟨bH,cM,h⟩:=aA h
 refine ai.c5 (γ:=Unit) (fun ay=> [(0,I.of (ab)),(1,I.of (al)),(2,I.eq (.pointer (some ⟨a8,0,none⟩))),(3,I.eq (.pointer (some ⟨bn,0,none⟩))),(4,I.eq (.pointer (some ⟨c0,0,none⟩))),(5,I.eq (.pointer (some ⟨iB,0,none⟩))),(6,I.of (aB.2.2)),(27,I.of (bk ==0))]) (fun ay=>(⟨some iB,.var (aB.2.1:az)⟩ :: ⟨some c0,.var (aB.1:Vector az 4)⟩ :: ⟨some bn,.var (al:aH)⟩ :: ⟨some a8,.var (ab:gm)⟩ :: aY bH)) (aa rfl) (fun ay=> ?_) (fun hm aj=> ?_) (fun hm aj=> ?_)
 ·clear cM
  refine ah.oS ?_
  obtain rfl:=aS h
  exact ah.mD () (.cons _ (.cons _ (.cons _ (.cons _ (.refl _))))) rfl rfl
 ·have h:=ij aj cM
  refine ai.cO ?_
  refine ba (a1 rM) ?_
  refine c1 3 p5 qC ?_
  refine cS 1 j0 ?_
  obtain⟨cd,ir,h⟩:=aA h
  refine ag.FE (k':=Cell.kL (g3 b7 aB.1)) 4 rfl Tryz.underlying167 tI (kI (aa rfl) cU) (aa rfl) (lA e9) rfl rfl rfl (aS ir) ?_
  refine ag.nil ?_
  obtain rfl:=aS h
  exact dZ 0 (hm ())
 ·have h:=ik aj cM
  refine ai.skip ?_
  obtain rfl:=aS h
  exact dZ 0 (hm ())
theorem DT {hp:aI Cell} {ab:Ref} {al:bo} {r:aH × Bool} (h:sQ hp ab al=some r):bF Tryz.prog 40 [I.of (ab),I.of (al)] ([] ++ aY hp) (δ:=Unit) (fun _=>I.eA [I.of (r.1),I.of (r.2)]) (fun _=> [] ++ aY hp):=by
 unfold sQ at h
 refine bF.of Tryz.func40 rfl Tryz.ntmps40 rfl fun W A=> ?_
 refine aG ?_
 refine cL fun a8=> ?_
 refine dI hP fun bn=> ?_
 refine aT ?_
 refine b2 ?_
 refine aG ?_
 refine aD ?_
 refine bp (lT Tryz.underlying37 (aa rfl)) ?_
 refine aV ?_
 refine dv h (fun h=>?_) fun h=>?_
 ·refine aG ?_
  refine g7 y8 hP (default:aH) .nil ?_
  refine cP 0 cZ ?_
  refine aT ?_
  refine aV ?_
  refine ai.ret ?_
  refine ah.ret ?_
  obtain rfl:=aS h
  exact ah.jJ () (.cons _ (.cons _ (.refl _))) rfl rfl (jK (i:=0) cZ rfl rfl) (df rfl)
 ·refine dE ?_
  refine ai.seq ?_
  obtain⟨bS,cU,h⟩:=aA h
  obtain⟨bl,dw,h⟩:=aA h
  obtain⟨aB,bG,h⟩:=aA h
  refine jh [0,1,3,4,5,8,9] ?_
  refine ai.pI 2 mixed (bb 12 [] [] _ :: bb 13 (0 :: []) [] _ :: bb 14 (1 :: []) [] _ :: ⟨some 15,(2 :: []),[],[],fun _=>I.of (bl.ie),fun _ _=>⟨none,.dead⟩⟩ :: bb 16 [] (1 :: []) _ :: ⟨some 17,(3 :: 4 :: []),[],[],fun _=>I.eA [I.of (aB.1),I.of (aB.2)],fun _ _=>⟨none,.dead⟩⟩ :: bb 11 (5 :: []) [] _ :: bb 18 (6 :: []) [] _ :: bb 19 (6 :: []) [] _ :: bb 6 (7 :: []) [] _ :: bb 7 (8 :: []) [] _ :: []) _ (0 :: 1 :: 3 :: 4 :: 5 :: 8 :: 9 :: []) rfl rfl (by kernel_rfl) (by kernel_rfl) ⟨cl.q (fi),cl.q (ca fun hd E' av aw an=>de (dO (aa (aw _ _ rfl)) cU)),cl.q (e6 (a1 tl)),?_,cl.q (nq 1 fH),?_,cl.q (fi),cl.q (ca fun hd E' av aw an=>lC (aa (aw _ _ rfl)) rfl),cl.q (ca fun hd E' av aw an=>lC (aa (aw _ _ rfl)) rfl),cl.q (ca fun hd E' av aw an=>eJ (aa (aw _ _ rfl))),cl.q (ca fun hd E' av aw an=>eJ (aa (aw _ _ rfl))),trivial⟩ fun en=> ?_
  ·intro hd E' av aw an cX
   refine bp (e7 ((aO.id gn).comp sJ) (r:=bl.ie) rY (aa (aw _ _ rfl)) (ei (n:=2) (cX.trans rfl) (lX dw) rfl) rfl rfl) ?_
   refine ag.nil ?_
   exact ah.fin (ee []) rfl rfl
  ·intro hd E' av aw an cX
   refine ag.gW (eP.y9 2 (cX.trans rfl) (H8 bG) ⟨aa (aw _ _ rfl),aa (aw _ _ rfl),trivial⟩) rfl rfl rfl ?_
   refine ag.nil ?_
   exact ah.fin (ee []) rfl rfl
  refine ah.dT (L2:=(⟨some bn,.var ((default:aH):aH)⟩ :: ⟨some a8,.var (al:bo)⟩ :: aY hp)) rfl ?_
  refine jS [0,1,3,4,5,6,7,8,9,11,12,13,14,15,16,17,18,19] ?_
  refine ah.next ?_
  refine aG ?_
  refine aD ?_
  refine aD ?_
  refine aD ?_
  obtain⟨aK,cF,h⟩:=aA h
  refine ag.gW (eP.gZ 2 rfl Vw (OK cF) ⟨aa rfl,aa rfl,aa rfl,trivial⟩) rfl rfl rfl ?_
  refine fS ?_
  refine fS ?_
  refine cP 0 cZ ?_
  refine aT ?_
  refine aV ?_
  refine ai.ret ?_
  obtain rfl:=aS h
  exact ah.jJ () (.cons _ (.cons _ (.refl _))) rfl rfl (jK (i:=0) cZ rfl rfl) (df rfl)
end Go.Proofs.YtmnggbjcnoffeaaGreat
namespace Go.Proofs.YtmnggbjcnoffeaaGreat
open Go Gv
set_option linter.unusedVariables false
set_option linter.unusedSimpArgs false
set_option maxRecDepth 100000
set_option maxHeartbeats 2000000
theorem OM {hp:aI Cell} {y:gd} {ab:aH} {Q:(aI Cell)→Prop} (h:DP hp y ab Q):k1 Tryz.prog "matchguard/index.put" (I.of y) [I.of (ab)] ([] ++ aY hp) (δ:= {r:(aI Cell) // Q r} × Unit) (fun d=>I.eA []) (fun d=> [] ++ aY d.1.1):=by
 cases y with
 | nil=>exact h.elim
 | l3 z=>
   obtain⟨r,J,ad⟩:=h
   exact k1.of Qu (fun A W u hu=>Ep hu) (bF.map (fun d=>(⟨r,ad⟩,d)) (fun _=>rfl) (fun _=>rfl) (OT J))
 | l4 z=>exact k1.of Qv (fun A W u hu=>Er hu) (OA h)
 | l5 z=>exact k1.of Qw (fun A W u hu=>Es hu) (OW h)
theorem Ok {hp:aI Cell} {y:gd} {ab:aH} {Q:(aI Cell)→Prop} (h:DB hp y ab Q):k1 Tryz.prog "matchguard/index.remove" (I.of y) [I.of (ab)] ([] ++ aY hp) (δ:= {r:(aI Cell) // Q r} × Unit) (fun d=>I.eA []) (fun d=> [] ++ aY d.1.1):=by
 cases y with
 | nil=>exact h.elim
 | l3 z=>
   obtain⟨r,J,ad⟩:=h
   exact k1.of Qx (fun A W u hu=>Ep hu) (bF.map (fun d=>(⟨r,ad⟩,d)) (fun _=>rfl) (fun _=>rfl) (Ot J))
 | l4 z=>
   obtain⟨r,J,ad⟩:=h
   exact k1.of Qy (fun A W u hu=>Er hu) (bF.map (fun d=>(⟨r,ad⟩,d)) (fun _=>rfl) (fun _=>rfl) (N9 J))
 | l5 z=>exact k1.of Qz (fun A W u hu=>Es hu) (Ou h)
theorem Ig {hp:aI Cell} {ab:Ref} {al:bo} {r:aH × Bool} (h:vd hp ab al=some r):bF Tryz.prog 28 [I.of (ab),I.of (al)] ([] ++ aY hp) (δ:=Unit) (fun _=>I.eA [I.of (r.1),I.of (r.2)]) (fun _=> [] ++ aY hp):=by
 unfold vd at h
 refine bF.of Tryz.func28 rfl Tryz.ntmps28 rfl fun W A=> ?_
 refine aG ?_
 refine cL fun a8=> ?_
 refine dI hP fun bn=> ?_
 refine aT ?_
 refine b2 ?_
 obtain⟨aB,bG,h⟩:=aA h
 obtain⟨aK,cF,h⟩:=aA h
 refine jh [0,1,3,4] ?_
 refine ai.pI 2 mixed (bb 6 [] [] _ :: bb 7 [] [] _ :: bb 8 (1 :: []) (1 :: []) _ :: ⟨some 9,(0 :: 2 :: []),[],[],fun _=>I.of (aB),fun _ _=>⟨none,.dead⟩⟩ :: bb 10 [] (1 :: []) _ :: ⟨some 11,(3 :: 4 :: []),[],[],fun _=>I.eA [I.of (aK.1),I.of (aK.2)],fun _ _=>⟨none,.dead⟩⟩ :: bb 12 (5 :: []) [] _ :: bb 13 (5 :: []) [] _ :: ⟨none,(6 :: []),(0 :: []),(0 :: []),fun _=>I.any,fun hd _=>⟨some bn,.var (aK.1:aH)⟩⟩ :: bb 5 (7 :: []) [] _ :: []) _ (0 :: 1 :: 3 :: 4 :: []) rfl rfl (by kernel_rfl) (by kernel_rfl) ⟨cl.q (fi),cl.q (e6 (a1 tr)),cl.q (mQ 1 p8 bP),?_,cl.q (nq 1 fH),?_,cl.q (ca fun hd E' av aw an=>lC (aa (aw _ _ rfl)) rfl),cl.q (ca fun hd E' av aw an=>lC (aa (aw _ _ rfl)) rfl),?_,cl.q (ca fun hd E' av aw an=>eJ (aa (aw _ _ rfl))),trivial⟩ fun en=> ?_
 ·intro hd E' av aw an cX
  refine ag.gW (eP.gZ 2 (cX.trans rfl) Cl (AS bG) ⟨aa (aw _ _ rfl),aa (aw _ _ rfl),trivial⟩) rfl rfl rfl ?_
  refine ag.nil ?_
  exact ah.fin (ee []) rfl rfl
 ·intro hd E' av aw an cX
  refine ag.gW (eP.gZ 2 (cX.trans rfl) F9 (DT cF) ⟨aa (aw _ _ rfl),aa (aw _ _ rfl),trivial⟩) rfl rfl rfl ?_
  refine ag.nil ?_
  exact ah.fin (ee []) rfl rfl
 ·intro hd E' av aw an cX
  refine ag.store (i:=0) (aO.id aH) (v:=(aK.1:aH)) (b':=(aK.1:aH)) cZ (aa (aw _ _ rfl)) (aa (aw _ _ rfl)) (an 0 _ rfl rfl) rfl rfl ?_
  refine ag.nil ?_
  exact ah.fin (ee []) rfl rfl
 refine ah.dT (L2:=(⟨some bn,.var (aK.1:aH)⟩ :: ⟨some a8,.var (al:bo)⟩ :: aY hp)) rfl ?_
 refine jS [0,1,3,4,5,6,7,8,9,10,11,12,13] ?_
 refine ah.next ?_
 refine ai.ret ?_
 obtain rfl:=aS h
 exact ah.jJ () (.cons _ (.cons _ (.refl _))) rfl rfl (jK (i:=0) cZ rfl rfl) (df rfl)
end Go.Proofs.YtmnggbjcnoffeaaGreat
namespace Go.Proofs.YtmnggbjcnoffeaaGreat
open Go Gv
set_option linter.unusedVariables false
set_option linter.unusedSimpArgs false
set_option maxRecDepth 100000
set_option maxHeartbeats 2000000
theorem O1 {hp:aI Cell} {ab:Ref} {al:aH} {Q:Bool × (aI Cell)→Prop} (h:xB hp ab al Q):bF Tryz.prog 44 [I.of (ab),I.of (al)] ([] ++ aY hp) (δ:= {r:Bool × (aI Cell) // Q r} × Unit) (fun d=>I.of (d.1.1.1)) (fun d=> [] ++ aY d.1.1.2):=by
 unfold xB at h
 refine bF.of Tryz.func44 rfl Tryz.ntmps44 rfl fun W A=> ?_
 refine aG ?_
 refine cL fun a8=> ?_
 refine aT ?_
 refine b2 ?_
 refine aG ?_
 refine aD ?_
 refine bp (lT Tryz.underlying37 (aa rfl)) ?_
 refine aV ?_
 refine ai.cond (aa rfl) (fun aj=> ?_) (fun aj=> ?_)
 ·replace h:=jt aj h
  refine aG ?_
  refine aT ?_
  refine aV ?_
  refine ai.ret ?_
  refine ah.ret ?_
  exact ah.ez (⟨⟨(false,hp),h⟩,()⟩: {r // _} × _) (.cons _ (.refl _)) rfl rfl (df rfl)
 ·replace h:=ju aj h
  refine dE ?_
  refine ai.seq ?_
  obtain⟨bS,cU,h⟩:=ao.bX h
  obtain⟨bl,dw,h⟩:=ao.bX h
  obtain⟨bT,eW,h⟩:=ao.bX h
  obtain⟨b7,e9,h⟩:=ao.bX h
  obtain⟨bD,dG,h⟩:=ao.bX h
  refine ai.LK 1 1 ?_
  refine jh [0,1,3,4,9,10] ?_
  refine ai.pI 2 mixed (bb 12 [] [] _ :: bb 13 (0 :: []) [] _ :: bb 14 (1 :: []) [] _ :: ⟨some 15,(2 :: []),[],[],fun _=>I.of (bl.jH),fun _ _=>⟨none,.dead⟩⟩ :: bb 16 [] [] _ :: bb 17 (4 :: []) (0 :: []) _ :: ⟨some 18,(3 :: 5 :: []),[],[],fun _=>I.eA [I.of (bD.getD default),I.of (bD.isSome)],fun _ _=>⟨none,.dead⟩⟩ :: bb 11 (6 :: []) [] _ :: bb 19 (7 :: []) [] _ :: bb 20 (7 :: []) [] _ :: ⟨some 5,[],(1 :: []),(1 :: []),fun hd=>I.eq (.pointer (some ⟨((hd 10 0).getD 0),0,none⟩)),fun hd _=>⟨some ((hd 10 0).getD 0),.var ((default:aH):aH)⟩⟩ :: ⟨none,(8 :: 10 :: []),(1 :: []),(1 :: []),fun _=>I.any,fun hd _=>⟨some ((hd 10 0).getD 0),.var (bD.getD default:aH)⟩⟩ :: bb 6 (9 :: []) [] _ :: []) _ (0 :: 1 :: 3 :: 4 :: 9 :: 10 :: []) rfl rfl (by kernel_rfl) (by kernel_rfl) ⟨cl.q (fi),cl.q (ca fun hd E' av aw an=>de (dO (aa (aw _ _ rfl)) cU)),cl.q (e6 (a1 yf)),?_,cl.q (e6 (a1 nV)),cl.q (mQ 0 m2 bP),?_,cl.q (fi),cl.q (ca fun hd E' av aw an=>lC (aa (aw _ _ rfl)) rfl),cl.q (ca fun hd E' av aw an=>lC (aa (aw _ _ rfl)) rfl),?_,?_,cl.q (ca fun hd E' av aw an=>eJ (aa (aw _ _ rfl))),trivial⟩ fun en=> ?_
  ·intro hd E' av aw an cX
   refine bp (e7 ((aO.id gn).comp u0) (r:=bl.jH) vW (aa (aw _ _ rfl)) (ei (n:=2) (cX.trans rfl) (lX dw) rfl) rfl rfl) ?_
   refine ag.nil ?_
   exact ah.fin (ee []) rfl rfl
  ·intro hd E' av aw an cX
   refine bp (Ez (r:=bD) Tryz.underlying133 wy hP (kI (aa (aw _ _ rfl)) eW) (aa (aw _ _ rfl)) (ei (n:=2) (cX.trans rfl) (rQ e9) rfl) (aS dG)) ?_
   refine ag.nil ?_
   exact ah.fin (ee []) rfl rfl
  ·intro hd E' av aw an cX
   refine dI hP fun bn=> ?_
   refine ag.nil ?_
   refine ah.place 1 (an 1 _ rfl rfl) ?_
   exact ah.fin (ee [some bn]) rfl rfl
  ·intro hd E' av aw an cX
   refine ag.store (i:=1) (aO.id aH) (v:=(bD.getD default:aH)) (b':=(bD.getD default:aH)) cZ (aa (aw _ _ rfl)) (aa (aw _ _ rfl)) (an 1 _ rfl rfl) rfl rfl ?_
   refine ag.nil ?_
   exact ah.fin (ee []) rfl rfl
  refine ah.dT (L2:=(⟨some a8,.var (al:aH)⟩ :: ⟨some ((en 10 0).getD 0),.var (bD.getD default:aH)⟩ :: aY hp)) rfl ?_
  refine jS [0,1,3,4,5,6,9,10,11,12,13,14,15,16,17,18,19,20] ?_
  refine ah.bt 1 rfl ?_
  refine ah.next ?_
  refine ai.seq ?_
  refine ai.seq ?_
  obtain⟨lP,sn,h⟩:=ao.bX h
  obtain⟨e0,lf,h⟩:=ao.bX h
  obtain⟨aB,bG,h⟩:=ao.bX h
  refine jh [0,1,3,4,5,6,9,10,11,12,13,14,15,16,17,18,19,20] ?_
  refine ai.pI 2 mixed (bb 22 [] [] _ :: bb 23 (0 :: []) [] _ :: bb 24 (1 :: []) [] _ :: ⟨some 25,(2 :: []),[],[],fun _=>I.of (e0.ie),fun _ _=>⟨none,.dead⟩⟩ :: bb 26 [] [] _ :: bb 27 (4 :: []) (1 :: []) _ :: ⟨some 28,(3 :: 5 :: []),[],[],fun _=>I.eA [I.of (aB.1),I.of (aB.2)],fun _ _=>⟨none,.dead⟩⟩ :: bb 21 (6 :: []) [] _ :: bb 29 (7 :: []) [] _ :: bb 30 (7 :: []) [] _ :: bb 7 (8 :: []) [] _ :: bb 8 (9 :: []) [] _ :: []) _ (0 :: 1 :: 3 :: 4 :: 5 :: 6 :: 9 :: 10 :: 11 :: 12 :: 13 :: 14 :: 15 :: 16 :: 17 :: 18 :: 19 :: 20 :: []) rfl rfl (by kernel_rfl) (by kernel_rfl) ⟨cl.q (fi),cl.q (ca fun hd E' av aw an=>de (dO (aa (aw _ _ rfl)) sn)),cl.q (e6 (a1 tl)),?_,cl.q (e6 (a1 nW)),cl.q (mQ 1 m3 fH),?_,cl.q (fi),cl.q (ca fun hd E' av aw an=>lC (aa (aw _ _ rfl)) rfl),cl.q (ca fun hd E' av aw an=>lC (aa (aw _ _ rfl)) rfl),cl.q (ca fun hd E' av aw an=>eJ (aa (aw _ _ rfl))),cl.q (ca fun hd E' av aw an=>eJ (aa (aw _ _ rfl))),trivial⟩ fun ix=> ?_
  ·intro hd E' av aw an cX
   refine bp (e7 ((aO.id gn).comp sJ) (r:=e0.ie) rY (aa (aw _ _ rfl)) (ei (n:=2) (cX.trans rfl) (lX lf) rfl) rfl rfl) ?_
   refine ag.nil ?_
   exact ah.fin (ee []) rfl rfl
  ·intro hd E' av aw an cX
   refine ag.gW (eP.y9 2 (cX.trans rfl) (H8 bG) ⟨aa (aw _ _ rfl),aa (aw _ _ rfl),trivial⟩) rfl rfl rfl ?_
   refine ag.nil ?_
   exact ah.fin (ee []) rfl rfl
  refine ah.dT (L2:=(⟨some ((en 10 0).getD 0),.var (bD.getD default:aH)⟩ :: ⟨some a8,.var (al:aH)⟩ :: aY hp)) rfl ?_
  refine jS [0,1,3,4,5,6,7,8,9,10,11,12,13,14,15,16,17,18,19,20,21,22,23,24,25,26,27,28,29,30] ?_
  refine ah.next ?_
  refine aG ?_
  refine aD ?_
  refine aD ?_
  refine eB cj ?_
  refine sk ?_
  refine aV ?_
  refine ai.cond (aa rfl) (fun aj=> ?_) (fun aj=> ?_)
  ·replace h:=jt aj h
   refine aG ?_
   refine aT ?_
   refine aV ?_
   refine ai.ret ?_
   refine ah.ret ?_
   exact ah.ez (⟨⟨(false,hp),h⟩,()⟩: {r // _} × _) (.cons _ (.cons _ (.refl _))) rfl rfl (df rfl)
  ·replace h:=ju aj h
   refine dE ?_
   refine ai.seq ?_
   obtain⟨Dd,MV,h⟩:=ao.bX h
   obtain⟨jD,ui,h⟩:=ao.bX h
   obtain⟨aK,cF,h⟩:=ao.bX h
   refine ai.draw mixed 8 [some 35,some 36,some 37,some 38,some 39,some 40,some 41,some 42] [[],[0],[1],[2],[],[4],[],[6]] [.val _,.val _,.val _,.val _,.val _,.val _,.val _,.val _] [false,false,false,false,false,false,false,false] (by kernel_rfl) rfl rfl rfl (fun du=>⟨dW,eO fun av an=>de (dO (aa rfl) MV),H1 (a1 yf),eO fun av an=>e7 ((aO.id gn).comp u0) (r:=jD.jH) vW (aa rfl) (jx (fun i e q=>an i e q rfl) (ei (n:=2) rfl (lX ui) rfl)) rfl rfl,H1 (a1 nV),hl 1 m2 bP,hr 1 cZ,iM Cn (A6 cF),trivial⟩) fun du=> ?_
   obtain⟨pg,GB,h⟩:=ao.bX h
   obtain⟨lq,uj,h⟩:=ao.bX h
   obtain⟨cd,ir,h⟩:=ao.bX h
   refine ag.B0 (k':=Cell.jy (fo lq al.b8 aK)) 2 rfl (by first | exact .inl rfl | exact .inr rfl) Tryz.underlying133 wy (kI (aa rfl) GB) (aa rfl) (aa rfl) (rQ uj) rfl rfl rfl (aS ir) ?_
   refine b2 ?_
   obtain⟨kE,wF,h⟩:=ao.bX h
   refine ai.draw mixed 5 [some 43,some 44,some 45,some 46,some 47] [[],[0],[1],[2],[]] [.val _,.val _,.val _,.val _,.val _] [false,false,false,false,false] (by kernel_rfl) rfl rfl rfl (fun mP=>⟨dW,eO fun av an=>de (dO (aa rfl) MV),H1 (a1 tl),eO fun av an=>e7 ((aO.id gn).comp sJ) (r:=kE.ie) rY (aa rfl) (jx (fun i e q=>an i e q rfl) (ei (n:=2) rfl (lX wF) rfl)) rfl rfl,hr 1 cZ,trivial⟩) fun mP=> ?_
   refine ag.y9 2 0 rfl (OM h) rfl rfl ⟨aa rfl,aa rfl,trivial⟩ rfl fun⟨⟨bk,h⟩,aM⟩=> ?_
   refine ag.dT (L2:=(⟨some ((en 10 0).getD 0),.var (bD.getD default:aH)⟩ :: ⟨some a8,.var (al:aH)⟩ :: aY bk)) rfl ?_
   refine bY ?_
   refine aT ?_
   refine aV ?_
   refine ai.ret ?_
   exact ah.ez (⟨⟨(true,bk),h⟩,()⟩: {r // _} × _) (.cons _ (.cons _ (.refl _))) rfl rfl (df rfl)
end Go.Proofs.YtmnggbjcnoffeaaGreat
namespace Go.Proofs.YtmnggbjcnoffeaaGreat
open Go Gv
set_option linter.unusedVariables false
set_option linter.unusedSimpArgs false
set_option maxRecDepth 100000
set_option maxHeartbeats 2000000
theorem OB {hp:aI Cell} {ab:Ref} {al:bo} {Q:aH × Bool × (aI Cell)→Prop} (h:xm hp ab al Q):bF Tryz.prog 41 [I.of (ab),I.of (al)] ([] ++ aY hp) (δ:= {r:aH × Bool × (aI Cell) // Q r} × Unit) (fun d=>I.eA [I.of (d.1.1.1),I.of (d.1.1.2.1)]) (fun d=> [] ++ aY d.1.1.2.2):=by
 unfold xm at h
 refine bF.of Tryz.func41 rfl Tryz.ntmps41 rfl fun W A=> ?_
 refine aG ?_
 refine cL fun a8=> ?_
 refine dI hP fun bn=> ?_
 refine aT ?_
 refine bY ?_
 refine aD ?_
 refine cS 1 fH ?_
 obtain⟨aB,bG,h⟩:=ao.bX h
 refine ag.gW (eP.gZ 2 rfl F9 (DT bG) ⟨aa rfl,aa rfl,trivial⟩) rfl rfl rfl ?_
 refine aD ?_
 refine fS ?_
 refine fS ?_
 refine dI hP fun c0=> ?_
 refine cP 0 cZ ?_
 refine aT ?_
 refine b2 ?_
 refine aG ?_
 refine aD ?_
 refine aV ?_
 refine ai.vL (γ:=Unit) h (fun bH ay=> [(0,I.of (ab)),(1,I.of (al)),(3,I.eq (.pointer (some ⟨a8,0,none⟩))),(4,I.eq (.pointer (some ⟨bn,0,none⟩))),(5,I.of (false)),(6,I.eq (.pointer (some ⟨c0,0,none⟩))),(7,I.of (aB.2)),(14,I.of (aB.2))]) (fun bH ay=>(⟨some c0,.var (aB.1:aH)⟩ :: ⟨some bn,.var ((default:aH):aH)⟩ :: ⟨some a8,.var (al:bo)⟩ :: aY bH)) (aa rfl) (fun bH ay h=> ?_) (fun hm aj h=> ?_) (fun hm aj h=> ?_)
 ·refine ah.next ?_
  refine aG ?_
  refine cS 0 cZ ?_
  refine aD ?_
  refine cP 1 cZ ?_
  refine aT ?_
  refine aV ?_
  refine ai.ret ?_
  exact ah.jJ (⟨⟨(aB.1,aB.2,bH),h⟩,()⟩: {r // _} × _) (.cons _ (.cons _ (.cons _ (.refl _)))) rfl rfl (jK (i:=1) cZ rfl rfl) (df rfl)
 ·refine ai.seq ?_
  obtain⟨bS,cU,h⟩:=ao.bX h
  obtain⟨bl,dw,h⟩:=ao.bX h
  refine ai.draw mixed 5 [some 15,some 16,some 17,some 18,some 19] [[],[0],[1],[2],[]] [.val _,.val _,.val _,.val _,.val _] [false,false,false,false,false] (by kernel_rfl) rfl rfl rfl (fun du=>⟨dW,eO fun av an=>de (dO (aa rfl) cU),H1 (a1 tl),eO fun av an=>e7 ((aO.id gn).comp sJ) (r:=bl.ie) rY (aa rfl) (jx (fun i e q=>an i e q rfl) (ei (n:=3) rfl (lX dw) rfl)) rfl rfl,hr 0 cZ,trivial⟩) fun du=> ?_
  refine ag.y9 3 0 rfl (Ok h) rfl rfl ⟨aa rfl,aa rfl,trivial⟩ rfl fun⟨⟨aK,h⟩,aM⟩=> ?_
  refine ag.dT (L2:=(⟨some c0,.var (aB.1:aH)⟩ :: ⟨some bn,.var ((default:aH):aH)⟩ :: ⟨some a8,.var (al:bo)⟩ :: aY aK)) rfl ?_
  refine aV ?_
  obtain⟨b7,e9,h⟩:=ao.bX h
  refine ai.draw mixed 6 [some 21,some 22,some 23,some 24,some 25,some 26] [[],[0],[1],[2],[],[4]] [.val _,.val _,.val _,.val _,.val _,.val _] [false,false,false,false,false,false] (by kernel_rfl) rfl rfl rfl (fun mP=>⟨dW,eO fun av an=>de (dO (aa rfl) cU),H1 (a1 yf),eO fun av an=>e7 ((aO.id gn).comp u0) (r:=b7.jH) vW (aa rfl) (jx (fun i e q=>an i e q rfl) (ei (n:=3) rfl (lX e9) rfl)) rfl rfl,H1 (a1 nV),hl 0 m2 bP,trivial⟩) fun mP=> ?_
  obtain⟨bT,eW,h⟩:=ao.bX h
  obtain⟨e0,lf,h⟩:=ao.bX h
  obtain⟨cd,ir,h⟩:=ao.bX h
  refine ag.FE (k':=Cell.jy (g3 e0 aB.1.b8)) 3 rfl Tryz.underlying133 wy (kI (aa rfl) eW) (aa rfl) (rQ lf) rfl rfl rfl (aS ir) ?_
  refine ag.nil ?_
  exact dZ 0 (hm cd () h)
 ·refine ai.skip ?_
  exact dZ 0 (hm hp () h)
theorem AP {hp:aI Cell} {ab:Ref} {al:bo} {aP:Int} {Q:Int × Int × (aI Cell)→Prop} (h:pt hp ab al aP Q):bF Tryz.prog 30 [I.of (ab),I.of (al),I.of (aP)] ([] ++ aY hp) (δ:= {r:Int × Int × (aI Cell) // Q r} × Unit) (fun d=>I.eA [I.of (d.1.1.1),I.of (d.1.1.2.1)]) (fun d=> [] ++ aY d.1.1.2.2):=by
 unfold pt at h
 refine bF.of Tryz.func30 rfl Tryz.ntmps30 rfl fun W A=> ?_
 refine aG ?_
 refine cL fun a8=> ?_
 refine aT ?_
 refine aT ?_
 refine bY ?_
 refine aD ?_
 refine ba (a1 tr) ?_
 refine c1 0 p8 bP ?_
 obtain⟨aB,bG,h⟩:=ao.bX h
 refine ag.gW (eP.gZ 1 rfl Cl (AS bG) ⟨aa rfl,aa rfl,trivial⟩) rfl rfl rfl ?_
 refine aT ?_
 refine b2 ?_
 refine aG ?_
 refine aD ?_
 refine bp (lT Tryz.underlying37 (aa rfl)) ?_
 refine aV ?_
 refine ai.cond (aa rfl) (fun aj=> ?_) (fun aj=> ?_)
 ·replace h:=jt aj h
  refine aG ?_
  refine aT ?_
  refine aT ?_
  refine aV ?_
  refine ai.ret ?_
  refine ah.ret ?_
  exact ah.jJ (⟨⟨(0,6,hp),h⟩,()⟩: {r // _} × _) (.cons _ (.refl _)) rfl rfl (df rfl) (df rfl)
 ·replace h:=ju aj h
  refine dE ?_
  refine ai.seq ?_
  refine aG ?_
  refine aD ?_
  refine cS 0 fH ?_
  obtain⟨aK,cF,h⟩:=ao.bX h
  refine ag.gW (eP.gZ 1 rfl F9 (DT cF) ⟨aa rfl,aa rfl,trivial⟩) rfl rfl rfl ?_
  refine aD ?_
  refine fS ?_
  refine fS ?_
  refine dI hP fun bn=> ?_
  refine cP 0 cZ ?_
  refine aT ?_
  refine bY ?_
  refine aD ?_
  refine aV ?_
  refine ai.cond (aa rfl) (fun aj=> ?_) (fun aj=> ?_)
  ·replace h:=jt aj h
   refine aG ?_
   refine aT ?_
   refine aT ?_
   refine aV ?_
   refine ai.ret ?_
   refine ah.ret ?_
   exact ah.jJ (⟨⟨(0,17,hp),h⟩,()⟩: {r // _} × _) (.cons _ (.cons _ (.refl _))) rfl rfl (df rfl) (df rfl)
  ·replace h:=ju aj h
   refine dE ?_
   refine ai.seq ?_
   refine ai.seq ?_
   obtain⟨bk,gQ,h⟩:=ao.bX h
   obtain⟨b1,hY,h⟩:=ao.bX h
   refine jh [0,1,2,4,6,7,8,9,10,12,13,14,15,16,17,18,19,20,21,22,23,24] ?_
   refine ai.pI 2 mixed (bb 25 [] [] _ :: ⟨some 26,(0 :: []),[],[],fun _=>I.of (bk),fun _ _=>⟨none,.dead⟩⟩ :: bb 27 [] [] _ :: bb 28 [] [] _ :: bb 29 (3 :: []) (1 :: []) _ :: ⟨some 30,(2 :: 4 :: []),[],[],fun _=>I.of (b1),fun _ _=>⟨none,.dead⟩⟩ :: bb 31 (1 :: 5 :: []) [] _ :: []) _ (0 :: 1 :: 2 :: 4 :: 6 :: 7 :: 8 :: 9 :: 10 :: 12 :: 13 :: 14 :: 15 :: 16 :: 17 :: 18 :: 19 :: 20 :: 21 :: 22 :: 23 :: 24 :: []) rfl rfl (by kernel_rfl) (by kernel_rfl) ⟨cl.q (fi),?_,cl.q (fi),cl.q (e6 (a1 tr)),cl.q (mQ 1 p8 bP),?_,cl.q (uP nX),trivial⟩ fun en=> ?_
   ·intro hd E' av aw an cX
    refine ag.gW (eP.gZ 2 (cX.trans rfl) L9 (Ii gQ) ⟨aa (aw _ _ rfl),trivial⟩) rfl rfl rfl ?_
    refine ag.nil ?_
    exact ah.fin (ee []) rfl rfl
   ·intro hd E' av aw an cX
    refine ag.gW (eP.gZ 2 (cX.trans rfl) Vx (OU hY) ⟨aa (aw _ _ rfl),aa (aw _ _ rfl),trivial⟩) rfl rfl rfl ?_
    refine ag.nil ?_
    exact ah.fin (ee []) rfl rfl
   refine ah.dT (L2:=(⟨some bn,.var (aK.1:aH)⟩ :: ⟨some a8,.var (al:bo)⟩ :: aY hp)) rfl ?_
   refine jS [0,1,2,4,6,7,8,9,10,12,13,14,15,16,17,18,19,20,21,22,23,24,25,26,27,28,29,30,31] ?_
   refine ah.next ?_
   refine ai.cond (aa rfl) (fun aj=> ?_) (fun aj=> ?_)
   ·replace h:=jt aj h
    refine aG ?_
    refine aT ?_
    refine aT ?_
    refine aV ?_
    refine ai.ret ?_
    refine ah.ret ?_
    exact ah.jJ (⟨⟨(0,18,hp),h⟩,()⟩: {r // _} × _) (.cons _ (.cons _ (.refl _))) rfl rfl (df rfl) (df rfl)
   ·replace h:=ju aj h
    refine dE ?_
    refine aG ?_
    refine aD ?_
    obtain⟨bS,cU,h⟩:=ao.bX h
    refine bp (de (dO (aa rfl) cU)) ?_
    refine ba (a1 Bx) ?_
    obtain⟨bl,dw,h⟩:=ao.bX h
    refine bp (e7 ((aO.id hL).comp xa) (r:=bl.kl) bP (aa rfl) (ei (n:=2) rfl (mA dw) rfl) rfl rfl) ?_
    refine aT ?_
    refine bY ?_
    refine aD ?_
    refine cS 1 fH ?_
    refine aD ?_
    refine aD ?_
    obtain⟨bD,dG,h⟩:=ao.bX h
    refine dd dG (cA (b:= { bQ:=al,b8:=bl.kl,kJ:=aP:aH }) rfl y8 hP (.cons m3 rfl (aa rfl) rfl (.cons m2 rfl (aa rfl) rfl (.cons H2 rfl (aa rfl) rfl (.nil))))) ?_
    refine ag.im 2 0 rfl Vy (O1 h) rfl rfl ⟨aa rfl,aa rfl,trivial⟩ rfl fun⟨⟨cm,h⟩,aM⟩=> ?_
    refine ag.dT (L2:=(⟨some bn,.var (aK.1:aH)⟩ :: ⟨some a8,.var (al:bo)⟩ :: aY cm.2)) rfl ?_
    refine bY ?_
    refine aD ?_
    refine bp (de (dO (aa rfl) cU)) ?_
    refine ba (a1 Bx) ?_
    obtain⟨b7,e9,h⟩:=ao.bX h
    refine bp (e7 ((aO.id hL).comp xa) (r:=b7.kl) bP (aa rfl) (ei (n:=2) rfl (mA e9) rfl) rfl rfl) ?_
    refine bL ep ?_
    refine bp (de (dO (aa rfl) cU)) ?_
    refine ba (a1 Bx) ?_
    obtain⟨cd,ir,h⟩:=ao.bX h
    refine ag.lY (k':=Cell.oO ({ b7 with kl:=bu (b7.kl + 1) } :hL)) 2 rfl ((aO.id hL).comp xa) (v:=(bu (b7.kl + 1):Int)) bP (aa rfl) (aa rfl) (mA e9) rfl rfl rfl rfl (aS ir) ?_
    refine bY ?_
    refine aD ?_
    refine aT ?_
    refine aT ?_
    refine aV ?_
    refine ai.ret ?_
    exact ah.jJ (⟨⟨(bl.kl,0,cd),h⟩,()⟩: {r // _} × _) (.cons _ (.cons _ (.refl _))) rfl rfl (df rfl) (df rfl)
end Go.Proofs.YtmnggbjcnoffeaaGreat
namespace Go.Proofs.YtmnggbjcnoffeaaGreat
open Go Gv
set_option linter.unusedVariables false
set_option linter.unusedSimpArgs false
set_option maxRecDepth 100000
set_option maxHeartbeats 2000000
theorem H9 {hp:aI Cell} {ab:Ref} {al:bo} {Q:aH × Int × (aI Cell)→Prop} (h:sO hp ab al Q):bF Tryz.prog 33 [I.of (ab),I.of (al)] ([] ++ aY hp) (δ:= {r:aH × Int × (aI Cell) // Q r} × Unit) (fun d=>I.eA [I.of (d.1.1.1),I.of (d.1.1.2.1)]) (fun d=> [] ++ aY d.1.1.2.2):=by
 unfold sO at h
 refine bF.of Tryz.func33 rfl Tryz.ntmps33 rfl fun W A=> ?_
 refine aG ?_
 refine cL fun a8=> ?_
 refine dI hP fun bn=> ?_
 refine aT ?_
 refine bY ?_
 refine aD ?_
 refine ba (a1 tr) ?_
 refine c1 1 p8 bP ?_
 obtain⟨aB,bG,h⟩:=ao.bX h
 refine ag.gW (eP.gZ 2 rfl Cl (AS bG) ⟨aa rfl,aa rfl,trivial⟩) rfl rfl rfl ?_
 refine aT ?_
 refine b2 ?_
 refine aG ?_
 refine aD ?_
 refine bp (lT Tryz.underlying37 (aa rfl)) ?_
 refine aV ?_
 refine ai.cond (aa rfl) (fun aj=> ?_) (fun aj=> ?_)
 ·replace h:=jt aj h
  refine aG ?_
  refine g7 y8 hP (default:aH) .nil ?_
  refine cP 0 cZ ?_
  refine aT ?_
  refine aV ?_
  refine ai.ret ?_
  refine ah.ret ?_
  exact ah.jJ (⟨⟨((default:aH),6,hp),h⟩,()⟩: {r // _} × _) (.cons _ (.cons _ (.refl _))) rfl rfl (jK (i:=0) cZ rfl rfl) (df rfl)
 ·replace h:=ju aj h
  refine dE ?_
  refine aG ?_
  refine aD ?_
  refine cS 1 fH ?_
  refine ag.im 2 0 rfl Vz (OB h) rfl rfl ⟨aa rfl,aa rfl,trivial⟩ rfl fun⟨⟨aK,h⟩,aM⟩=> ?_
  refine ag.dT (L2:=(⟨some bn,.var ((default:aH):aH)⟩ :: ⟨some a8,.var (al:bo)⟩ :: aY aK.2.2)) rfl ?_
  refine aD ?_
  refine fS ?_
  refine fS ?_
  refine dI hP fun c0=> ?_
  refine cP 0 cZ ?_
  refine aT ?_
  refine b2 ?_
  refine aG ?_
  refine aD ?_
  refine ba ko ?_
  refine aV ?_
  refine ai.cond (aa rfl) (fun aj=> ?_) (fun aj=> ?_)
  ·replace h:=jt aj h
   refine aG ?_
   refine g7 y8 hP (default:aH) .nil ?_
   refine cP 1 cZ ?_
   refine aT ?_
   refine aV ?_
   refine ai.ret ?_
   refine ah.ret ?_
   exact ah.jJ (⟨⟨((default:aH),16,aK.2.2),h⟩,()⟩: {r // _} × _) (.cons _ (.cons _ (.cons _ (.refl _)))) rfl rfl (jK (i:=1) cZ rfl rfl) (df rfl)
  ·replace h:=ju aj h
   refine dE ?_
   refine aG ?_
   refine cS 0 cZ ?_
   refine cP 1 cZ ?_
   refine aT ?_
   refine aV ?_
   refine ai.ret ?_
   exact ah.jJ (⟨⟨(aK.1,0,aK.2.2),h⟩,()⟩: {r // _} × _) (.cons _ (.cons _ (.cons _ (.refl _)))) rfl rfl (jK (i:=1) cZ rfl rfl) (df rfl)
theorem Iz {hp:aI Cell} {Q:Bool × (aI Cell)→Prop} (h:vr hp Q):bF Tryz.prog 31 [] ([] ++ aY hp) (δ:= {r:Bool × (aI Cell) // Q r} × Unit) (fun d=>I.of (d.1.1.1)) (fun d=> [] ++ aY d.1.1.2):=by
 unfold vr at h
 refine bF.of Tryz.func31 rfl Tryz.ntmps31 rfl fun W A=> ?_
 refine aG ?_
 refine aT ?_
 refine bY ?_
 obtain⟨aB,bG,h⟩:=ao.bX h
 refine et 0 za (xQ bG) fun aM=> ?_
 refine ag.bt 0 rfl ?_
 obtain⟨aK,cF,h⟩:=ao.bX h
 refine et 1 Ga (DI cF) fun eK=> ?_
 refine ag.im 1 0 rfl Gb (D7 h) rfl rfl ⟨aa rfl,trivial⟩ rfl fun⟨⟨bk,h⟩,eu⟩=> ?_
 refine ag.dT (L2:=(⟨some aM,.var (aK.2:bm)⟩ :: aY bk.2)) rfl ?_
 refine aT ?_
 refine bY ?_
 refine g7 sc l1 ({ (default:b6) with hi:=true } :b6) (iu sK .nil) ?_
 refine hI [({ (default:b6) with hi:=true } :b6)] Tryz.underlying47 hD l1 ?_
 obtain⟨bD,dG,h⟩:=ao.bX h
 refine dd dG (cA (b:=({ (default:bo) with dD:=1,c8:= [({ (default:b6) with hi:=true } :b6)],lx:=1 } :bo)) rfl Md r9 (.cons p8 rfl (bE 1) rfl (.cons m4 rfl (aa rfl) rfl (.cons DC rfl (bE 1) rfl (.nil))))) ?_
 refine dI r9 fun a8=> ?_
 refine cP 0 fH ?_
 refine bY ?_
 refine aD ?_
 refine cS 0 fH ?_
 refine ag.im 2 0 rfl Cq (AP h) rfl rfl ⟨aa rfl,aa rfl,bE 1,trivial⟩ rfl fun⟨⟨b1,h⟩,lr⟩=> ?_
 refine ag.dT (L2:=(⟨some a8,.var (bD:bo)⟩ :: ⟨some aM,.var (aK.2:bm)⟩ :: aY b1.2.2)) rfl ?_
 refine aD ?_
 refine fS ?_
 refine fS ?_
 refine aT ?_
 refine aT ?_
 refine bY ?_
 refine aD ?_
 refine cS 0 fH ?_
 refine ag.im 2 0 rfl Mq (H9 h) rfl rfl ⟨aa rfl,aa rfl,trivial⟩ rfl fun⟨⟨cm,h⟩,cY⟩=> ?_
 refine ag.dT (L2:=(⟨some a8,.var (bD:bo)⟩ :: ⟨some aM,.var (aK.2:bm)⟩ :: aY cm.2.2)) rfl ?_
 refine aD ?_
 refine fS ?_
 refine fS ?_
 refine dI hP fun bn=> ?_
 refine cP 0 cZ ?_
 refine aT ?_
 refine bY ?_
 refine aD ?_
 refine cS 1 fH ?_
 refine ag.im 3 0 rfl Cq (AP h) rfl rfl ⟨aa rfl,aa rfl,bE 1,trivial⟩ rfl fun⟨⟨cD,h⟩,kD⟩=> ?_
 refine ag.dT (L2:=(⟨some bn,.var (cm.1:aH)⟩ :: ⟨some a8,.var (bD:bo)⟩ :: ⟨some aM,.var (aK.2:bm)⟩ :: aY cD.2.2)) rfl ?_
 refine aD ?_
 refine fS ?_
 refine fS ?_
 refine aT ?_
 refine aT ?_
 refine bY ?_
 refine aD ?_
 refine bL gP ?_
 refine aD ?_
 refine eB cj ?_
 refine ji gP ?_
 refine lI ?_
 refine aD ?_
 refine eB cj ?_
 refine ji gP ?_
 refine lI ?_
 refine aD ?_
 refine eB cj ?_
 refine ji gP ?_
 refine lI ?_
 refine aD ?_
 refine eB cj ?_
 refine ji gP ?_
 obtain⟨dp,hG,h⟩:=ao.bX h
 refine dd hG (oH (aa rfl) (aa rfl) (fun h=>h)) ?_
 refine aT ?_
 refine aV ?_
 refine ai.ret ?_
 exact ah.ez (⟨⟨(dp,cD.2.2),h⟩,()⟩: {r // _} × _) (.cons _ (.cons _ (.cons _ (.refl _)))) rfl rfl (df rfl)
end Go.Proofs.YtmnggbjcnoffeaaGreat
namespace Go.Proofs.YtmnggbjcnoffeaaGreat
open Go Gv
set_option linter.unusedVariables false
set_option linter.unusedSimpArgs false
set_option maxRecDepth 100000
set_option maxHeartbeats 2000000
theorem OX {hp:aI Cell} {ab:List (BitVec 8)} {al:List (BitVec 8)} {aP:Int} {Q:Bool × (aI Cell)→Prop} (h:xA hp ab al aP Q):bF Tryz.prog 4 [I.of (ab),I.of (al),I.of (aP)] ([] ++ aY hp) (δ:= {r:Bool × (aI Cell) // Q r} × Unit) (fun d=>I.of (d.1.1.1)) (fun d=> [] ++ aY d.1.1.2):=by
 unfold xA at h
 refine bF.of Tryz.func4 rfl Tryz.ntmps4 rfl fun W A=> ?_
 refine aG ?_
 refine aT ?_
 refine bY ?_
 refine aD ?_
 obtain⟨aB,bG,h⟩:=ao.bX h
 refine et 0 za (xQ bG) fun aM=> ?_
 refine ag.bt 0 rfl ?_
 obtain⟨aK,cF,h⟩:=ao.bX h
 refine et 1 Ga (DI cF) fun eK=> ?_
 refine aD ?_
 obtain⟨bk,gQ,h⟩:=ao.bX h
 refine et 0 za (xQ gQ) fun eu=> ?_
 refine dI y7 fun a8=> ?_
 refine cP 0 hC ?_
 refine aT ?_
 refine bY ?_
 refine cS 0 hC ?_
 refine ag.im 3 0 rfl Gb (D7 h) rfl rfl ⟨aa rfl,trivial⟩ rfl fun⟨⟨b1,h⟩,lr⟩=> ?_
 refine ag.dT (L2:=(⟨some a8,.var (aK.1:aZ)⟩ :: ⟨some eu,.var (bk:bm)⟩ :: ⟨some aM,.var (aK.2:bm)⟩ :: aY b1.2)) rfl ?_
 refine aT ?_
 refine b2 ?_
 obtain⟨cm,iv,h⟩:=ao.bX h
 obtain⟨bh,dF,h⟩:=ao.bX h
 refine ai.draw mixed 10 [some 25,some 26,some 27,some 28,some 29,some 30,some 31,some 32,some 33,some 10] [[],[0],[],[],[3],[4],[2,5],[1,6],[7],[]] [.val _,.val _,.val _,.val _,.val _,.val _,.val _,.val _,.val _,.new (.var (default:bw))] [false,false,false,false,false,false,false,false,false,false] (by kernel_rfl) rfl rfl rfl (fun du=>⟨H1 (a1 na),hl 0 m5 mL,dW,H1 (a1 na),hl 0 m5 mL,H1 (gO Tryz.underlying28),iM Mc (IF iv),qR dF Tryz.underlying28 fX,H1 (eG fX),Bp k6,trivial⟩) fun du=> ?_
 refine cP 0 fX ?_
 refine b2 ?_
 refine aG ?_
 refine aT ?_
 refine aV ?_
 refine ai.block ?_
 refine ai.BL (σ:=Int × bm × (aI Cell)) (ε:=(Int × Bool × bm × (aI Cell)) ⊕ (Int × Bool × Int × Int × Bool × Bool × bm × (aI Cell))) (γ:=Unit) (δ:=Unit) h (fun s1 ay=> [(0,I.of (ab)),(1,I.of (al)),(2,I.of (aP)),(6,I.of (false)),(7,I.eq (.pointer (some ⟨a8,0,none⟩))),(8,I.eq (.pointer (some ⟨eu,0,none⟩))),(9,I.of (b1.1)),(10,I.eq (.pointer (some ⟨(du 9),0,none⟩))),(11,I.of (s1.1))]) (fun s1 ay=>(⟨some (du 9),.var (aN aK.1.bA bh:bw)⟩ :: ⟨some a8,.var (aK.1:aZ)⟩ :: ⟨some eu,.var (s1.2.1:bm)⟩ :: ⟨some aM,.var (aK.2:bm)⟩ :: aY s1.2.2)) (fun cY=>Sum.elim (fun cY=>Exit.exit 0) (fun cY=>Exit.ret) cY) (fun cY ay=>Sum.elim (fun cY=> [(0,I.of (ab)),(1,I.of (al)),(2,I.of (aP)),(6,I.of (false)),(7,I.eq (.pointer (some ⟨a8,0,none⟩))),(8,I.eq (.pointer (some ⟨eu,0,none⟩))),(9,I.of (b1.1)),(10,I.eq (.pointer (some ⟨(du 9),0,none⟩))),(11,I.of (cY.1)),(39,I.of (cY.2.1))]) (fun cY=> [(0,I.of (ab)),(1,I.of (al)),(2,I.of (aP)),(6,I.of (false)),(7,I.eq (.pointer (some ⟨a8,0,none⟩))),(8,I.eq (.pointer (some ⟨eu,0,none⟩))),(9,I.of (b1.1)),(10,I.eq (.pointer (some ⟨(du 9),0,none⟩))),(11,I.of (cY.1)),(14,I.of (cY.2.1)),(15,I.of (cY.2.2.1)),(17,I.of (cY.2.2.2.1)),(39,I.of (cY.2.2.2.2.1)),(62,I.of (cY.2.2.2.2.2.1))]) cY) (fun cY ay=>Sum.elim (fun cY=>(⟨some (du 9),.var (aN aK.1.bA bh:bw)⟩ :: ⟨some a8,.var (aK.1:aZ)⟩ :: ⟨some eu,.var (cY.2.2.1:bm)⟩ :: ⟨some aM,.var (aK.2:bm)⟩ :: aY cY.2.2.2)) (fun cY=>(⟨some (du 9),.var (aN aK.1.bA bh:bw)⟩ :: ⟨some a8,.var (aK.1:aZ)⟩ :: ⟨some eu,.var (cY.2.2.2.2.2.2.1:bm)⟩ :: ⟨some aM,.var (aK.2:bm)⟩ :: aY cY.2.2.2.2.2.2.2)) cY) () rfl (.same rfl (.same rfl (.same rfl (.same rfl (.same rfl (.same rfl (.same rfl (.same rfl (.same rfl .nil))))))))) (fun s1 R h ay=> ?_) (fun aE h ay=> ?_)
 ·refine ai.seq ?_
  refine aG ?_
  refine aD ?_
  refine bL gr ?_
  refine aD ?_
  refine eB cj ?_
  obtain⟨cD,iw,h⟩:=ao.bX h
  refine fD (fun hb=>bO.FL (z:=(s1.2.1:bm)) 2 37 rfl (fun _ _ _ h=>h.1 hb) rfl xY (lz F2 (H7 (h2 iw hb)) ⟨aa rfl,trivial⟩)) ?_
  refine lI ?_
  refine aV ?_
  refine ai.cond (aa rfl) (fun aj=> ?_) (fun aj=> ?_)
  ·replace h:=jt aj h
   refine dE ?_
   refine ai.seq ?_
   refine ai.block ?_
   refine aG ?_
   refine aD ?_
   refine cS 1 hC ?_
   refine aD ?_
   refine ag.bt 2 rfl ?_
   obtain⟨ct,l7,h⟩:=ao.bX h
   refine et 1 Mr (Ia l7) fun kD=> ?_
   refine dI r9 fun bn=> ?_
   refine cP 0 fH ?_
   refine bY ?_
   refine aD ?_
   refine cS 0 fH ?_
   obtain⟨dy,l8,h⟩:=ao.bX h
   refine ag.gW (eP.gZ 5 rfl Ms (Ig l8) ⟨aa rfl,aa rfl,trivial⟩) rfl rfl rfl ?_
   refine aD ?_
   refine fS ?_
   refine fS ?_
   refine dI hP fun c0=> ?_
   refine cP 0 cZ ?_
   refine aT ?_
   refine bY ?_
   refine aD ?_
   refine ba (a1 nS) ?_
   refine c1 3 lv bP ?_
   obtain⟨e1,o0,h⟩:=ao.bX h
   refine ag.gW (eP.gZ 6 rfl Gc (DV o0) ⟨aa rfl,aa rfl,trivial⟩) rfl rfl rfl ?_
   refine aT ?_
   refine bY ?_
   refine aD ?_
   refine cS 1 fH ?_
   refine ag.im 6 0 rfl Cq (AP h) rfl rfl ⟨aa rfl,aa rfl,bE 1,trivial⟩ rfl fun⟨⟨dJ,h⟩,wR⟩=> ?_
   refine ag.dT (L2:=(⟨some c0,.var (dy.1:aH)⟩ :: ⟨some bn,.var (ct.1:bo)⟩ :: ⟨some eu,.var (ct.2:bm)⟩ :: ⟨some (du 9),.var (aN aK.1.bA bh:bw)⟩ :: ⟨some a8,.var (aK.1:aZ)⟩ :: ⟨some aM,.var (aK.2:bm)⟩ :: aY dJ.2.2)) rfl ?_
   refine aD ?_
   refine fS ?_
   refine fS ?_
   refine aT ?_
   refine aT ?_
   refine b2 ?_
   refine ai.block ?_
   refine aG ?_
   refine aD ?_
   refine aD ?_
   refine eB cj ?_
   refine ji oG ?_
   refine lI ?_
   refine aT ?_
   refine aV ?_
   refine ai.cond (aa rfl) (fun aj=> ?_) (fun aj=> ?_)
   ·replace h:=jt aj h
    refine aG ?_
    refine aT ?_
    refine aV ?_
    refine ai.ret ?_
    refine ah.e4 ?_
    refine ah.ret ?_
    refine ah.e4 ?_
    refine ah.ret ?_
    refine ah.bt 4 rfl ?_
    refine ah.bt 4 rfl ?_
    refine ah.bt 3 rfl ?_
    refine ah.bt 3 rfl ?_
    exact ah.pE h () 2 rfl (by simp) rfl (.same rfl (.same rfl (.same rfl (.same rfl (.same rfl (.same rfl (.same rfl (.same rfl (.same rfl (.same rfl (.same rfl (.same rfl (.same rfl (.same rfl .nil))))))))))))))
   ·replace h:=ju aj h
    refine aG ?_
    refine aD ?_
    refine ba ko ?_
    refine aD ?_
    refine eB cj ?_
    refine eB (a1 BM) ?_
    refine fD (fun hb=>fE (i:=3) ((aO.id bw).comp rC) (r:=(aN aK.1.bA bh).fv) bP (c2 rfl hb) rfl rfl rfl) ?_
    refine ji gP ?_
    refine lI ?_
    refine aD ?_
    refine eB cj ?_
    refine ji oG ?_
    obtain⟨bD,dG,h⟩:=ao.bX h
    refine dd dG (oH (aa rfl) (aa rfl) (fun h=>h)) ?_
    refine aT ?_
    refine aV ?_
    refine ai.cond (aa rfl) (fun aj=> ?_) (fun aj=> ?_)
    ·replace h:=jt aj h
     refine aG ?_
     refine aT ?_
     refine aV ?_
     refine ai.ret ?_
     refine ah.e4 ?_
     refine ah.ret ?_
     refine ah.e4 ?_
     refine ah.ret ?_
     refine ah.bt 4 rfl ?_
     refine ah.bt 4 rfl ?_
     refine ah.bt 3 rfl ?_
     refine ah.bt 3 rfl ?_
     exact ah.pE h () 2 rfl (by simp) rfl (.same rfl (.same rfl (.same rfl (.same rfl (.same rfl (.same rfl (.same rfl (.same rfl (.same rfl (.same rfl (.same rfl (.same rfl (.same rfl (.same rfl .nil))))))))))))))
    ·replace h:=ju aj h
     refine aG ?_
     refine aD ?_
     refine ba ko ?_
     refine aD ?_
     refine eB cj ?_
     refine eB (a1 BM) ?_
     refine fD (fun hb=>fE (i:=3) ((aO.id bw).comp rC) (r:=(aN aK.1.bA bh).fv) bP (c2 rfl hb) rfl rfl rfl) ?_
     refine ji gr ?_
     refine lI ?_
     refine aD ?_
     refine eB cj ?_
     refine ji oG ?_
     refine eB cj ?_
     refine ag.gg (fun hb=>cj (aa rfl)) rfl rfl rfl rfl rfl ?_
     refine ag.gg (fun hb=>a1 nS (aa rfl)) rfl rfl rfl rfl rfl ?_
     refine ag.gg (fun hb=>fE (i:=3) ((aO.id bw).comp lv) (r:=(aN aK.1.bA bh).bC) bP (c2 rfl hb) rfl rfl rfl) rfl rfl rfl rfl rfl ?_
     obtain⟨gv,oP,h⟩:=ao.bX h
     refine ag.Wl (fun hb=>eP.gZ 6 rfl Gc (DV (h2 oP (decide_eq_true hb))) ⟨c2 rfl hb,c2 rfl hb,trivial⟩) rfl rfl rfl rfl rfl ?_
     refine ag.gg (fun hb=>cj (aa rfl)) rfl rfl rfl rfl rfl ?_
     refine ag.gg (fun hb=>ep (c2 rfl hb) (bE 1)) rfl rfl rfl rfl rfl ?_
     refine ag.gg (fun hb=>oG (c2 rfl hb) (c2 rfl hb)) rfl rfl rfl rfl rfl ?_
     refine fD (fun hb=>y0 (c2 rfl hb) (aa rfl) (fun h=>⟨hb,h⟩)) ?_
     obtain⟨dp,hG,h⟩:=ao.bX h
     refine dd hG (oH (aa rfl) (aa rfl) (fun h=>h)) ?_
     refine aT ?_
     refine aV ?_
     refine ai.cond (aa rfl) (fun aj=> ?_) (fun aj=> ?_)
     ·replace h:=jt aj h
      refine aG ?_
      refine aT ?_
      refine aV ?_
      refine ai.ret ?_
      refine ah.e4 ?_
      refine ah.ret ?_
      refine ah.e4 ?_
      refine ah.ret ?_
      refine ah.bt 4 rfl ?_
      refine ah.bt 4 rfl ?_
      refine ah.bt 3 rfl ?_
      refine ah.bt 3 rfl ?_
      exact ah.pE h () 2 rfl (by simp) rfl (.same rfl (.same rfl (.same rfl (.same rfl (.same rfl (.same rfl (.same rfl (.same rfl (.same rfl (.same rfl (.same rfl (.same rfl (.same rfl (.same rfl .nil))))))))))))))
     ·replace h:=ju aj h
      refine ai.skip ?_
      refine ah.fF ?_
      refine ah.next ?_
      refine ai.seq ?_
      obtain⟨gH,oQ,h⟩:=ao.bX h
      refine jh [0,1,2,6,7,8,9,10,11,12,13,14,15,16,17,34,35,36,37,38,39,42,43,44,45,46,47,48,49,50,51,52,53,54,55,56,57,58,59,60,61,62,63,64,65,66,67,68,69,70,71,72,73,74,75,76,77,78,79,80,81,82,83,84,85,86,87,88,89,90,91,92,93,94,95,96,97,98,99,100,101,102] ?_
      refine ai.pI 6 mixed (bb 103 [] [] _ :: bb 104 [] [] _ :: bb 105 (1 :: []) (3 :: []) _ :: ⟨some 106,(0 :: 2 :: []),[],[],fun _=>I.of (gH),fun _ _=>⟨none,.dead⟩⟩ :: bb 107 [] [] _ :: bb 108 (4 :: []) (3 :: []) _ :: bb 109 (3 :: 5 :: []) [] _ :: []) _ (0 :: 1 :: 2 :: 6 :: 7 :: 8 :: 9 :: 10 :: 11 :: 12 :: 13 :: 14 :: 15 :: 16 :: 17 :: 34 :: 35 :: 36 :: 37 :: 38 :: 39 :: 42 :: 43 :: 44 :: 45 :: 46 :: 47 :: 48 :: 49 :: 50 :: 51 :: 52 :: 53 :: 54 :: 55 :: 56 :: 57 :: 58 :: 59 :: 60 :: 61 :: 62 :: 63 :: 64 :: 65 :: 66 :: 67 :: 68 :: 69 :: 70 :: 71 :: 72 :: 73 :: 74 :: 75 :: 76 :: 77 :: 78 :: 79 :: 80 :: 81 :: 82 :: 83 :: 84 :: 85 :: 86 :: 87 :: 88 :: 89 :: 90 :: 91 :: 92 :: 93 :: 94 :: 95 :: 96 :: 97 :: 98 :: 99 :: 100 :: 101 :: 102 :: []) rfl rfl (by kernel_rfl) (by kernel_rfl) ⟨cl.q (fi),cl.q (e6 (a1 nS)),cl.q (mQ 3 lv bP),?_,cl.q (e6 (a1 BM)),cl.q (mQ 3 rC bP),cl.q (uP qx),trivial⟩ fun en=> ?_
      ·intro hd E' av aw an cX
       refine ag.gW (eP.gZ 6 (cX.trans rfl) Gc (DV oQ) ⟨aa (aw _ _ rfl),aa (aw _ _ rfl),trivial⟩) rfl rfl rfl ?_
       refine ag.nil ?_
       exact ah.fin (ee []) rfl rfl
      refine ah.dT (L2:=(⟨some c0,.var (dy.1:aH)⟩ :: ⟨some bn,.var (ct.1:bo)⟩ :: ⟨some eu,.var (ct.2:bm)⟩ :: ⟨some (du 9),.var (aN aK.1.bA bh:bw)⟩ :: ⟨some a8,.var (aK.1:aZ)⟩ :: ⟨some aM,.var (aK.2:bm)⟩ :: aY dJ.2.2)) rfl ?_
      refine jS [0,1,2,6,7,8,9,10,11,12,13,14,15,16,17,34,35,36,37,38,39,42,43,44,45,46,47,48,49,50,51,52,53,54,55,56,57,58,59,60,61,62,63,64,65,66,67,68,69,70,71,72,73,74,75,76,77,78,79,80,81,82,83,84,85,86,87,88,89,90,91,92,93,94,95,96,97,98,99,100,101,102,103,104,105,106,107,108,109] ?_
      refine ah.next ?_
      refine ai.cond (aa rfl) (fun aj=> ?_) (fun aj=> ?_)
      ·replace h:=jt aj h
       refine aG ?_
       refine aT ?_
       refine aV ?_
       refine ai.ret ?_
       refine ah.e4 ?_
       refine ah.ret ?_
       refine ah.bt 4 rfl ?_
       refine ah.bt 4 rfl ?_
       refine ah.bt 3 rfl ?_
       refine ah.bt 3 rfl ?_
       exact ah.pE h () 2 rfl (by simp) rfl (.same rfl (.same rfl (.same rfl (.same rfl (.same rfl (.same rfl (.same rfl (.same rfl (.same rfl (.same rfl (.same rfl (.same rfl (.same rfl (.same rfl .nil))))))))))))))
      ·replace h:=ju aj h
       refine ai.skip ?_
       refine ah.fF ?_
       refine ah.next ?_
       refine ai.cO ?_
       refine aD ?_
       refine bL ep ?_
       refine aT ?_
       refine ag.nil ?_
       refine ah.bt 4 rfl ?_
       refine ah.bt 4 rfl ?_
       refine ah.bt 3 rfl ?_
       refine ah.bt 3 rfl ?_
       exact ah.vM h () 2 rfl (.same rfl (.same rfl (.same rfl (.same rfl (.same rfl (.same rfl (.same rfl (.same rfl (.same rfl .nil)))))))))
  ·replace h:=ju aj h
   refine ai.exit ?_
   refine ah.exit ?_
   exact ah.pE h () 0 rfl (by simp) rfl (.same rfl (.same rfl (.same rfl (.same rfl (.same rfl (.same rfl (.same rfl (.same rfl (.same rfl (.same rfl .nil))))))))))
 ·rcases aE with aE | aE
  ·simp only [Sum.elim_inl] at h
   refine ah.h4 ?_
   refine ah.next ?_
   refine aG ?_
   refine ag.im 4 0 rfl Mt (Iz h) rfl rfl trivial rfl fun⟨⟨gj,h⟩,Ac⟩=> ?_
   refine ag.dT (L2:=(⟨some (du 9),.var (aN aK.1.bA bh:bw)⟩ :: ⟨some a8,.var (aK.1:aZ)⟩ :: ⟨some eu,.var (aE.2.2.1:bm)⟩ :: ⟨some aM,.var (aK.2:bm)⟩ :: aY gj.2)) rfl ?_
   refine aT ?_
   refine aV ?_
   refine ai.ret ?_
   exact ah.ez (⟨⟨(gj.1,gj.2),h⟩,()⟩: {r // _} × _) (.cons _ (.cons _ (.cons _ (.cons _ (.refl _))))) rfl rfl (df rfl)
  ·simp only [Sum.elim_inr] at h
   refine ah.e4 ?_
   refine ah.ret ?_
   exact ah.ez (⟨⟨(false,aE.2.2.2.2.2.2.2),h⟩,()⟩: {r // _} × _) (.cons _ (.cons _ (.cons _ (.cons _ (.refl _))))) rfl rfl (df rfl)
end Go.Proofs.YtmnggbjcnoffeaaGreat
namespace Go.Proofs.YtmnggbjcnoffeaaGreat
open Go Gv
set_option linter.unusedVariables false
set_option linter.unusedSimpArgs false
set_option maxRecDepth 100000
set_option maxHeartbeats 2000000
theorem OC {hp:aI Cell} {ab:List (BitVec 8)} {al:List (BitVec 8)} {Q:Bool × (aI Cell)→Prop} (h:xn hp ab al Q):bF Tryz.prog 5 [I.of (ab),I.of (al)] ([] ++ aY hp) (δ:= {r:Bool × (aI Cell) // Q r} × Unit) (fun d=>I.of (d.1.1.1)) (fun d=> [] ++ aY d.1.1.2):=by
 unfold xn at h
 refine bF.of Tryz.func5 rfl Tryz.ntmps5 rfl fun W A=> ?_
 refine aG ?_
 refine aT ?_
 refine bY ?_
 refine aD ?_
 obtain⟨aB,bG,h⟩:=ao.bX h
 refine et 0 za (xQ bG) fun aM=> ?_
 refine ag.bt 0 rfl ?_
 obtain⟨aK,cF,h⟩:=ao.bX h
 refine et 1 Ga (DI cF) fun eK=> ?_
 refine aD ?_
 obtain⟨bk,gQ,h⟩:=ao.bX h
 refine et 0 za (xQ gQ) fun eu=> ?_
 refine dI y7 fun a8=> ?_
 refine cP 0 hC ?_
 refine aT ?_
 refine bY ?_
 refine cS 0 hC ?_
 refine ag.im 3 0 rfl Gb (D7 h) rfl rfl ⟨aa rfl,trivial⟩ rfl fun⟨⟨b1,h⟩,lr⟩=> ?_
 refine ag.dT (L2:=(⟨some a8,.var (aK.1:aZ)⟩ :: ⟨some eu,.var (bk:bm)⟩ :: ⟨some aM,.var (aK.2:bm)⟩ :: aY b1.2)) rfl ?_
 refine aT ?_
 refine bY ?_
 refine aT ?_
 refine b2 ?_
 refine aG ?_
 refine aT ?_
 refine aV ?_
 refine ai.block ?_
 refine ai.BL (σ:=Int × Int × bm × (aI Cell)) (ε:=(Int × Int × Bool × bm × (aI Cell)) ⊕ (Int × Int × Int × Int × Bool × Bool × Bool × Bool × Bool × bm × (aI Cell))) (γ:=Unit) (δ:=Unit) h (fun s1 ay=> [(0,I.of (ab)),(1,I.of (al)),(4,I.of (false)),(5,I.eq (.pointer (some ⟨a8,0,none⟩))),(6,I.eq (.pointer (some ⟨eu,0,none⟩))),(7,I.of (b1.1)),(8,I.of (s1.1)),(9,I.of (s1.2.1))]) (fun s1 ay=>(⟨some a8,.var (aK.1:aZ)⟩ :: ⟨some eu,.var (s1.2.2.1:bm)⟩ :: ⟨some aM,.var (aK.2:bm)⟩ :: aY s1.2.2.2)) (fun cY=>Sum.elim (fun cY=>Exit.exit 0) (fun cY=>Exit.ret) cY) (fun cY ay=>Sum.elim (fun cY=> [(0,I.of (ab)),(1,I.of (al)),(4,I.of (false)),(5,I.eq (.pointer (some ⟨a8,0,none⟩))),(6,I.eq (.pointer (some ⟨eu,0,none⟩))),(7,I.of (b1.1)),(8,I.of (cY.1)),(9,I.of (cY.2.1)),(27,I.of (cY.2.2.1))]) (fun cY=> [(0,I.of (ab)),(1,I.of (al)),(4,I.of (false)),(5,I.eq (.pointer (some ⟨a8,0,none⟩))),(6,I.eq (.pointer (some ⟨eu,0,none⟩))),(7,I.of (b1.1)),(8,I.of (cY.1)),(9,I.of (cY.2.1)),(11,I.of (cY.2.2.1)),(12,I.of (cY.2.2.2.1)),(14,I.of (cY.2.2.2.2.1)),(27,I.of (cY.2.2.2.2.2.1)),(37,I.of (cY.2.2.2.2.2.2.1)),(48,I.of (cY.2.2.2.2.2.2.2.1)),(79,I.of (cY.2.2.2.2.2.2.2.2.1))]) cY) (fun cY ay=>Sum.elim (fun cY=>(⟨some a8,.var (aK.1:aZ)⟩ :: ⟨some eu,.var (cY.2.2.2.1:bm)⟩ :: ⟨some aM,.var (aK.2:bm)⟩ :: aY cY.2.2.2.2)) (fun cY=>(⟨some a8,.var (aK.1:aZ)⟩ :: ⟨some eu,.var (cY.2.2.2.2.2.2.2.2.2.1:bm)⟩ :: ⟨some aM,.var (aK.2:bm)⟩ :: aY cY.2.2.2.2.2.2.2.2.2.2)) cY) () rfl (.same rfl (.same rfl (.same rfl (.same rfl (.same rfl (.same rfl (.same rfl (.same rfl .nil)))))))) (fun s1 R h ay=> ?_) (fun aE h ay=> ?_)
 ·refine ai.seq ?_
  refine aG ?_
  refine aD ?_
  refine bL gr ?_
  refine aD ?_
  refine eB cj ?_
  obtain⟨cm,iv,h⟩:=ao.bX h
  refine fD (fun hb=>bO.FL (z:=(s1.2.2.1:bm)) 1 25 rfl (fun _ _ _ h=>h.1 hb) rfl xY (lz F2 (H7 (h2 iv hb)) ⟨aa rfl,trivial⟩)) ?_
  refine lI ?_
  refine aV ?_
  refine ai.cond (aa rfl) (fun aj=> ?_) (fun aj=> ?_)
  ·replace h:=jt aj h
   refine dE ?_
   refine ai.seq ?_
   refine ai.block ?_
   refine ai.seq ?_
   obtain⟨cD,iw,h⟩:=ao.bX h
   obtain⟨ct,l7,h⟩:=ao.bX h
   refine ai.LK 1 3 ?_
   refine jh [0,1,4,5,6,7,8,9,22,23,24,25,26,27] ?_
   refine ai.pI 4 mixed (bb 30 [] [] _ :: bb 31 [] (0 :: []) _ :: bb 32 [] [] _ :: ⟨some 33,(2 :: []),(1 :: []),(1 :: []),fun _=>I.of (cD.1),fun hd _=>⟨some eu,.var (cD.2:bm)⟩⟩ :: ⟨some 34,(0 :: 1 :: 3 :: []),(1 :: []),(1 :: []),fun _=>I.of (ct.1),fun hd _=>⟨some eu,.var (ct.2:bm)⟩⟩ :: ⟨some 10,[],(3 :: []),(3 :: []),fun hd=>I.eq (.pointer (some ⟨((hd 5 0).getD 0),0,none⟩)),fun hd _=>⟨some ((hd 5 0).getD 0),.var ((default:bo):bo)⟩⟩ :: ⟨none,(4 :: 5 :: []),(3 :: []),(3 :: []),fun _=>I.any,fun hd _=>⟨some ((hd 5 0).getD 0),.var (ct.1:bo)⟩⟩ :: []) _ (0 :: 1 :: 4 :: 5 :: 6 :: 7 :: 8 :: 9 :: 22 :: 23 :: 24 :: 25 :: 26 :: 27 :: []) rfl rfl (by kernel_rfl) (by kernel_rfl) ⟨cl.q (fi),cl.q (nq 0 hC),cl.q (fi),?_,?_,?_,?_,trivial⟩ fun en=> ?_
   ·intro hd E' av aw an cX
    refine ag.bt 1 (an 1 _ rfl rfl) ?_
    refine ag.k3 (Lin:= [⟨some eu,.var (s1.2.2.1:bm)⟩]) (Lr:=av.eraseIdx 1) fP (fL iw) ⟨aa (aw _ _ rfl),bE 4,trivial⟩ rfl fun kD=> ?_
    refine ag.nil ?_
    refine ah.back 1 (an 1 _ rfl rfl) ?_
    exact ah.fin (ee []) rfl rfl
   ·intro hd E' av aw an cX
    refine ag.bt 1 (an 1 _ rfl rfl) ?_
    refine ag.k3 (Lin:= [⟨some eu,.var (cD.2:bm)⟩]) (Lr:=av.eraseIdx 1) Mr (Ia l7) ⟨aa (aw _ _ rfl),aa (aw _ _ rfl),aa (aw _ _ rfl),trivial⟩ rfl fun wR=> ?_
    refine ag.nil ?_
    refine ah.back 1 (an 1 _ rfl rfl) ?_
    exact ah.fin (ee []) rfl rfl
   ·intro hd E' av aw an cX
    refine dI r9 fun bn=> ?_
    refine ag.nil ?_
    refine ah.place 3 (an 3 _ rfl rfl) ?_
    exact ah.fin (ee [some bn]) rfl rfl
   ·intro hd E' av aw an cX
    refine ag.store (i:=3) (aO.id bo) (v:=(ct.1:bo)) (b':=(ct.1:bo)) fH (aa (aw _ _ rfl)) (aa (aw _ _ rfl)) (an 3 _ rfl rfl) rfl rfl ?_
    refine ag.nil ?_
    exact ah.fin (ee []) rfl rfl
   refine ah.dT (L2:=(⟨some a8,.var (aK.1:aZ)⟩ :: ⟨some eu,.var (ct.2:bm)⟩ :: ⟨some aM,.var (aK.2:bm)⟩ :: ⟨some ((en 5 0).getD 0),.var (ct.1:bo)⟩ :: aY s1.2.2.2)) rfl ?_
   refine jS [0,1,4,5,6,7,8,9,10,22,23,24,25,26,27,30,31,32,33,34] ?_
   refine ah.bt 3 rfl ?_
   refine ah.next ?_
   refine ai.seq ?_
   refine aG ?_
   refine aD ?_
   refine ag.bt 2 rfl ?_
   obtain⟨dy,l8,h⟩:=ao.bX h
   refine et 1 fP (fL l8) fun Ac=> ?_
   refine bL gP ?_
   refine aV ?_
   refine ai.cond (aa rfl) (fun aj=> ?_) (fun aj=> ?_)
   ·replace h:=jt aj h
    refine aG ?_
    refine aD ?_
    refine cS 1 fH ?_
    refine ag.im 4 0 rfl Mq (H9 h) rfl rfl ⟨aa rfl,aa rfl,trivial⟩ rfl fun⟨⟨e1,h⟩,pf⟩=> ?_
    refine ag.dT (L2:=(⟨some eu,.var (dy.2:bm)⟩ :: ⟨some ((en 5 0).getD 0),.var (ct.1:bo)⟩ :: ⟨some a8,.var (aK.1:aZ)⟩ :: ⟨some aM,.var (aK.2:bm)⟩ :: aY e1.2.2)) rfl ?_
    refine aV ?_
    refine ai.exit ?_
    refine ah.exit ?_
    refine ah.h4 ?_
    refine ah.next ?_
    refine ai.cO ?_
    refine aD ?_
    refine bL ep ?_
    refine aT ?_
    refine ag.nil ?_
    refine ah.bt 2 rfl ?_
    refine ah.bt 2 rfl ?_
    exact ah.vM h () 1 rfl (.same rfl (.same rfl (.same rfl (.same rfl (.same rfl (.same rfl (.same rfl (.same rfl .nil))))))))
   ·replace h:=ju aj h
    refine dE ?_
    refine aG ?_
    refine aD ?_
    refine cS 1 fH ?_
    refine ag.im 4 0 rfl Cq (AP h) rfl rfl ⟨aa rfl,aa rfl,bE 5,trivial⟩ rfl fun⟨⟨dJ,h⟩,CF⟩=> ?_
    refine ag.dT (L2:=(⟨some eu,.var (dy.2:bm)⟩ :: ⟨some ((en 5 0).getD 0),.var (ct.1:bo)⟩ :: ⟨some a8,.var (aK.1:aZ)⟩ :: ⟨some aM,.var (aK.2:bm)⟩ :: aY dJ.2.2)) rfl ?_
    refine aD ?_
    refine fS ?_
    refine fS ?_
    refine aT ?_
    refine aT ?_
    refine b2 ?_
    refine aG ?_
    refine aD ?_
    refine bL oG ?_
    refine aV ?_
    refine ai.cond (aa rfl) (fun aj=> ?_) (fun aj=> ?_)
    ·replace h:=jt aj h
     refine ai.exit ?_
     refine ah.exit ?_
     refine ah.h4 ?_
     refine ah.next ?_
     refine ai.cO ?_
     refine aD ?_
     refine bL ep ?_
     refine aT ?_
     refine ag.nil ?_
     refine ah.bt 2 rfl ?_
     refine ah.bt 2 rfl ?_
     exact ah.vM h () 1 rfl (.same rfl (.same rfl (.same rfl (.same rfl (.same rfl (.same rfl (.same rfl (.same rfl .nil))))))))
    ·replace h:=ju aj h
     refine dE ?_
     refine aG ?_
     refine aD ?_
     refine cS 1 fH ?_
     obtain⟨gv,oP,h⟩:=ao.bX h
     refine ag.gW (eP.gZ 4 rfl Ms (Ig oP) ⟨aa rfl,aa rfl,trivial⟩) rfl rfl rfl ?_
     refine aD ?_
     refine fS ?_
     refine fS ?_
     refine dI hP fun c0=> ?_
     refine cP 0 cZ ?_
     refine aT ?_
     refine b2 ?_
     refine aG ?_
     refine aD ?_
     refine aD ?_
     refine bL yG ?_
     refine aD ?_
     refine eB cj ?_
     refine eB ko ?_
     refine sk ?_
     refine aD ?_
     refine eB (a1 nV) ?_
     refine fD (fun hb=>fE (i:=0) ((aO.id aH).comp m2) (r:=gv.1.b8) bP (c2 rfl hb) rfl rfl rfl) ?_
     refine eB cj ?_
     refine ji oG ?_
     refine sk ?_
     refine aD ?_
     refine eB (a1 Ss) ?_
     refine fD (fun hb=>fE (i:=0) ((aO.id aH).comp H2) (r:=gv.1.kJ) bP (c2 rfl hb) rfl rfl rfl) ?_
     refine ji oG ?_
     obtain⟨bD,dG,h⟩:=ao.bX h
     refine dd dG (y0 (aa rfl) (aa rfl) (fun h=>h)) ?_
     refine aD ?_
     refine eB cj ?_
     obtain⟨gH,oQ,h⟩:=ao.bX h
     refine ag.Ny (fun hb=>eP.gZ 5 rfl VA (OR (h2 oQ hb)) ⟨c2 rfl hb,trivial⟩) rfl rfl rfl rfl rfl ?_
     refine eB cj ?_
     refine ji ep ?_
     refine ji oG ?_
     refine sk ?_
     refine aV ?_
     refine ai.cond (aa rfl) (fun aj=> ?_) (fun aj=> ?_)
     ·replace h:=jt aj h
      refine aG ?_
      refine aT ?_
      refine aV ?_
      refine ai.ret ?_
      refine ah.ret ?_
      refine ah.e4 ?_
      refine ah.ret ?_
      refine ah.bt 3 rfl ?_
      refine ah.bt 3 rfl ?_
      refine ah.bt 2 rfl ?_
      exact ah.pE h () 2 rfl (by simp) rfl (.same rfl (.same rfl (.same rfl (.same rfl (.same rfl (.same rfl (.same rfl (.same rfl (.same rfl (.same rfl (.same rfl (.same rfl (.same rfl (.same rfl (.same rfl .nil)))))))))))))))
     ·replace h:=ju aj h
      refine dE ?_
      refine ai.cO ?_
      refine aD ?_
      refine aT ?_
      refine ag.nil ?_
      refine ah.fF ?_
      refine ah.next ?_
      refine ai.cO ?_
      refine aD ?_
      refine bL ep ?_
      refine aT ?_
      refine ag.nil ?_
      refine ah.bt 3 rfl ?_
      refine ah.bt 3 rfl ?_
      refine ah.bt 2 rfl ?_
      exact ah.vM h () 2 rfl (.same rfl (.same rfl (.same rfl (.same rfl (.same rfl (.same rfl (.same rfl (.same rfl .nil))))))))
  ·replace h:=ju aj h
   refine ai.exit ?_
   refine ah.exit ?_
   exact ah.pE h () 0 rfl (by simp) rfl (.same rfl (.same rfl (.same rfl (.same rfl (.same rfl (.same rfl (.same rfl (.same rfl (.same rfl .nil)))))))))
 ·rcases aE with aE | aE
  ·simp only [Sum.elim_inl] at h
   refine ah.h4 ?_
   refine ah.next ?_
   refine aG ?_
   refine ag.im 3 0 rfl Mt (Iz h) rfl rfl trivial rfl fun⟨⟨gj,h⟩,Wh⟩=> ?_
   refine ag.dT (L2:=(⟨some a8,.var (aK.1:aZ)⟩ :: ⟨some eu,.var (aE.2.2.2.1:bm)⟩ :: ⟨some aM,.var (aK.2:bm)⟩ :: aY gj.2)) rfl ?_
   refine aT ?_
   refine aV ?_
   refine ai.ret ?_
   exact ah.ez (⟨⟨(gj.1,gj.2),h⟩,()⟩: {r // _} × _) (.cons _ (.cons _ (.cons _ (.refl _)))) rfl rfl (df rfl)
  ·simp only [Sum.elim_inr] at h
   refine ah.e4 ?_
   refine ah.ret ?_
   exact ah.ez (⟨⟨(false,aE.2.2.2.2.2.2.2.2.2.2),h⟩,()⟩: {r // _} × _) (.cons _ (.cons _ (.cons _ (.refl _)))) rfl rfl (df rfl)
end Go.Proofs.YtmnggbjcnoffeaaGreat
