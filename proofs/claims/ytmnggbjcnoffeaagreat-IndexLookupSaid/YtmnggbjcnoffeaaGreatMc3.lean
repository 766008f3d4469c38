/-
  Each function meets its functional program. Conditions: none.
-/
import Derived.Test.YtmnggbjcnoffeaaGreatMc0
import Derived.Test.YtmnggbjcnoffeaaGreatMc1
import Derived.Test.YtmnggbjcnoffeaaGreatMd
namespace Go.Proofs.YtmnggbjcnoffeaaGreat
open Go Gv
set_option linter.unusedVariables false
set_option linter.unusedSimpArgs false
set_option maxRecDepth 100000
set_option maxHeartbeats 2000000
theorem HM {J:Int} {aj:Int} {r:al} (h:uw J aj=some r):bE Tryz.prog 189 [I.of (J),I.of (aj)] (I.of (r)):=by
 unfold uw at h
 refine bE.of Tryz.func189 rfl Tryz.ntmps189 rfl fun W A=> ?_
 refine aA ?_
 refine cM et fun aR=> ?_
 refine b2 ?_
 refine aB ?_
 obtain⟨ak,bt,h⟩:=ay h
 refine ev KM (HO bt) ?_
 refine aM ?_
 refine b2 ?_
 refine aB ?_
 refine bd Bz ?_
 refine aB ?_
 refine bd vl ?_
 refine aM ?_
 refine b2 ?_
 refine aB ?_
 obtain⟨aO,cq,h⟩:=ay h
 refine ev E5 (Dr cq) ?_
 refine aB ?_
 refine aB ?_
 refine bd lT ?_
 obtain⟨bc,fb,h⟩:=ay h
 refine ev E5 (Dr fb) ?_
 obtain⟨br,fY,h⟩:=ay h
 refine ev SE (O7 fY) ?_
 refine ck 0 bV ?_
 refine aI ?_
 refine ag.ret ?_
 obtain rfl:=aH h
 exact ab.iT rfl (hc 0 bV)
theorem NQ {aj:Int} {aS:al} {cn:Ref} :x5 Tryz.prog 255 [I.ptr aj,I.ptr aS,I.ptr cn] (fun v:Int=>I.of v) (fun {σ ε} hq step b1=>r8 (σ:=σ) (ε:=ε) aj aS cn hq step b1):=by
 refine x5.of Tryz.func255 rfl Tryz.ntmps255 rfl ?_
 intro σ ε γ Ls Lx hq iY l8 step b1 g0 R h W A u rZ
 replace h:r8 aj aS cn hq step b1 R:=h
 unfold r8 at h
 refine aA ?_
 refine aT (c7 bo) ?_
 refine aB ?_
 refine aI ?_
 refine ag.block ?_
 refine ag.Ke (σ:=Int × (σ)) (ε:=(Int × Bool × (σ)) ⊕ (Int × Int × Int × Bool × Bool × Bool × (ε))) (γ:=γ) (δ:=γ) h (fun s1 aw=> [(0,I.eq u),(1,I.ptr aj),(2,I.ptr aS),(3,I.ptr cn),(7,I.of (aj)),(8,I.of (s1.1))]) (fun s1 aw=>(Ls s1.2 aw)) (fun az=>Sum.elim (fun az=>Exit.exit 0) (fun az=>Exit.ret) az) (fun az aw=>Sum.elim (fun az=> [(0,I.eq u),(1,I.ptr aj),(2,I.ptr aS),(3,I.ptr cn),(7,I.of (aj)),(8,I.of (az.1)),(9,I.of (az.2.1))]) (fun az=> [(0,I.eq u),(1,I.ptr aj),(2,I.ptr aS),(3,I.ptr cn),(5,I.of (az.1)),(6,I.of (az.2.1)),(7,I.of (aj)),(8,I.of (az.2.2.1)),(9,I.of (az.2.2.2.1)),(19,I.of (az.2.2.2.2.1)),(23,I.of (az.2.2.2.2.2.1))]) az) (fun az aw=>Sum.elim (fun az=>(Ls az.2.2 aw)) (fun az=>(Lx az.2.2.2.2.2.2 aw)) az) g0 rfl (.same rfl (.same rfl (.same rfl (.same rfl (.same rfl (.same rfl .nil)))))) (fun s1 R h aw=> ?_) (fun av h aw=> ?_)
 ·refine aA ?_
  refine bd dJ ?_
  refine bK ?_
  refine ag.cond (ad rfl) (fun ar=> ?_) (fun ar=> ?_)
  ·replace h:=q5 ar h
   refine cP ?_
   refine ag.seq ?_
   refine ag.block ?_
   refine aA ?_
   refine aB ?_
   refine aM ?_
   refine b2 ?_
   refine aM ?_
   refine bK ?_
   refine ag.seq ?_
   obtain⟨cW,eA,h⟩:=aC.cJ h
   obtain⟨cd,ff,h⟩:=aC.cJ h
   obtain⟨ak,bt,h⟩:=aC.cJ h
   refine ag.draw mixed 9 [some 11,some 12,some 13,some 14,some 15,some 16,some 17,some 18,some 19] [[],[],[1],[2],[3],[4],[],[5,6],[0,7]] [.val _,.val _,.val _,.val _,.val _,.val _,.val _,.val _,.val _] [false,false,false,false,false,false,false,false,false] (by kernel_rfl) rfl rfl rfl (fun c1=>⟨H1 (c7 bV),H1 (c7 KT),e0 fun L' ao=>eI (fv (ad rfl) eA),H1 (aQ u2),e0 fun L' ao=>hj ((aK.id fM).comp r9) (r:=cd.ey) bo (ad rfl) (mM (fun i e q=>ao i e q rfl) (KU (Ls:=Ls) (s:=s1.2) (g:=aw) 0 rfl l8 (nG ff) rfl)) rfl rfl,iq lT,c3,iq lT,fm KV (Ic bt),trivial⟩) fun c1=> ?_
   refine aI ?_
   obtain⟨bB,cz,h⟩:=aC.cJ h
   refine ag.cC (γ:=Unit) (fun a5=> [(0,I.eq u),(1,I.ptr aj),(2,I.ptr aS),(3,I.ptr cn),(5,I.of (s1.1)),(6,I.of (bB)),(7,I.of (aj)),(8,I.of (s1.1)),(9,I.of (decide (s1.1 < aj))),(19,I.of (ak))]) (fun a5=>(Ls s1.2 aw)) (ad rfl) (fun a5=> ?_) (fun hm ar=> ?_) (fun hm ar=> ?_)
   ·clear cz
    refine ab.next ?_
    refine aA ?_
    refine aB ?_
    refine aB ?_
    refine ai.RJ (Lin:= []) (Ls:=Ls) (Lx:=Lx) (step:=step) (s:=s1.2) (gg:=aw) rfl rZ rfl (ad rfl) h rfl (fun s2 h bA=> ?_) (fun c6 h bA=> ?_)
    ·simp only [Sum.elim_inl] at h
     refine ai.en (L2:=(Ls s2 bA)) rfl ?_
     refine aT iy ?_
     refine aI ?_
     refine ag.sO (ad rfl) (by first | rfl | (rw [hb]; rfl)) ?_
     refine ag.skip ?_
     refine ab.dz ?_
     refine ab.next ?_
     refine ag.cj ?_
     refine bd c8 ?_
     refine aB ?_
     refine ai.nil ?_
     exact ab.Kf h bA 0 rfl (.same rfl (.same rfl (.same rfl (.same rfl (.same rfl (.same rfl .nil))))))
    ·simp only [Sum.elim_inr] at h
     refine ai.en (L2:=(Lx c6 bA)) rfl ?_
     refine aT iy ?_
     refine aI ?_
     refine ag.E6 (ad rfl) (by first | rfl | (rw [hb]; rfl)) ?_
     refine ag.ret ?_
     refine ab.c5 ?_
     refine ab.ret ?_
     exact ab.EE h bA 0 rfl (by simp) rfl (.same rfl (.same rfl (.same rfl (.same rfl (.same rfl (.same rfl (.same rfl (.same rfl (.same rfl (.same rfl (.same rfl .nil)))))))))))
   ·have h:=gI ar cz
    refine ag.cj ?_
    refine aM ?_
    refine ai.nil ?_
    obtain rfl:=aH h
    exact df 0 (hm ())
   ·have h:=gJ ar cz
    refine ag.skip ?_
    obtain rfl:=aH h
    exact df 0 (hm ())
  ·replace h:=q6 ar h
   refine ag.exit ?_
   refine ab.exit ?_
   exact ab.EE h aw 0 rfl (by simp) rfl (.same rfl (.same rfl (.same rfl (.same rfl (.same rfl (.same rfl (.same rfl .nil)))))))
 ·rcases av with av | av
  ·simp only [Sum.elim_inl] at h
   refine ab.e4 ?_
   refine ab.sZ ?_
   exact ab.o8 (⟨⟨(.inl av.2.2:σ ⊕ ε),h⟩,aw⟩: {r // _} × _) (.refl _) rfl rfl
  ·simp only [Sum.elim_inr] at h
   refine ab.c5 ?_
   exact ab.o8 (⟨⟨(.inr av.2.2.2.2.2.2:σ ⊕ ε),h⟩,aw⟩: {r // _} × _) (.refl _) rfl rfl
theorem Hu {hp:a1 Cell} {aj:Int} {aS:al} {cn:Ref} :x6 Tryz.prog 255 [I.ptr aj,I.ptr aS,I.ptr cn] hp (fun v:Int=>I.of v) (fun {σ ε} =>pG (σ:=σ) (ε:=ε) hp aj aS cn):=by
 refine x6.of Tryz.func255 rfl Tryz.ntmps255 rfl ?_
 intro σ ε γ Ls Lx iY l8 step b1 g0 r h W A u rZ
 replace h:pG hp aj aS cn step b1=some r:=h
 unfold pG at h
 refine aA ?_
 refine aT (c7 bo) ?_
 refine aB ?_
 refine aI ?_
 refine ag.block ?_
 obtain⟨av,an,h⟩:=ay h
 refine ag.sR (σ:=Int × (σ)) (ε:=(Int × Bool × (σ)) ⊕ (Int × Int × Int × Bool × Bool × Bool × (ε))) (γ:=γ) (δ:=γ) an (fun s1 aw=> [(0,I.eq u),(1,I.ptr aj),(2,I.ptr aS),(3,I.ptr cn),(7,I.of (aj)),(8,I.of (s1.1))]) (fun s1 aw=>(Ls s1.2 aw)) (fun az=>Sum.elim (fun az=>Exit.exit 0) (fun az=>Exit.ret) az) (fun az aw=>Sum.elim (fun az=> [(0,I.eq u),(1,I.ptr aj),(2,I.ptr aS),(3,I.ptr cn),(7,I.of (aj)),(8,I.of (az.1)),(9,I.of (az.2.1))]) (fun az=> [(0,I.eq u),(1,I.ptr aj),(2,I.ptr aS),(3,I.ptr cn),(5,I.of (az.1)),(6,I.of (az.2.1)),(7,I.of (aj)),(8,I.of (az.2.2.1)),(9,I.of (az.2.2.2.1)),(19,I.of (az.2.2.2.2.1)),(23,I.of (az.2.2.2.2.2.1))]) az) (fun az aw=>Sum.elim (fun az=>(Ls az.2.2 aw)) (fun az=>(Lx az.2.2.2.2.2.2 aw)) az) g0 rfl (.same rfl (.same rfl (.same rfl (.same rfl (.same rfl (.same rfl .nil)))))) (fun s1 r h aw=> ?_) (fun aw=> ?_)
 ·clear an
  refine aA ?_
  refine bd dJ ?_
  refine bK ?_
  refine b4 h (fun h=>?_) fun h=>?_
  ·refine cP ?_
   refine ag.seq ?_
   refine ag.block ?_
   refine aA ?_
   refine aB ?_
   refine aM ?_
   refine b2 ?_
   refine aM ?_
   refine bK ?_
   refine ag.seq ?_
   obtain⟨cW,eA,h⟩:=ay h
   obtain⟨cd,ff,h⟩:=ay h
   obtain⟨ak,bt,h⟩:=ay h
   refine ag.draw mixed 9 [some 11,some 12,some 13,some 14,some 15,some 16,some 17,some 18,some 19] [[],[],[1],[2],[3],[4],[],[5,6],[0,7]] [.val _,.val _,.val _,.val _,.val _,.val _,.val _,.val _,.val _] [false,false,false,false,false,false,false,false,false] (by kernel_rfl) rfl rfl rfl (fun c1=>⟨H1 (c7 bV),H1 (c7 KT),e0 fun L' ao=>eI (fv (ad rfl) eA),H1 (aQ u2),e0 fun L' ao=>hj ((aK.id fM).comp r9) (r:=cd.ey) bo (ad rfl) (mM (fun i e q=>ao i e q rfl) (SF (Ls:=Ls) (s:=s1.2) (g:=aw) 0 rfl l8 (nG ff) rfl)) rfl rfl,iq lT,c3,iq lT,fm KV (Ic bt),trivial⟩) fun c1=> ?_
   refine aI ?_
   obtain⟨bB,cz,h⟩:=ay h
   refine ag.cC (γ:=Unit) (fun a5=> [(0,I.eq u),(1,I.ptr aj),(2,I.ptr aS),(3,I.ptr cn),(5,I.of (s1.1)),(6,I.of (bB)),(7,I.of (aj)),(8,I.of (s1.1)),(9,I.of (decide (s1.1 < aj))),(19,I.of (ak))]) (fun a5=>(Ls s1.2 aw)) (ad rfl) (fun a5=> ?_) (fun hm ar=> ?_) (fun hm ar=> ?_)
   ·clear cz
    refine ab.next ?_
    refine aA ?_
    refine aB ?_
    refine aB ?_
    obtain⟨aO,cq,h⟩:=ay h
    refine ai.yield (Lin:= []) (Ls:=Ls) (Lx:=Lx) (step:=step) (s:=s1.2) (gg:=aw) rfl rZ rfl (ad rfl) cq rfl (fun s2 aU bA=> ?_) (fun c6 aU bA=> ?_)
    ·subst aU; simp only [Sum.elim_inl] at h
     refine ai.en (L2:=(Ls s2 bA)) rfl ?_
     refine aT iy ?_
     refine aI ?_
     refine ag.sO (ad rfl) (by first | rfl | (rw [hb]; rfl)) ?_
     refine ag.skip ?_
     refine ab.dz ?_
     refine ab.next ?_
     refine ag.cj ?_
     refine bd c8 ?_
     refine aB ?_
     refine ai.nil ?_
     obtain rfl:=aH h
     exact fe bA 0
    ·subst aU; simp only [Sum.elim_inr] at h
     refine ai.en (L2:=(Lx c6 bA)) rfl ?_
     refine aT iy ?_
     refine aI ?_
     refine ag.E6 (ad rfl) (by first | rfl | (rw [hb]; rfl)) ?_
     refine ag.ret ?_
     refine ab.c5 ?_
     refine ab.ret ?_
     obtain rfl:=aH h
     exact dE bA 0
   ·have h:=gI ar cz
    refine ag.cj ?_
    refine aM ?_
    refine ai.nil ?_
    obtain rfl:=aH h
    exact df 0 (hm ())
   ·have h:=gJ ar cz
    refine ag.skip ?_
    obtain rfl:=aH h
    exact df 0 (hm ())
  ·refine ag.exit ?_
   refine ab.exit ?_
   obtain rfl:=aH h
   exact dE aw 0
 ·clear an
  rcases av with av | av
  ·simp only [Sum.elim_inl] at h
   refine ab.e4 ?_
   refine ab.sZ ?_
   obtain rfl:=aH h
   exact ab.o8 aw (.refl _) rfl rfl
  ·simp only [Sum.elim_inr] at h
   refine ab.c5 ?_
   obtain rfl:=aH h
   exact ab.o8 aw (.refl _) rfl rfl
theorem xe {J:aJ} {r:aJ} (h:m4 J=some r):bE Tryz.prog 87 [I.of (J)] (I.of (r)):=by
 unfold m4 at h
 refine bE.of Tryz.func87 rfl Tryz.ntmps87 rfl fun W A=> ?_
 refine aA ?_
 refine b8 fun aR=> ?_
 refine cM hn fun a0=> ?_
 refine b2 ?_
 refine aT (aQ jx) ?_
 refine bL 1 jd g9 ?_
 obtain⟨ak,bt,h⟩:=ay h
 refine ev SG (O8 bt) ?_
 refine aT (aQ jx) ?_
 refine po 1 jd g9 ?_
 refine b2 ?_
 refine cm 1 cO ?_
 refine ck 0 cO ?_
 refine aI ?_
 refine ag.ret ?_
 obtain rfl:=aH h
 exact ab.iT rfl (hc 0 cO)
end Go.Proofs.YtmnggbjcnoffeaaGreat
namespace Go.Proofs.YtmnggbjcnoffeaaGreat
open Go Gv
set_option linter.unusedVariables false
set_option linter.unusedSimpArgs false
set_option maxRecDepth 100000
set_option maxHeartbeats 2000000
theorem ux {J:al} {aj:al} {r:Int} (h:n5 J aj=some r):bE Tryz.prog 145 [I.of (J),I.of (aj)] (I.of (r)):=by
 unfold n5 at h
 refine bE.of Tryz.func145 rfl Tryz.ntmps145 rfl fun W A=> ?_
 refine aA ?_
 refine b8 fun aR=> ?_
 refine b8 fun a0=> ?_
 refine aM ?_
 refine bK ?_
 obtain⟨ak,bt,h⟩:=ay h
 obtain⟨aO,cq,h⟩:=ay h
 refine ag.draw mixed 6 [some 8,some 9,some 10,some 11,some 5,some 6] [[],[0],[],[2],[],[]] [.val _,.val _,.val _,.val _,.new (.var (default:Vector Bool 128)),.new (.var (default:Vector Bool 128))] [false,false,false,false,false,false] (by kernel_rfl) rfl rfl rfl (fun c1=>⟨e5 1 bV,fm vn (uL bt),e5 0 bV,fm vn (uL cq),o0 rm,o0 rm,trivial⟩) fun c1=> ?_
 refine ck 0 pb ?_
 refine ck 1 pb ?_
 refine bK ?_
 refine aA ?_
 refine aM ?_
 refine aI ?_
 refine ag.block ?_
 obtain⟨av,an,h⟩:=ay h
 refine gj (γ:=Unit) (δ:=Unit) an [0,1,2,3,5,6] (fun s1 aw=> [(4,I.of (0:Int)),(7,I.of (s1))]) (fun s1 aw=> []) (fun az=>Sum.elim (fun az=>Exit.exit 0) (fun az=>Exit.ret) az) (fun az aw=>Sum.elim (fun az=> [(4,I.of (0:Int)),(7,I.of (az.1)),(13,I.of (az.2))]) (fun az=> [(4,I.of (az.1)),(7,I.of (az.2.1)),(13,I.of (az.2.2.1)),(22,I.of (az.2.2.2.1)),(25,I.of (az.2.2.2.2))]) az) (fun az aw=>Sum.elim (fun az=> []) (fun az=> []) az) () (fun s1 r h aw=> ?_) fun aw=> ?_
 ·clear an
  refine ag.seq ?_
  refine aA ?_
  refine aB ?_
  refine bd kX ?_
  refine aI ?_
  refine b4 h (fun h=>?_) fun h=>?_
  ·refine cP ?_
   refine ag.seq ?_
   refine ag.block ?_
   refine ag.seq ?_
   obtain⟨aW,cc,h⟩:=ay h
   obtain⟨bR,cN,h⟩:=ay h
   refine ag.draw mixed 7 [some 16,some 17,some 18,some 19,some 20,some 21,some 22] [[],[0],[1],[],[3],[4],[2,5]] [.val _,.val _,.val _,.val _,.val _,.val _,.val _] [false,false,false,false,false,false,false] (by kernel_rfl) rfl rfl rfl (fun jk=>⟨c3,e0 fun L' ao=>fj (k:=aW) nN (ad rfl) (ad rfl) (cK cc),dI 0 ((aK.id (Vector Bool 128)).comp (aK.idx (α:=Bool) 128 aW (cK cc).1)) fk,c3,e0 fun L' ao=>fj (k:=bR) nN (ad rfl) (ad rfl) (cK cN),dI 1 ((aK.id (Vector Bool 128)).comp (aK.idx (α:=Bool) 128 bR (cK cN).1)) fk,iq (yx Tryz.underlying4),trivial⟩) fun jk=> ?_
   refine aI ?_
   refine b4 h (fun h=>?_) fun h=>?_
   ·refine ag.seq ?_
    refine aA ?_
    refine aB ?_
    obtain⟨dj,gp,h⟩:=ay h
    refine bj (fj (k:=dj) nN (ad rfl) (ad rfl) (cK gp)) ?_
    refine bL 1 ((aK.id (Vector Bool 128)).comp (aK.idx (α:=Bool) 128 dj (cK gp).1)) fk ?_
    refine aI ?_
    refine b4 h (fun h=>?_) fun h=>?_
    ·refine aA ?_
     refine aM ?_
     refine aI ?_
     refine ag.ret ?_
     refine ab.ret ?_
     refine ab.c5 ?_
     refine ab.ret ?_
     obtain rfl:=aH h
     exact dE () 0
    ·refine cP ?_
     refine aA ?_
     refine aM ?_
     refine aI ?_
     refine ag.ret ?_
     refine ab.c5 ?_
     refine ab.ret ?_
     obtain rfl:=aH h
     exact dE () 0
   ·refine ag.skip ?_
    refine ab.dz ?_
    refine ab.next ?_
    refine ag.cj ?_
    refine aB ?_
    refine bd lT ?_
    refine aM ?_
    refine ai.nil ?_
    obtain rfl:=aH h
    exact fe () 0
  ·refine ag.exit ?_
   refine ab.exit ?_
   obtain rfl:=aH h
   exact dE () 0
 ·clear an
  rcases av with av | av
  ·simp only [Sum.elim_inl] at h
   refine ab.e4 ?_
   refine ab.next ?_
   refine aA ?_
   refine aM ?_
   refine aI ?_
   refine ag.ret ?_
   obtain rfl:=aH h
   exact cv
  ·simp only [Sum.elim_inr] at h
   refine ab.c5 ?_
   refine ab.ret ?_
   obtain rfl:=aH h
   exact cv
end Go.Proofs.YtmnggbjcnoffeaaGreat
namespace Go.Proofs.YtmnggbjcnoffeaaGreat
open Go Gv
set_option linter.unusedVariables false
set_option linter.unusedSimpArgs false
set_option maxRecDepth 100000
set_option maxHeartbeats 2000000
theorem OD {J:ca} {aj:Int} {aS:Int} {cn:al} {r:Bool} (h:xn J aj aS cn=some r):bE Tryz.prog 107 [I.of (J),I.of (aj),I.of (aS),I.of (cn)] (I.of (r)):=by
 unfold xn at h
 refine bE.of Tryz.func107 rfl Tryz.ntmps107 rfl fun W A=> ?_
 refine aA ?_
 refine b8 fun aR=> ?_
 refine b8 fun a0=> ?_
 refine aM ?_
 refine bK ?_
 refine aA ?_
 refine aT (aQ rb) ?_
 refine bL 1 mm fk ?_
 refine aT iy ?_
 refine aI ?_
 refine b4 h (fun h=>?_) fun h=>?_
 ·refine aA ?_
  refine aB ?_
  refine bd kX ?_
  refine aB ?_
  refine dK cU ?_
  refine iW og ?_
  refine ig ?_
  refine aM ?_
  refine aI ?_
  refine ag.ret ?_
  refine ab.ret ?_
  obtain rfl:=aH h
  exact cv
 ·refine cP ?_
  refine ag.seq ?_
  refine aA ?_
  refine aB ?_
  refine aI ?_
  refine ag.block ?_
  refine aA ?_
  refine bd fz ?_
  refine aM ?_
  refine aI ?_
  refine b4 h (fun h=>?_) fun h=>?_
  ·refine aA ?_
   refine cm 0 bV ?_
   refine aT (aQ kU) ?_
   refine bL 1 iJ bV ?_
   refine bd (sN lS rfl o6 rfl) ?_
   refine aM ?_
   refine aI ?_
   refine ag.ret ?_
   refine ab.c5 ?_
   refine ab.ret ?_
   obtain rfl:=aH h
   exact cv
  ·refine aA ?_
   refine bd fz ?_
   refine aM ?_
   refine aI ?_
   refine b4 h (fun h=>?_) fun h=>?_
   ·refine ag.seq ?_
    obtain⟨ak,bt,h⟩:=ay h
    obtain⟨aO,cq,h⟩:=ay h
    refine ag.draw mixed 7 [some 30,some 31,some 32,some 33,some 34,some 9,some 10] [[],[0],[],[2],[3],[],[]] [.val _,.val _,.val _,.val _,.val _,.new (.var (default:Vector Bool 128)),.new (.var (default:Vector Bool 128))] [false,false,false,false,false,false,false] (by kernel_rfl) rfl rfl rfl (fun c1=>⟨e5 0 bV,fm vn (uL bt),H1 (aQ kU),dI 1 iJ bV,fm vn (uL cq),o0 rm,o0 rm,trivial⟩) fun c1=> ?_
    refine ck 0 pb ?_
    refine ck 1 pb ?_
    refine bK ?_
    refine aA ?_
    refine aB ?_
    refine aT (aQ nF) ?_
    refine bL 3 lO bo ?_
    refine bd lT ?_
    refine aM ?_
    refine aI ?_
    refine ag.block ?_
    obtain⟨av,an,h⟩:=ay h
    refine gj (γ:=Unit) (δ:=Unit) an [0,1,2,3,4,7,8,9,10,14,21,22,28] (fun s1 aw=> [(11,I.of (s1))]) (fun s1 aw=> []) (fun az=>Sum.elim (fun az=>Exit.exit 1) (fun az=>Exit.ret) az) (fun az aw=>Sum.elim (fun az=> [(11,I.of (az.1)),(41,I.of (az.2))]) (fun az=> [(11,I.of (az.1)),(41,I.of (az.2.1)),(58,I.of (az.2.2))]) az) (fun az aw=>Sum.elim (fun az=> []) (fun az=> []) az) () (fun s1 r h aw=> ?_) fun aw=> ?_
    ·clear an
     refine ag.seq ?_
     refine aA ?_
     refine aB ?_
     refine aB ?_
     refine bd dJ ?_
     refine aI ?_
     refine b4 h (fun h=>?_) fun h=>?_
     ·refine cP ?_
      refine ag.seq ?_
      refine ag.block ?_
      refine ag.seq ?_
      obtain⟨aW,cc,h⟩:=ay h
      obtain⟨bR,cN,h⟩:=ay h
      obtain⟨bg,dd,h⟩:=ay h
      refine ag.draw mixed 15 [some 44,some 45,some 46,some 47,some 48,some 49,some 50,some 51,some 52,some 53,some 54,some 55,some 56,some 57,some 58] [[],[0],[1],[2],[2,3],[2,4],[5],[6],[6,7],[6,8],[6],[6,10],[6,11],[6,9,12],[6,13]] [.val _,.val _,.val _,.val _,.val _,.val _,.val _,.val _,.val _,.val _,.val _,.val _,.val _,.val _,.val _] [false,false,false,false,false,false,false,false,false,false,false,false,false,false,false] (by kernel_rfl) rfl rfl rfl (fun jk=>⟨c3,iq kX,c3,dT fun L' ao=>fun hb=>cU (ad rfl),dT fun L' ao=>fun hb=>dJ (b3 rfl hb) (bD 128),e0 fun L' ao=>mE (ad rfl) (ad rfl) (fun h=>h),c3,dT fun L' ao=>fun hb=>cU (ad rfl),dT fun L' ao=>fun hb=>fj (k:=aW) nN (ad rfl) (b3 rfl hb) (cK (fC cc hb)),dT fun L' ao=>fun hb=>dP (i:=0) ((aK.id (Vector Bool 128)).comp (aK.idx (α:=Bool) 128 aW (cK (fC cc hb)).1)) (r:=bJ ak aW) fk (b3 rfl hb) (ao _ _ rfl rfl) rfl rfl,dT fun L' ao=>fun hb=>cU (ad rfl),dT fun L' ao=>fun hb=>fj (k:=bR) nN (ad rfl) (b3 rfl hb) (cK (fC cN hb)),dT fun L' ao=>fun hb=>dP (i:=1) ((aK.id (Vector Bool 128)).comp (aK.idx (α:=Bool) 128 bR (cK (fC cN hb)).1)) (r:=bJ aO bR) fk (b3 rfl hb) (ao _ _ rfl rfl) rfl rfl,dT fun L' ao=>fun hb=>yx Tryz.underlying4 (b3 rfl hb) (b3 rfl hb),qD dd fun L' ao=>mE (ad rfl) (ad rfl) (fun h=>h),trivial⟩) fun jk=> ?_
      refine aI ?_
      refine b4 h (fun h=>?_) fun h=>?_
      ·refine aA ?_
       refine aM ?_
       refine aI ?_
       refine ag.ret ?_
       refine ab.c5 ?_
       refine ab.ret ?_
       obtain rfl:=aH h
       exact dE () 0
      ·refine ag.skip ?_
       refine ab.dz ?_
       refine ab.next ?_
       refine ag.cj ?_
       refine aB ?_
       refine bd c8 ?_
       refine aM ?_
       refine ai.nil ?_
       obtain rfl:=aH h
       exact fe () 0
     ·refine ag.exit ?_
      refine ab.exit ?_
      obtain rfl:=aH h
      exact dE () 0
    ·clear an
     rcases av with av | av
     ·simp only [Sum.elim_inl] at h
      refine ab.e4 ?_
      refine ab.next ?_
      refine aA ?_
      refine aM ?_
      refine aI ?_
      refine ag.ret ?_
      refine ab.c5 ?_
      refine ab.ret ?_
      obtain rfl:=aH h
      exact cv
     ·simp only [Sum.elim_inr] at h
      refine ab.c5 ?_
      refine ab.ret ?_
      refine ab.c5 ?_
      refine ab.ret ?_
      obtain rfl:=aH h
      exact cv
   ·refine aA ?_
    refine bd fz ?_
    refine aM ?_
    refine aI ?_
    refine b4 h (fun h=>?_) fun h=>?_
    ·refine ag.seq ?_
     obtain⟨bc,fb,h⟩:=ay h
     refine ag.draw mixed 7 [some 61,some 62,some 63,some 64,some 65,some 66,some 67] [[],[],[1],[0,2],[],[4],[3,5]] [.val _,.val _,.val _,.val _,.val _,.val _,.val _] [false,false,false,false,false,false,false] (by kernel_rfl) rfl rfl rfl (fun vU=>⟨e5 0 bV,H1 (aQ pQ),dI 1 ny bV,fm SH (Pa fb),H1 (aQ kU),dI 1 iJ bV,iq (sN lS rfl o6 rfl),trivial⟩) fun vU=> ?_
     refine aM ?_
     refine aI ?_
     refine ag.ret ?_
     refine ab.c5 ?_
     refine ab.ret ?_
     obtain rfl:=aH h
     exact cv
    ·refine aA ?_
     refine bd fz ?_
     refine aM ?_
     refine aI ?_
     refine b4 h (fun h=>?_) fun h=>?_
     ·refine aA ?_
      refine aT (aQ kU) ?_
      refine bL 1 iJ bV ?_
      refine cm 0 bV ?_
      obtain⟨br,fY,h⟩:=ay h
      refine ev vr (ux fY) ?_
      refine bd og ?_
      refine aB ?_
      refine ea (fun hb=>dP (i:=0) (aK.id al) (r:=cn) bV (ad rfl) rfl rfl rfl) ?_
      refine dK (aQ Br) ?_
      refine ea (fun hb=>dP (i:=1) ((aK.id ca).comp sb) (r:=J.jg) bV (b3 rfl hb) rfl rfl rfl) ?_
      obtain⟨cx,ih,h⟩:=ay h
      refine ea (fun hb=>iQ vr (ux (fC ih hb)) ⟨b3 rfl hb,b3 rfl hb,trivial⟩) ?_
      refine iW og ?_
      refine ig ?_
      refine aM ?_
      refine aI ?_
      refine ag.ret ?_
      refine ab.c5 ?_
      refine ab.ret ?_
      obtain rfl:=aH h
      exact cv
     ·refine ag.skip ?_
      refine ab.dz ?_
      refine ab.next ?_
      refine aA ?_
      refine aM ?_
      refine aI ?_
      refine ag.ret ?_
      obtain rfl:=aH h
      exact cv
theorem HP {J:aY} {aj:bu} {r:Int} (h:uF J aj=some r):bE Tryz.prog 79 [I.of (J),I.of (aj)] (I.of (r)):=by
 unfold uF at h
 refine bE.of Tryz.func79 rfl Tryz.ntmps79 rfl fun W A=> ?_
 refine aA ?_
 refine b8 fun aR=> ?_
 refine b8 fun a0=> ?_
 refine aM ?_
 refine b2 ?_
 refine cm 1 fs ?_
 refine aT (aQ sG) ?_
 refine bL 0 qP bo ?_
 obtain⟨ak,bt,h⟩:=ay h
 refine ev KW (HL bt) ?_
 refine aM ?_
 refine bK ?_
 refine aA ?_
 refine aB ?_
 refine bd dJ ?_
 refine aI ?_
 refine b4 h (fun h=>?_) fun h=>?_
 ·refine aA ?_
  refine aM ?_
  refine aI ?_
  refine ag.ret ?_
  refine ab.ret ?_
  obtain rfl:=aH h
  exact cv
 ·refine cP ?_
  refine ag.seq ?_
  refine aA ?_
  refine aT (aQ mB) ?_
  refine bL 1 mn lW ?_
  refine aB ?_
  obtain⟨aW,cc,h⟩:=ay h
  refine gk cc Tryz.underlying28 fG ?_
  refine vV iK kg ?_
  refine aT (c7 jY) ?_
  refine aT (ej Tryz.underlying62) ?_
  refine aB ?_
  refine aI ?_
  refine ag.block ?_
  obtain⟨av,an,h⟩:=ay h
  refine gj (γ:=Unit) (δ:=Unit) an [0,1,2,3,5,13,19,20] (fun s1 aw=> [(4,I.of (0:Int)),(21,I.of (s1))]) (fun s1 aw=> []) (fun az=>Sum.elim (fun az=>Exit.exit 0) (fun az=>Exit.ret) az) (fun az aw=>Sum.elim (fun az=> [(4,I.of (0:Int)),(21,I.of (az.1)),(22,I.of (az.2))]) (fun az=> [(4,I.of (az.1)),(6,I.of (az.2.1)),(21,I.of (az.2.2.1)),(22,I.of (az.2.2.2.1)),(35,I.of (az.2.2.2.2))]) az) (fun az aw=>Sum.elim (fun az=> []) (fun az=> []) az) () (fun s1 r h aw=> ?_) fun aw=> ?_
  ·clear an
   refine aA ?_
   refine bd dJ ?_
   refine bK ?_
   refine b4 h (fun h=>?_) fun h=>?_
   ·refine cP ?_
    refine ag.seq ?_
    refine ag.block ?_
    refine aA ?_
    refine aB ?_
    obtain⟨bR,cN,h⟩:=ay h
    refine gk cN Tryz.underlying62 g8 ?_
    refine aT (c7 g8) ?_
    refine cM iz fun bF=> ?_
    refine aM ?_
    refine ck 0 g8 ?_
    refine b2 ?_
    refine aT (aQ ra) ?_
    refine bL 0 kP bo ?_
    refine bd fz ?_
    refine aB ?_
    refine dK cU ?_
    refine dK (aQ jT) ?_
    refine ea (fun hb=>dP (i:=1) ((aK.id bu).comp jQ) (r:=aj.bW) jA (b3 rfl hb) rfl rfl rfl) ?_
    refine dK (ej Tryz.underlying47) ?_
    refine iW dJ ?_
    obtain⟨bg,dd,h⟩:=ay h
    refine dp dd (mE (ad rfl) (ad rfl) (fun h=>h)) ?_
    refine aI ?_
    refine b4 h (fun h=>?_) fun h=>?_
    ·refine aA ?_
     refine aT (aQ jT) ?_
     refine bL 1 jQ jA ?_
     refine aB ?_
     obtain⟨dj,gp,h⟩:=ay h
     refine gk gp Tryz.underlying47 fO ?_
     refine vV lO nF ?_
     refine aT (c7 bo) ?_
     refine aM ?_
     refine aI ?_
     refine ag.ret ?_
     refine ab.c5 ?_
     refine ab.ret ?_
     obtain rfl:=aH h
     exact dE () 1
    ·refine ag.skip ?_
     refine ab.dz ?_
     refine ab.next ?_
     refine ag.cj ?_
     refine bd c8 ?_
     refine aB ?_
     refine ai.nil ?_
     obtain rfl:=aH h
     exact fe () 1
   ·refine ag.exit ?_
    refine ab.exit ?_
    obtain rfl:=aH h
    exact dE () 0
  ·clear an
   rcases av with av | av
   ·simp only [Sum.elim_inl] at h
    refine ab.e4 ?_
    refine ab.next ?_
    refine aA ?_
    refine aM ?_
    refine aI ?_
    refine ag.ret ?_
    obtain rfl:=aH h
    exact cv
   ·simp only [Sum.elim_inr] at h
    refine ab.c5 ?_
    refine ab.ret ?_
    obtain rfl:=aH h
    exact cv
end Go.Proofs.YtmnggbjcnoffeaaGreat
namespace Go.Proofs.YtmnggbjcnoffeaaGreat
open Go Gv
set_option linter.unusedVariables false
set_option linter.unusedSimpArgs false
set_option maxRecDepth 100000
set_option maxHeartbeats 2000000
theorem OE {J:ca} {aj:Int} {aS:Int} {cn:al} {r:Bool} (h:xo J aj aS cn=some r):bE Tryz.prog 282 [I.of (J),I.of (aj),I.of (aS),I.of (cn)] (I.of (r)):=by
 unfold xo at h
 refine bE.of Tryz.func282 rfl Tryz.ntmps282 rfl fun W A=> ?_
 refine aA ?_
 refine b8 fun aR=> ?_
 refine b8 fun a0=> ?_
 refine aM ?_
 refine bK ?_
 refine aA ?_
 refine aT (aQ rb) ?_
 refine bL 1 mm fk ?_
 refine aT iy ?_
 refine aI ?_
 refine b4 h (fun h=>?_) fun h=>?_
 ·refine aA ?_
  refine aB ?_
  refine bd kX ?_
  refine aB ?_
  refine dK cU ?_
  refine iW og ?_
  refine ig ?_
  refine aM ?_
  refine aI ?_
  refine ag.ret ?_
  refine ab.ret ?_
  obtain rfl:=aH h
  exact cv
 ·refine cP ?_
  refine ag.seq ?_
  refine aA ?_
  refine aB ?_
  refine aI ?_
  refine ag.block ?_
  refine aA ?_
  refine bd fz ?_
  refine aM ?_
  refine aI ?_
  refine b4 h (fun h=>?_) fun h=>?_
  ·refine aA ?_
   refine cm 0 bV ?_
   refine aT (aQ kU) ?_
   refine bL 1 iJ bV ?_
   refine bd (sN lS rfl o6 rfl) ?_
   refine aM ?_
   refine aI ?_
   refine ag.ret ?_
   refine ab.c5 ?_
   refine ab.ret ?_
   obtain rfl:=aH h
   exact cv
  ·refine aA ?_
   refine bd fz ?_
   refine aM ?_
   refine aI ?_
   refine b4 h (fun h=>?_) fun h=>?_
   ·refine aA ?_
    refine aB ?_
    refine aT (aQ nF) ?_
    refine bL 1 lO bo ?_
    obtain⟨ak,bt,h⟩:=ay h
    refine ev KX (HM bt) ?_
    refine cM et fun bF=> ?_
    refine ck 0 bV ?_
    refine bK ?_
    obtain⟨aO,cq,h⟩:=ay h
    obtain⟨bc,fb,h⟩:=ay h
    refine ag.draw mixed 8 [some 32,some 33,some 34,some 35,some 36,some 37,some 38,some 39] [[],[],[0,1],[],[3],[],[4,5],[2,6]] [.val _,.val _,.val _,.val _,.val _,.val _,.val _,.val _] [false,false,false,false,false,false,false,false] (by kernel_rfl) rfl rfl rfl (fun c1=>⟨e5 1 bV,e5 0 bV,fm yy (xB cq),H1 (aQ kU),dI 2 iJ bV,e5 0 bV,fm yy (xB fb),iq (sN lS rfl o6 rfl),trivial⟩) fun c1=> ?_
    refine aM ?_
    refine aI ?_
    refine ag.ret ?_
    refine ab.c5 ?_
    refine ab.ret ?_
    obtain rfl:=aH h
    exact cv
   ·refine aA ?_
    refine bd fz ?_
    refine aM ?_
    refine aI ?_
    refine b4 h (fun h=>?_) fun h=>?_
    ·refine ag.seq ?_
     obtain⟨br,fY,h⟩:=ay h
     refine ag.draw mixed 7 [some 42,some 43,some 44,some 45,some 46,some 47,some 48] [[],[],[1],[0,2],[],[4],[3,5]] [.val _,.val _,.val _,.val _,.val _,.val _,.val _] [false,false,false,false,false,false,false] (by kernel_rfl) rfl rfl rfl (fun jk=>⟨e5 0 bV,H1 (aQ pQ),dI 1 ny bV,fm yy (xB fY),H1 (aQ kU),dI 1 iJ bV,iq (sN lS rfl o6 rfl),trivial⟩) fun jk=> ?_
     refine aM ?_
     refine aI ?_
     refine ag.ret ?_
     refine ab.c5 ?_
     refine ab.ret ?_
     obtain rfl:=aH h
     exact cv
    ·refine aA ?_
     refine bd fz ?_
     refine aM ?_
     refine aI ?_
     refine b4 h (fun h=>?_) fun h=>?_
     ·refine aA ?_
      refine aT (aQ kU) ?_
      refine bL 1 iJ bV ?_
      refine cm 0 bV ?_
      obtain⟨cx,ih,h⟩:=ay h
      refine ev KY (HK ih) ?_
      refine bd og ?_
      refine aB ?_
      refine ea (fun hb=>dP (i:=0) (aK.id al) (r:=cn) bV (ad rfl) rfl rfl rfl) ?_
      refine dK (aQ Br) ?_
      refine ea (fun hb=>dP (i:=1) ((aK.id ca).comp sb) (r:=J.jg) bV (b3 rfl hb) rfl rfl rfl) ?_
      obtain⟨dr,jG,h⟩:=ay h
      refine ea (fun hb=>iQ KY (HK (fC jG hb)) ⟨b3 rfl hb,b3 rfl hb,trivial⟩) ?_
      refine iW og ?_
      refine ig ?_
      refine aM ?_
      refine aI ?_
      refine ag.ret ?_
      refine ab.c5 ?_
      refine ab.ret ?_
      obtain rfl:=aH h
      exact cv
     ·refine ag.skip ?_
      refine ab.dz ?_
      refine ab.next ?_
      refine aA ?_
      refine aM ?_
      refine aI ?_
      refine ag.ret ?_
      obtain rfl:=aH h
      exact cv
theorem NZ {hp:a1 Cell} {J:Ref} {aj:Int} {aS:Bool} {r:aJ × Bool} (h:wZ hp J aj aS=some r):cf Tryz.prog 72 [I.of (J),I.of (aj),I.of (aS)] ([] ++ a3 hp) (δ:=Unit) (fun _=>I.cG [I.of (r.1),I.of (r.2)]) (fun _=> [] ++ a3 hp):=by
 unfold wZ at h
 refine cf.of Tryz.func72 rfl Tryz.ntmps72 rfl fun W A=> ?_
 refine aA ?_
 refine cM hn fun aR=> ?_
 refine aM ?_
 refine bK ?_
 refine aA ?_
 refine aB ?_
 refine aT iy ?_
 refine aI ?_
 refine b4 h (fun h=>?_) fun h=>?_
 ·refine aA ?_
  refine ho BZ hn (default:aJ) .nil ?_
  refine ck 0 cO ?_
  refine aM ?_
  refine aI ?_
  refine ag.ret ?_
  refine ab.ret ?_
  obtain rfl:=aH h
  exact ab.kF () (.cons _ (.refl _)) rfl rfl (jy (i:=0) cO rfl rfl) (dV rfl)
 ·refine cP ?_
  refine aA ?_
  refine aB ?_
  obtain⟨cW,eA,h⟩:=ay h
  refine bj (eI (fv (ad rfl) eA)) ?_
  refine aT (aQ Ec) ?_
  obtain⟨cd,ff,h⟩:=ay h
  refine bj (hj ((aK.id gA).comp Aw) (r:=cd.ll) BM (ad rfl) (gn (n:=1) rfl (nc ff) rfl) rfl rfl) ?_
  refine aB ?_
  obtain⟨ct,fQ,h⟩:=ay h
  obtain⟨cS,gD,h⟩:=ay h
  obtain⟨bg,dd,h⟩:=ay h
  refine bj (xU (r:=bg) Tryz.underlying133 FU hn (n6 (ad rfl) fQ) (ad rfl) (gn (n:=1) rfl (x7 gD) rfl) (aH dd)) ?_
  obtain⟨ak,bt,h⟩:=ay h
  refine ev za (xe bt) ?_
  refine ck 0 cO ?_
  refine aM ?_
  refine aI ?_
  refine ag.ret ?_
  obtain rfl:=aH h
  exact ab.kF () (.cons _ (.refl _)) rfl rfl (jy (i:=0) cO rfl rfl) (dV rfl)
theorem On {J:aY} {aj:bN} {aS:Int} {r:Int} (h:xf J aj aS=some r):bE Tryz.prog 47 [I.of (J),I.of (aj),I.of (aS)] (I.of (r)):=by
 unfold xf at h
 refine bE.of Tryz.func47 rfl Tryz.ntmps47 rfl fun W A=> ?_
 refine aA ?_
 refine b8 fun aR=> ?_
 refine b8 fun a0=> ?_
 refine aM ?_
 refine bK ?_
 obtain⟨aW,cc,h⟩:=ay h
 obtain⟨ak,bt,h⟩:=ay h
 refine ag.draw mixed 8 [some 7,some 8,some 9,some 10,some 11,some 12,some 13,some 14] [[],[],[1],[],[2,3],[4],[5],[0,6]] [.val _,.val _,.val _,.val _,.val _,.val _,.val _,.val _] [false,false,false,false,false,false,false,false] (by kernel_rfl) rfl rfl rfl (fun c1=>⟨e5 1 fs,H1 (aQ kg),dI 0 iK jY,c3,lB cc Tryz.underlying62 g8,qi m3 Bq,H1 (c7 bo),fm Ur (OY bt),trivial⟩) fun c1=> ?_
 refine aM ?_
 refine aI ?_
 refine ag.ret ?_
 obtain rfl:=aH h
 exact cv
theorem ON {J:aY} {aj:aJ} {aS:aJ} {r:Bool} (h:xr J aj aS=some r):bE Tryz.prog 36 [I.of (J),I.of (aj),I.of (aS)] (I.of (r)):=by
 unfold xr at h
 refine bE.of Tryz.func36 rfl Tryz.ntmps36 rfl fun W A=> ?_
 refine aA ?_
 refine b8 fun aR=> ?_
 refine b8 fun a0=> ?_
 refine b8 fun bF=> ?_
 refine aM ?_
 refine bK ?_
 refine aA ?_
 refine aT (aQ jx) ?_
 refine aT (aQ n9) ?_
 refine bL 1 (jd.comp n3) bo ?_
 refine aT (aQ jx) ?_
 refine aT (aQ n9) ?_
 refine bL 0 (jd.comp n3) bo ?_
 refine bd pX ?_
 refine aI ?_
 refine b4 h (fun h=>?_) fun h=>?_
 ·refine aA ?_
  refine aT (aQ jx) ?_
  refine aT (aQ n9) ?_
  refine bL 1 (jd.comp n3) bo ?_
  refine aT (aQ jx) ?_
  refine aT (aQ n9) ?_
  refine bL 0 (jd.comp n3) bo ?_
  refine bd ni ?_
  refine aM ?_
  refine aI ?_
  refine ag.ret ?_
  refine ab.ret ?_
  obtain rfl:=aH h
  exact cv
 ·refine cP ?_
  refine ag.seq ?_
  refine ag.seq ?_
  obtain⟨ak,bt,h⟩:=ay h
  obtain⟨aO,cq,h⟩:=ay h
  refine ag.draw mixed 8 [some 23,some 24,some 25,some 26,some 27,some 28,some 29,some 30] [[],[],[1],[0,2],[],[],[5],[4,6]] [.val _,.val _,.val _,.val _,.val _,.val _,.val _,.val _] [false,false,false,false,false,false,false,false] (by kernel_rfl) rfl rfl rfl (fun c1=>⟨e5 2 fs,H1 (aQ jx),dI 1 jd g9,fm LP (HP bt),e5 2 fs,H1 (aQ jx),dI 0 jd g9,fm LP (HP cq),trivial⟩) fun c1=> ?_
  refine aM ?_
  refine aM ?_
  refine b2 ?_
  refine aB ?_
  refine aB ?_
  refine bd pX ?_
  refine aI ?_
  refine b4 h (fun h=>?_) fun h=>?_
  ·refine aA ?_
   refine aB ?_
   refine aB ?_
   refine bd ni ?_
   refine aM ?_
   refine aI ?_
   refine ag.ret ?_
   refine ab.ret ?_
   obtain rfl:=aH h
   exact cv
  ·refine cP ?_
   refine aA ?_
   refine aT (aQ mC) ?_
   refine bL 1 lN bo ?_
   refine aT (aQ mC) ?_
   refine bL 0 lN bo ?_
   refine bd ni ?_
   refine aM ?_
   refine aI ?_
   refine ag.ret ?_
   obtain rfl:=aH h
   exact cv
end Go.Proofs.YtmnggbjcnoffeaaGreat
namespace Go.Proofs.YtmnggbjcnoffeaaGreat
open Go Gv
set_option linter.unusedVariables false
set_option linter.unusedSimpArgs false
set_option maxRecDepth 100000
set_option maxHeartbeats 2000000
theorem N0 {hp:a1 Cell} {J:Ref} {aj:al} {r:Int × Int × Bool} (h:w0 hp J aj=some r):cf Tryz.prog 242 [I.of (J),I.of (aj)] ([] ++ a3 hp) (δ:=Unit) (fun _=>I.cG [I.of (r.1),I.of (r.2.1),I.of (r.2.2)]) (fun _=> [] ++ a3 hp):=by
 unfold w0 at h
 refine cf.ofM Tryz.func242 rfl Tryz.ntmps242 rfl fun W A=> ?_
 refine aA ?_
 refine b8 fun aR=> ?_
 refine aM ?_
 refine aM ?_
 refine aM ?_
 refine bK ?_
 refine ag.seq ?_
 obtain⟨cW,eA,h⟩:=ay h
 obtain⟨cd,ff,h⟩:=ay h
 obtain⟨ak,bt,h⟩:=ay h
 refine ag.draw mixed 11 [some 14,some 15,some 16,some 17,some 18,some 19,some 20,some 21,some 22,some 23,some 24] [[],[0],[1],[2],[2],[2,4],[2,5],[2,6],[2,3,7],[2,8],[2,9]] [.val _,.val _,.val _,.val _,.val _,.val _,.val _,.val _,.val _,.val _,.val _] [false,false,false,false,false,false,false,false,false,false,false] (by kernel_rfl) rfl rfl rfl (fun c1=>⟨c3,e0 fun L' ao=>m9 Tryz.underlying321 (ad rfl),c3,dT fun L' ao=>fun hb=>dP (i:=0) (aK.id al) (r:=aj) bV (ad rfl) (ao _ _ rfl rfl) rfl rfl,dT fun L' ao=>fun hb=>cU (ad rfl),dT fun L' ao=>fun hb=>eI (fv (b3 rfl hb) (fC eA hb)),dT fun L' ao=>fun hb=>aQ u2 (b3 rfl hb),dT fun L' ao=>fun hb=>hj ((aK.id fM).comp r9) (r:=cd.ey) bo (b3 rfl hb) (mM (fun i e q=>ao i e q rfl) (gn (n:=1) rfl (nG (fC ff hb)) rfl)) rfl rfl,dT fun L' ao=>fun hb=>iQ SI (OX (fC bt hb)) ⟨b3 rfl hb,b3 rfl hb,trivial⟩,dT fun L' ao=>fun hb=>iy (b3 rfl hb),e0 fun L' ao=>rz (ad rfl) (ad rfl) (fun h=>h),trivial⟩) fun c1=> ?_
 refine aI ?_
 refine b4 h (fun h=>?_) fun h=>?_
 ·refine aA ?_
  refine aM ?_
  refine aM ?_
  refine aM ?_
  refine aI ?_
  refine ag.ret ?_
  refine ab.ret ?_
  obtain rfl:=aH h
  refine ab.B0 ?_
  exact ab.E7 () (.cons _ (.refl _)) rfl rfl (dV rfl) (dV rfl) (dV rfl)
 ·refine cP ?_
  refine aA ?_
  refine cM g4 fun a0=> ?_
  refine cM g4 fun bF=> ?_
  refine cM Cn fun cA=> ?_
  refine ck 2 bo ?_
  refine ck 1 bo ?_
  refine ck 0 fk ?_
  refine b2 ?_
  refine aB ?_
  obtain⟨ct,fQ,h⟩:=ay h
  refine bj (eI (fv (ad rfl) fQ)) ?_
  refine aT (aQ xV) ?_
  obtain⟨cS,gD,h⟩:=ay h
  refine bj (hj ((aK.id fM).comp w1) (r:=cS.cV) eX (ad rfl) (gn (n:=4) rfl (nG gD) rfl) rfl rfl) ?_
  refine cM BN fun hW=> ?_
  refine cM g4 fun j8=> ?_
  refine ck 1 eX ?_
  refine ck 0 bo ?_
  refine b2 ?_
  refine bj (SJ (f:=249) (us:= [.pointer (some ⟨hW,0,none⟩),.pointer (some ⟨j8,0,none⟩),.pointer (some ⟨a0,0,none⟩),.pointer (some ⟨bF,0,none⟩),.pointer (some ⟨cA,0,none⟩)]) ⟨ad rfl,ad rfl,ad rfl,ad rfl,ad rfl,trivial⟩) ?_
  refine cM Vm fun qF=> ?_
  refine ck 0 FV ?_
  refine b2 ?_
  refine cm 0 FV ?_
  refine ai.bI 3 rfl ?_
  refine ai.bI 4 rfl ?_
  refine ai.bI 5 rfl ?_
  refine ai.bI 4 rfl ?_
  refine ai.bI 5 rfl ?_
  obtain⟨aO,cq,h⟩:=ay h
  refine ai.CS (eR.LQ (τs:= []) 7 5 rfl KZ (I7 (ad rfl)) (Hn cq) rfl rfl trivial) rfl rfl rfl fun az=> ?_
  refine ai.en (L2:=(⟨some hW,.var (cS.cV:Ref)⟩ :: ⟨some j8,.var (0:Int)⟩ :: ⟨some a0,.var (aO.1:Int)⟩ :: ⟨some bF,.var (aO.2.1:Int)⟩ :: ⟨some cA,.var (aO.2.2:Bool)⟩ :: ⟨some qF,.var ((⟨249,some [.pointer (some ⟨hW,0,none⟩),.pointer (some ⟨j8,0,none⟩),.pointer (some ⟨a0,0,none⟩),.pointer (some ⟨bF,0,none⟩),.pointer (some ⟨cA,0,none⟩)]⟩:Raw):Raw)⟩ :: ⟨some aR,.var (aj:al)⟩ :: a3 hp)) rfl ?_
  refine bK ?_
  refine ag.seq ?_
  obtain⟨bc,fb,h⟩:=ay h
  refine ag.draw mixed 7 [some 32,some 33,some 34,some 35,some 36,some 37,some 38] [[],[],[],[2],[3],[4],[0,1,5]] [.val _,.val _,.val _,.val _,.val _,.val _,.val _] [false,false,false,false,false,false,false] (by kernel_rfl) rfl rfl rfl (fun jk=>⟨c3,e5 6 bV,c3,e0 fun L' ao=>eI (fv (ad rfl) fQ),H1 (aQ u2),e0 fun L' ao=>hj ((aK.id fM).comp r9) (r:=cS.ey) bo (ad rfl) (mM (fun i e q=>ao i e q rfl) (gn (n:=7) rfl (nG gD) rfl)) rfl rfl,fm E8 (Dn fb),trivial⟩) fun jk=> ?_
  refine aI ?_
  refine ag.block ?_
  obtain⟨av,an,h⟩:=ay h
  refine IJ (hp:=hp) (γ:=Unit) (g0:=()) (Ls:=fun s1 aw=>(⟨some hW,.var (s1.1:Ref)⟩ :: ⟨some j8,.var (s1.2.1:Int)⟩ :: ⟨some a0,.var (s1.2.2.1:Int)⟩ :: ⟨some bF,.var (s1.2.2.2.1:Int)⟩ :: ⟨some cA,.var (s1.2.2.2.2:Bool)⟩ :: ⟨some qF,.var ((⟨249,some [.pointer (some ⟨hW,0,none⟩),.pointer (some ⟨j8,0,none⟩),.pointer (some ⟨a0,0,none⟩),.pointer (some ⟨bF,0,none⟩),.pointer (some ⟨cA,0,none⟩)]⟩:Raw):Raw)⟩ :: ⟨some aR,.var (aj:al)⟩ :: a3 hp)) (Lx:=fun c6 aw=>(⟨some hW,.var (c6.1:Ref)⟩ :: ⟨some j8,.var (c6.2.1:Int)⟩ :: ⟨some a0,.var (c6.2.2.1:Int)⟩ :: ⟨some bF,.var (c6.2.2.2.1:Int)⟩ :: ⟨some cA,.var (c6.2.2.2.2:Bool)⟩ :: ⟨some qF,.var ((⟨249,some [.pointer (some ⟨hW,0,none⟩),.pointer (some ⟨j8,0,none⟩),.pointer (some ⟨a0,0,none⟩),.pointer (some ⟨bF,0,none⟩),.pointer (some ⟨cA,0,none⟩)]⟩:Raw):Raw)⟩ :: ⟨some aR,.var (aj:al)⟩ :: a3 hp)) (fun s1 aw=> [⟨some hW,.var (s1.1:Ref)⟩,⟨some j8,.var (s1.2.1:Int)⟩,⟨some a0,.var (s1.2.2.1:Int)⟩,⟨some bF,.var (s1.2.2.2.1:Int)⟩,⟨some cA,.var (s1.2.2.2.2:Bool)⟩,⟨some qF,.var ((⟨249,some [.pointer (some ⟨hW,0,none⟩),.pointer (some ⟨j8,0,none⟩),.pointer (some ⟨a0,0,none⟩),.pointer (some ⟨bF,0,none⟩),.pointer (some ⟨cA,0,none⟩)]⟩:Raw):Raw)⟩,⟨some aR,.var (aj:al)⟩]) (fun c6=> .exit 0) rfl E9 rfl Hu an (fun _ _=>rfl) rfl rfl (fun rI s1 r h aw kp kz kq l D rec tq=> ?_) (fun s1 aU aw D=> ?_) (fun c6 aU aw D=> ?_)
  ·clear an
   refine ag.cj ?_
   refine aM ?_
   refine ai.nil ?_
   refine ab.begin 0 rfl tq ?_
   refine ag.block ?_
   refine ag.seq ?_
   refine aA ?_
   refine cm 2 eX ?_
   refine bj (m9 Tryz.underlying331 (ad rfl)) ?_
   refine aI ?_
   refine b4 h (fun h=>?_) fun h=>?_
   ·refine ag.exit ?_
    refine ab.exit ?_
    refine ab.RK rfl ?_
    obtain rfl:=aH h
    exact ab.EF () 0 rfl rfl rfl
   ·refine cP ?_
    refine ag.seq ?_
    obtain⟨oP,tr,h⟩:=ay h
    obtain⟨aW,cc,h⟩:=ay h
    obtain⟨e2,l9,h⟩:=ay h
    refine iC [0,1,3,4,5,6,7,8,9,10,11,12,13,14,15,16,17,18,19,20,21,22,23,24,25,26,27,28,29,30,31,32,33,34,35,36,37,38,39,40,41] ?_
    refine ag.pY 9 mixed (bb 42 [] (2 :: []) _ :: bb 43 [] [] _ :: bb 44 (0 :: []) [] _ :: bb 45 (2 :: []) [] _ :: bb 46 (1 :: 3 :: []) [] _ :: ⟨some 47,(4 :: []),[],[],fun _=>I.of (bJ e2.er aW),fun _ _=>⟨none,.dead⟩⟩ :: bb 48 [] (3 :: []) _ :: bb 49 (6 :: []) [] _ :: ⟨none,(0 :: 5 :: []),(2 :: []),(2 :: []),fun _=>I.any,fun hd _=>⟨some hW,.var (bJ e2.er aW:Ref)⟩⟩ :: ⟨none,(6 :: 7 :: []),(3 :: []),(3 :: []),fun _=>I.any,fun hd _=>⟨some j8,.var (bw (s1.2.1 + 1):Int)⟩⟩ :: []) _ (0 :: 1 :: 3 :: 4 :: 5 :: 6 :: 7 :: 8 :: 9 :: 10 :: 11 :: 12 :: 13 :: 14 :: 15 :: 16 :: 17 :: 18 :: 19 :: 20 :: 21 :: 22 :: 23 :: 24 :: 25 :: 26 :: 27 :: 28 :: 29 :: 30 :: 31 :: 32 :: 33 :: 34 :: 35 :: 36 :: 37 :: 38 :: 39 :: 40 :: 41 :: []) rfl rfl (by kernel_rfl) (by kernel_rfl) ⟨cR.q (k5 2 eX),cR.q (fJ),cR.q (cw fun hd E' L' aE ao=>eI (fv (ad (aE _ _ rfl)) tr)),cR.q (e1 (aQ xW)),cR.q (cw fun hd E' L' aE ao=>fj (k:=aW) yz (ad (aE _ _ rfl)) (ad (aE _ _ rfl)) (cK cc)),?_,cR.q (k5 3 bo),cR.q (z6 c8),?_,?_,trivial⟩ fun fl=> ?_
    ·intro hd E' L' aE ao dB
     refine bj (hj (((aK.id ep).comp wE).comp (aK.idx (α:=Ref) 2 aW (cK cc).1)) (r:=bJ e2.er aW) eX (ad (aE _ _ rfl)) (gn (n:=9) (dB.trans rfl) (lp l9) rfl) rfl rfl) ?_
     refine ai.nil ?_
     exact ab.fin (eh []) rfl rfl
    ·intro hd E' L' aE ao dB
     refine ai.store (i:=2) (aK.id Ref) (v:=(bJ e2.er aW:Ref)) (b':=(bJ e2.er aW:Ref)) eX (ad (aE _ _ rfl)) (ad (aE _ _ rfl)) (ao 2 _ rfl rfl) rfl rfl ?_
     refine ai.nil ?_
     exact ab.fin (eh []) rfl rfl
    ·intro hd E' L' aE ao dB
     refine ai.store (i:=3) (aK.id Int) (v:=(bw (s1.2.1 + 1):Int)) (b':=(bw (s1.2.1 + 1):Int)) bo (ad (aE _ _ rfl)) (ad (aE _ _ rfl)) (ao 3 _ rfl rfl) rfl rfl ?_
     refine ai.nil ?_
     exact ab.fin (eh []) rfl rfl
    refine ab.en (L2:=(⟨some l,.is (.loop { rec with state:= .busy })⟩ :: ⟨some D,.db⟩ :: ⟨some hW,.var (bJ e2.er aW:Ref)⟩ :: ⟨some j8,.var (bw (s1.2.1 + 1):Int)⟩ :: ⟨some a0,.var (s1.2.2.1:Int)⟩ :: ⟨some bF,.var (s1.2.2.2.1:Int)⟩ :: ⟨some cA,.var (s1.2.2.2.2:Bool)⟩ :: ⟨some qF,.var ((⟨249,some [.pointer (some ⟨hW,0,none⟩),.pointer (some ⟨j8,0,none⟩),.pointer (some ⟨a0,0,none⟩),.pointer (some ⟨bF,0,none⟩),.pointer (some ⟨cA,0,none⟩)]⟩:Raw):Raw)⟩ :: ⟨some aR,.var (aj:al)⟩ :: a3 hp)) rfl ?_
    refine jF [0,1,3,4,5,6,7,8,9,10,11,12,13,14,15,16,17,18,19,20,21,22,23,24,25,26,27,28,29,30,31,32,33,34,35,36,37,38,39,40,41,42,43,44,45,46,47,48,49] ?_
    refine ab.next ?_
    refine ag.cj ?_
    refine cm 7 FV ?_
    refine ai.bI 6 rfl ?_
    refine ai.bI 6 rfl ?_
    refine ai.bI 6 rfl ?_
    refine ai.bI 6 rfl ?_
    refine ai.bI 6 rfl ?_
    obtain⟨br,fY,h⟩:=ay h
    refine ai.CS (eR.LQ (τs:= []) 9 5 rfl KZ (I7 (ad rfl)) (Hn fY) rfl rfl trivial) rfl rfl rfl fun e6=> ?_
    refine ai.en (L2:=(⟨some hW,.var (bJ e2.er aW:Ref)⟩ :: ⟨some j8,.var (bw (s1.2.1 + 1):Int)⟩ :: ⟨some a0,.var (br.1:Int)⟩ :: ⟨some bF,.var (br.2.1:Int)⟩ :: ⟨some cA,.var (br.2.2:Bool)⟩ :: ⟨some l,.is (.loop { rec with state:= .busy })⟩ :: ⟨some D,.db⟩ :: ⟨some qF,.var ((⟨249,some [.pointer (some ⟨hW,0,none⟩),.pointer (some ⟨j8,0,none⟩),.pointer (some ⟨a0,0,none⟩),.pointer (some ⟨bF,0,none⟩),.pointer (some ⟨cA,0,none⟩)]⟩:Raw):Raw)⟩ :: ⟨some aR,.var (aj:al)⟩ :: a3 hp)) rfl ?_
    refine ai.nil ?_
    refine ab.dz ?_
    refine ab.bI 6 rfl ?_
    refine ab.bI 6 rfl ?_
    obtain rfl:=aH h
    exact ab.Mh () 0 rfl
  ·clear an; subst aU; simp only [Sum.elim_inl] at h
   refine ab.en (L2:=(⟨some D,.db⟩ :: ⟨some hW,.var (s1.1:Ref)⟩ :: ⟨some j8,.var (s1.2.1:Int)⟩ :: ⟨some a0,.var (s1.2.2.1:Int)⟩ :: ⟨some bF,.var (s1.2.2.2.1:Int)⟩ :: ⟨some cA,.var (s1.2.2.2.2:Bool)⟩ :: ⟨some qF,.var ((⟨249,some [.pointer (some ⟨hW,0,none⟩),.pointer (some ⟨j8,0,none⟩),.pointer (some ⟨a0,0,none⟩),.pointer (some ⟨bF,0,none⟩),.pointer (some ⟨cA,0,none⟩)]⟩:Raw):Raw)⟩ :: ⟨some aR,.var (aj:al)⟩ :: a3 hp)) rfl ?_
   refine ab.dz ?_
   refine ab.next ?_
   refine ag.seq ?_
   refine iC [0,1,3,6,7,8,9,10,11,12,14,15,16,17,18,19,20,21,22,23,24,25,26,27,28,29,30,31,32,33,34,35,36,37,38] ?_
   refine ag.draw mixed 5 [some 52,some 53,some 54,some 4,some 5] [[],[],[],[0],[1]] [.val _,.val _,.val _,.val _,.val _] [false,false,false,false,false] (by kernel_rfl) rfl rfl rfl (fun vU=>⟨e5 3 bo,e5 4 bo,e5 5 fk,tO,tO,trivial⟩) fun vU=> ?_
   refine aM ?_
   refine aI ?_
   refine ag.ret ?_
   obtain rfl:=aH h
   refine ab.s8 0 rfl rfl ?_
   exact ab.E7 () (.cons _ (.cons _ (.cons _ (.cons _ (.cons _ (.cons _ (.cons _ (.cons _ (.refl _))))))))) rfl rfl (dV rfl) (dV rfl) (dV rfl)
  ·clear an; subst aU; simp only [Sum.elim_inr] at h
   refine ag.exit ?_
   refine ab.en (L2:=(⟨some D,.db⟩ :: ⟨some hW,.var (c6.1:Ref)⟩ :: ⟨some j8,.var (c6.2.1:Int)⟩ :: ⟨some a0,.var (c6.2.2.1:Int)⟩ :: ⟨some bF,.var (c6.2.2.2.1:Int)⟩ :: ⟨some cA,.var (c6.2.2.2.2:Bool)⟩ :: ⟨some qF,.var ((⟨249,some [.pointer (some ⟨hW,0,none⟩),.pointer (some ⟨j8,0,none⟩),.pointer (some ⟨a0,0,none⟩),.pointer (some ⟨bF,0,none⟩),.pointer (some ⟨cA,0,none⟩)]⟩:Raw):Raw)⟩ :: ⟨some aR,.var (aj:al)⟩ :: a3 hp)) rfl ?_
   refine ab.e4 ?_
   refine ab.next ?_
   refine ag.seq ?_
   refine iC [0,1,3,6,7,8,9,10,11,12,14,15,16,17,18,19,20,21,22,23,24,25,26,27,28,29,30,31,32,33,34,35,36,37,38] ?_
   refine ag.draw mixed 5 [some 52,some 53,some 54,some 4,some 5] [[],[],[],[0],[1]] [.val _,.val _,.val _,.val _,.val _] [false,false,false,false,false] (by kernel_rfl) rfl rfl rfl (fun Vn=>⟨e5 3 bo,e5 4 bo,e5 5 fk,tO,tO,trivial⟩) fun Vn=> ?_
   refine aM ?_
   refine aI ?_
   refine ag.ret ?_
   obtain rfl:=aH h
   refine ab.s8 0 rfl rfl ?_
   exact ab.E7 () (.cons _ (.cons _ (.cons _ (.cons _ (.cons _ (.cons _ (.cons _ (.cons _ (.refl _))))))))) rfl rfl (dV rfl) (dV rfl) (dV rfl)
end Go.Proofs.YtmnggbjcnoffeaaGreat
namespace Go.Proofs.YtmnggbjcnoffeaaGreat
open Go Gv
set_option linter.unusedVariables false
set_option linter.unusedSimpArgs false
set_option maxRecDepth 100000
set_option maxHeartbeats 2000000
theorem Nz {hp:a1 Cell} {J:dY} {aj:Vector al 4} {r:Int × Bool} (h:wF hp J aj=some r):cf Tryz.prog 236 [I.of (J),I.of (aj)] ([] ++ a3 hp) (δ:=Unit) (fun _=>I.cG [I.of (r.1),I.of (r.2)]) (fun _=> [] ++ a3 hp):=by
 unfold wF at h
 refine cf.of Tryz.func236 rfl Tryz.ntmps236 rfl fun W A=> ?_
 refine aA ?_
 refine b8 fun aR=> ?_
 refine b8 fun a0=> ?_
 refine aM ?_
 refine aM ?_
 refine b2 ?_
 refine cm 1 BD ?_
 refine cm 0 g2 ?_
 obtain⟨ak,bt,h⟩:=ay h
 refine ev KL (Hp bt) ?_
 refine aB ?_
 refine h6 ?_
 refine h6 ?_
 refine cM vm fun bF=> ?_
 refine cM et fun cA=> ?_
 refine ck 1 hJ ?_
 refine ck 0 bV ?_
 refine bK ?_
 obtain⟨cW,eA,h⟩:=ay h
 obtain⟨cd,ff,h⟩:=ay h
 obtain⟨bg,dd,h⟩:=ay h
 obtain⟨aO,cq,h⟩:=ay h
 obtain⟨bc,fb,h⟩:=ay h
 obtain⟨br,fY,h⟩:=ay h
 refine iC [0,1,2,3,4,5,6,7,11,12,13,14,15,16] ?_
 refine ag.pY 4 mixed (bb 18 [] [] _ :: bb 19 (0 :: []) (3 :: []) _ :: bb 20 [] (1 :: []) _ :: ⟨some 21,(1 :: 2 :: []),[],[],fun _=>I.of (bg),fun _ _=>⟨none,.dead⟩⟩ :: bb 22 [] (0 :: []) _ :: bb 23 [] [] _ :: bb 24 (5 :: []) (3 :: []) _ :: bb 25 (6 :: []) [] _ :: bb 26 (4 :: 7 :: []) [] _ :: ⟨some 27,(3 :: 8 :: []),[],[],fun _=>I.cG [I.of (br.1),I.of (br.2.1),I.of (br.2.2)],fun _ _=>⟨none,.dead⟩⟩ :: bb 17 (9 :: []) [] _ :: bb 28 (10 :: []) [] _ :: bb 29 (10 :: []) [] _ :: bb 30 (10 :: []) [] _ :: bb 8 (11 :: []) [] _ :: bb 9 (12 :: []) [] _ :: bb 10 (13 :: []) [] _ :: []) _ (0 :: 1 :: 2 :: 3 :: 4 :: 5 :: 6 :: 7 :: 11 :: 12 :: 13 :: 14 :: 15 :: 16 :: []) rfl rfl (by kernel_rfl) (by kernel_rfl) ⟨cR.q (e1 (aQ nB)),cR.q (mT 3 m1 nj),cR.q (k5 1 hJ),?_,cR.q (k5 0 bV),cR.q (e1 (aQ sy)),cR.q (mT 3 qO bo),cR.q (cw fun hd E' L' aE ao=>iQ E5 (Dr cq) ⟨ad (aE _ _ rfl),trivial⟩),cR.q (cw fun hd E' L' aE ao=>iQ yy (xB fb) ⟨ad (aE _ _ rfl),ad (aE _ _ rfl),trivial⟩),?_,cR.q (fJ),cR.q (cw fun hd E' L' aE ao=>kY (ad (aE _ _ rfl)) rfl),cR.q (cw fun hd E' L' aE ao=>kY (ad (aE _ _ rfl)) rfl),cR.q (cw fun hd E' L' aE ao=>kY (ad (aE _ _ rfl)) rfl),cR.q (cw fun hd E' L' aE ao=>eW (ad (aE _ _ rfl))),cR.q (cw fun hd E' L' aE ao=>eW (ad (aE _ _ rfl))),cR.q (cw fun hd E' L' aE ao=>eW (ad (aE _ _ rfl))),trivial⟩ fun fl=> ?_
 ·intro hd E' L' aE ao dB
  refine bj (xU (r:=bg) Tryz.underlying167 yA BO (n6 (ad (aE _ _ rfl)) eA) (ad (aE _ _ rfl)) (gn (n:=4) (dB.trans rfl) (oc ff) rfl) (aH dd)) ?_
  refine ai.nil ?_
  exact ab.fin (eh []) rfl rfl
 ·intro hd E' L' aE ao dB
  refine ai.lf (gO.lr 4 (dB.trans rfl) SK (N0 fY) ⟨ad (aE _ _ rfl),ad (aE _ _ rfl),trivial⟩) rfl rfl rfl ?_
  refine ai.nil ?_
  exact ab.fin (eh []) rfl rfl
 refine ab.en (L2:=(⟨some cA,.var (ak.2:al)⟩ :: ⟨some bF,.var (ak.1:Vector al 4)⟩ :: ⟨some a0,.var (aj:Vector al 4)⟩ :: ⟨some aR,.var (J:dY)⟩ :: a3 hp)) rfl ?_
 refine jF [0,1,2,3,4,5,6,7,8,9,10,11,12,13,14,15,16,17,18,19,20,21,22,23,24,25,26,27,28,29,30] ?_
 refine ab.next ?_
 refine aA ?_
 refine aB ?_
 refine aB ?_
 refine aM ?_
 refine aM ?_
 refine aI ?_
 refine ag.ret ?_
 obtain rfl:=aH h
 exact ab.kF () (.cons _ (.cons _ (.cons _ (.cons _ (.refl _))))) rfl rfl (dV rfl) (dV rfl)
theorem Oo {J:aY} {aj:bu} {aS:Vector al 4} {r:Bool} (h:uy J aj aS=some r):bE Tryz.prog 278 [I.of (J),I.of (aj),I.of (aS)] (I.of (r)):=by
 unfold uy at h
 refine bE.of Tryz.func278 rfl Tryz.ntmps278 rfl fun W A=> ?_
 refine aA ?_
 refine b8 fun aR=> ?_
 refine b8 fun a0=> ?_
 refine b8 fun bF=> ?_
 refine aM ?_
 refine b2 ?_
 refine cm 2 fs ?_
 refine cm 1 g9 ?_
 obtain⟨ak,bt,h⟩:=ay h
 refine ev K0 (HX bt) ?_
 refine aB ?_
 refine h6 ?_
 refine h6 ?_
 refine cM kJ fun cA=> ?_
 refine ck 0 fG ?_
 refine aM ?_
 refine bK ?_
 refine aA ?_
 refine aB ?_
 refine aT iy ?_
 refine aI ?_
 refine b4 h (fun h=>?_) fun h=>?_
 ·refine aA ?_
  refine aM ?_
  refine aI ?_
  refine ag.ret ?_
  refine ab.ret ?_
  obtain rfl:=aH h
  exact cv
 ·refine cP ?_
  refine ag.seq ?_
  refine aA ?_
  refine aT (aQ kg) ?_
  refine bL 0 iK jY ?_
  refine aT (ej Tryz.underlying62) ?_
  refine aB ?_
  refine aI ?_
  refine ag.block ?_
  obtain⟨av,an,h⟩:=ay h
  refine gj (γ:=Unit) (δ:=Unit) an [0,1,2,3,4,5,6,7,8,18,20,21] (fun s1 aw=> [(22,I.of (s1))]) (fun s1 aw=> []) (fun az=>Sum.elim (fun az=>Exit.exit 0) (fun az=>Exit.ret) az) (fun az aw=>Sum.elim (fun az=> [(22,I.of (az.1)),(23,I.of (az.2))]) (fun az=> [(9,I.of (az.1)),(22,I.of (az.2.1)),(23,I.of (az.2.2.1)),(52,I.of (az.2.2.2))]) az) (fun az aw=>Sum.elim (fun az=> []) (fun az=> []) az) () (fun s1 r h aw=> ?_) fun aw=> ?_
  ·clear an
   refine aA ?_
   refine bd dJ ?_
   refine bK ?_
   refine b4 h (fun h=>?_) fun h=>?_
   ·refine cP ?_
    refine ag.seq ?_
    refine ag.block ?_
    refine aA ?_
    refine aB ?_
    obtain⟨aW,cc,h⟩:=ay h
    refine gk cc Tryz.underlying62 g8 ?_
    refine aT (c7 g8) ?_
    refine cM iz fun hW=> ?_
    refine aM ?_
    refine ck 0 g8 ?_
    refine bK ?_
    obtain⟨bR,cN,h⟩:=ay h
    obtain⟨aO,cq,h⟩:=ay h
    obtain⟨dj,gp,h⟩:=ay h
    obtain⟨bc,fb,h⟩:=ay h
    obtain⟨bg,dd,h⟩:=ay h
    refine ag.draw mixed 26 ((some 27) :: (some 28) :: (some 29) :: (some 30) :: (some 31) :: (some 32) :: (some 33) :: (some 34) :: (some 35) :: (some 36) :: (some 37) :: (some 38) :: (some 39) :: (some 40) :: (some 41) :: (some 42) :: (some 43) :: (some 44) :: (some 45) :: (some 46) :: (some 47) :: (some 48) :: (some 49) :: (some 50) :: (some 51) :: (some 52) :: []) ([] :: [] :: [1] :: [2] :: [0,3] :: [4] :: [5] :: [5,6] :: [5,7] :: [8] :: [9] :: [9,10] :: [9] :: [9,11,12] :: [9,13] :: [9] :: [9,15] :: [9] :: [9] :: [9,17,18] :: [9] :: [9,20] :: [9,21] :: [9,14,16,19,22] :: [9,23] :: [9,24] :: []) (.val _ :: .val _ :: .val _ :: .val _ :: .val _ :: .val _ :: .val _ :: .val _ :: .val _ :: .val _ :: .val _ :: .val _ :: .val _ :: .val _ :: .val _ :: .val _ :: .val _ :: .val _ :: .val _ :: .val _ :: .val _ :: .val _ :: .val _ :: .val _ :: .val _ :: .val _ :: []) (false :: false :: false :: false :: false :: false :: false :: false :: false :: false :: false :: false :: false :: false :: false :: false :: false :: false :: false :: false :: false :: false :: false :: false :: false :: false :: []) (by kernel_rfl) rfl rfl rfl (fun c1=>⟨c3,H1 (aQ jT),dI 3 jQ jA,H1 (ej Tryz.underlying47),iq kX,c3,dT fun L' ao=>fun hb=>cU (ad rfl),dT fun L' ao=>fun hb=>kX (b3 rfl hb) (bD 4),e0 fun L' ao=>rz (ad rfl) (ad rfl) (fun h=>h),c3,dT fun L' ao=>fun hb=>aQ jT (ad rfl),dT fun L' ao=>fun hb=>dP (i:=3) ((aK.id bu).comp jQ) (r:=aj.bW) jA (b3 rfl hb) (ao _ _ rfl rfl) rfl rfl,dT fun L' ao=>fun hb=>cU (ad rfl),dT fun L' ao=>fun hb=>o7 (k:=bR) Tryz.underlying47 fO (b3 rfl hb) (b3 rfl hb) (cK (fC cN hb)),dT fun L' ao=>fun hb=>c7 fO (b3 rfl hb),dT fun L' ao=>fun hb=>aQ ra (ad rfl),dT fun L' ao=>fun hb=>dP (i:=0) ((aK.id cB).comp kP) (r:=(aF ak.1.bX aW).cH) bo (b3 rfl hb) (ao _ _ rfl rfl) rfl rfl,dT fun L' ao=>fun hb=>dP (i:=4) (aK.id aY) (r:=J) fs (ad rfl) (ao _ _ rfl rfl) rfl rfl,dT fun L' ao=>fun hb=>dP (i:=0) (aK.id cB) (r:=(aF ak.1.bX aW)) g8 (ad rfl) (ao _ _ rfl rfl) rfl rfl,dT fun L' ao=>fun hb=>iQ SL (OC (fC cq hb)) ⟨b3 rfl hb,b3 rfl hb,trivial⟩,dT fun L' ao=>fun hb=>cU (ad rfl),dT fun L' ao=>fun hb=>fj (k:=dj) lx (ad rfl) (b3 rfl hb) (cK (fC gp hb)),dT fun L' ao=>fun hb=>dP (i:=2) ((aK.id (Vector al 4)).comp (aK.idx (α:=al) 4 dj (cK (fC gp hb)).1)) (r:=bJ aS dj) bV (b3 rfl hb) (ao _ _ rfl rfl) rfl rfl,dT fun L' ao=>fun hb=>iQ SM (OE (fC fb hb)) ⟨b3 rfl hb,b3 rfl hb,b3 rfl hb,b3 rfl hb,trivial⟩,dT fun L' ao=>fun hb=>iy (b3 rfl hb),qD dd fun L' ao=>rz (ad rfl) (ad rfl) (fun h=>h),trivial⟩) fun c1=> ?_
    refine aI ?_
    refine b4 h (fun h=>?_) fun h=>?_
    ·refine aA ?_
     refine aM ?_
     refine aI ?_
     refine ag.ret ?_
     refine ab.c5 ?_
     refine ab.ret ?_
     obtain rfl:=aH h
     exact dE () 1
    ·refine ag.skip ?_
     refine ab.dz ?_
     refine ab.next ?_
     refine ag.cj ?_
     refine bd c8 ?_
     refine aB ?_
     refine ai.nil ?_
     obtain rfl:=aH h
     exact fe () 1
   ·refine ag.exit ?_
    refine ab.exit ?_
    obtain rfl:=aH h
    exact dE () 0
  ·clear an
   rcases av with av | av
   ·simp only [Sum.elim_inl] at h
    refine ab.e4 ?_
    refine ab.next ?_
    refine aA ?_
    refine aM ?_
    refine aI ?_
    refine ag.ret ?_
    obtain rfl:=aH h
    exact cv
   ·simp only [Sum.elim_inr] at h
    refine ab.c5 ?_
    refine ab.ret ?_
    obtain rfl:=aH h
    exact cv
end Go.Proofs.YtmnggbjcnoffeaaGreat
namespace Go.Proofs.YtmnggbjcnoffeaaGreat
open Go Gv
set_option linter.unusedVariables false
set_option linter.unusedSimpArgs false
set_option maxRecDepth 100000
set_option maxHeartbeats 2000000
theorem OO {J:ca} {aj:ca} {r:Int} (h:xt J aj=some r):bE Tryz.prog 187 [I.of (J),I.of (aj)] (I.of (r)):=by
 unfold xt at h
 refine bE.of Tryz.func187 rfl Tryz.ntmps187 rfl fun W A=> ?_
 refine aA ?_
 refine b8 fun aR=> ?_
 refine b8 fun a0=> ?_
 refine aM ?_
 refine bK ?_
 refine ag.block ?_
 refine aA ?_
 refine aT (aQ rb) ?_
 refine bL 1 mm fk ?_
 refine aT (aQ rb) ?_
 refine bL 0 mm fk ?_
 refine bd (yx Tryz.underlying4) ?_
 refine aB ?_
 refine dK (aQ rb) ?_
 refine ea (fun hb=>dP (i:=0) ((aK.id ca).comp mm) (r:=aj.gu) fk (b3 rfl hb) rfl rfl rfl) ?_
 refine ig ?_
 refine aM ?_
 refine aI ?_
 refine b4 h (fun h=>?_) fun h=>?_
 ·refine aA ?_
  refine aM ?_
  refine aI ?_
  refine ag.ret ?_
  refine ab.c5 ?_
  refine ab.ret ?_
  obtain rfl:=aH h
  exact cv
 ·refine aA ?_
  refine aT (aQ rb) ?_
  refine bL 1 mm fk ?_
  refine aT (aQ rb) ?_
  refine bL 0 mm fk ?_
  refine bd (yx Tryz.underlying4) ?_
  refine aM ?_
  refine aI ?_
  refine b4 h (fun h=>?_) fun h=>?_
  ·refine aA ?_
   refine aM ?_
   refine aI ?_
   refine ag.ret ?_
   refine ab.c5 ?_
   refine ab.ret ?_
   obtain rfl:=aH h
   exact cv
  ·refine aA ?_
   refine aT (aQ kU) ?_
   refine bL 1 iJ bV ?_
   refine aT (aQ kU) ?_
   refine bL 0 iJ bV ?_
   refine bd (BA lS rfl o6 rfl) ?_
   refine aM ?_
   refine aI ?_
   refine b4 h (fun h=>?_) fun h=>?_
   ·refine aA ?_
    refine aT (aQ kU) ?_
    refine bL 1 iJ bV ?_
    refine aT (aQ kU) ?_
    refine bL 0 iJ bV ?_
    obtain⟨ak,bt,h⟩:=ay h
    refine ev vr (ux bt) ?_
    refine aM ?_
    refine aI ?_
    refine ag.ret ?_
    refine ab.c5 ?_
    refine ab.ret ?_
    obtain rfl:=aH h
    exact cv
   ·refine aA ?_
    refine aT (aQ pQ) ?_
    refine bL 1 ny bV ?_
    refine aT (aQ pQ) ?_
    refine bL 0 ny bV ?_
    refine bd (BA lS rfl o6 rfl) ?_
    refine aM ?_
    refine aI ?_
    refine b4 h (fun h=>?_) fun h=>?_
    ·refine aA ?_
     refine aT (aQ pQ) ?_
     refine bL 1 ny bV ?_
     refine aT (aQ pQ) ?_
     refine bL 0 ny bV ?_
     obtain⟨aO,cq,h⟩:=ay h
     refine ev vr (ux cq) ?_
     refine aM ?_
     refine aI ?_
     refine ag.ret ?_
     refine ab.c5 ?_
     refine ab.ret ?_
     obtain rfl:=aH h
     exact cv
    ·refine aA ?_
     refine aT (aQ nF) ?_
     refine bL 1 lO bo ?_
     refine aT (aQ nF) ?_
     refine bL 0 lO bo ?_
     refine bd pX ?_
     refine aM ?_
     refine aI ?_
     refine b4 h (fun h=>?_) fun h=>?_
     ·refine aA ?_
      refine aT (aQ nF) ?_
      refine bL 1 lO bo ?_
      refine aT (aQ nF) ?_
      refine bL 0 lO bo ?_
      obtain⟨bc,fb,h⟩:=ay h
      refine ev vt (uE fb) ?_
      refine aM ?_
      refine aI ?_
      refine ag.ret ?_
      refine ab.c5 ?_
      refine ab.ret ?_
      obtain rfl:=aH h
      exact cv
     ·refine ag.skip ?_
      refine ab.dz ?_
      refine ab.next ?_
      refine aA ?_
      refine aT (aQ Br) ?_
      refine bL 1 sb bV ?_
      refine aT (aQ Br) ?_
      refine bL 0 sb bV ?_
      obtain⟨br,fY,h⟩:=ay h
      refine ev vr (ux fY) ?_
      refine aM ?_
      refine aI ?_
      refine ag.ret ?_
      obtain rfl:=aH h
      exact cv
theorem OF {J:List al} {aj:List al} {r:Int} (h:xp J aj=some r):bE Tryz.prog 140 [I.of (J),I.of (aj)] (I.of (r)):=by
 unfold xp at h
 refine bE.of Tryz.func140 rfl Tryz.ntmps140 rfl fun W A=> ?_
 refine aA ?_
 refine aM ?_
 refine bK ?_
 refine aA ?_
 refine aM ?_
 refine aI ?_
 refine ag.block ?_
 obtain⟨av,an,h⟩:=ay h
 refine gj (γ:=Unit) (δ:=Unit) an [0,1] (fun s1 aw=> [(4,I.of (0:Int)),(5,I.of (s1))]) (fun s1 aw=> []) (fun az=>Sum.elim (fun az=>Exit.exit 0) (fun az=>Exit.ret) az) (fun az aw=>Sum.elim (fun az=> [(4,I.of (0:Int)),(5,I.of (az.1)),(16,I.of (az.2))]) (fun az=> [(4,I.of (az.1)),(5,I.of (az.2.1)),(6,I.of (az.2.2.1)),(16,I.of (az.2.2.2.1)),(29,I.of (az.2.2.2.2))]) az) (fun az aw=>Sum.elim (fun az=> []) (fun az=> []) az) () (fun s1 r h aw=> ?_) fun aw=> ?_
 ·clear an
  refine ag.seq ?_
  refine aA ?_
  refine aB ?_
  refine aB ?_
  refine aT (ej Tryz.underlying48) ?_
  refine bd dJ ?_
  refine aB ?_
  refine dK cU ?_
  refine dK cU ?_
  refine dK (ej Tryz.underlying48) ?_
  refine iW dJ ?_
  refine ig ?_
  refine aI ?_
  refine b4 h (fun h=>?_) fun h=>?_
  ·refine cP ?_
   refine ag.seq ?_
   refine ag.block ?_
   refine ag.seq ?_
   obtain⟨aW,cc,h⟩:=ay h
   obtain⟨bR,cN,h⟩:=ay h
   obtain⟨ak,bt,h⟩:=ay h
   refine ag.draw mixed 9 [some 19,some 20,some 21,some 22,some 23,some 24,some 25,some 26,some 27] [[],[],[0,1],[2],[],[],[4,5],[6],[3,7]] [.val _,.val _,.val _,.val _,.val _,.val _,.val _,.val _,.val _] [false,false,false,false,false,false,false,false,false] (by kernel_rfl) rfl rfl rfl (fun c1=>⟨c3,c3,lB cc Tryz.underlying48 bV,H1 (c7 bV),c3,c3,lB cN Tryz.underlying48 bV,H1 (c7 bV),fm vr (ux bt),trivial⟩) fun c1=> ?_
   refine aM ?_
   refine b2 ?_
   refine aB ?_
   refine bd pX ?_
   refine aI ?_
   refine b4 h (fun h=>?_) fun h=>?_
   ·refine aA ?_
    refine aB ?_
    refine aM ?_
    refine aI ?_
    refine ag.ret ?_
    refine ab.c5 ?_
    refine ab.ret ?_
    obtain rfl:=aH h
    exact dE () 0
   ·refine ag.skip ?_
    refine ab.dz ?_
    refine ab.next ?_
    refine ag.cj ?_
    refine aB ?_
    refine bd c8 ?_
    refine aM ?_
    refine ai.nil ?_
    obtain rfl:=aH h
    exact fe () 0
  ·refine ag.exit ?_
   refine ab.exit ?_
   obtain rfl:=aH h
   exact dE () 0
 ·clear an
  rcases av with av | av
  ·simp only [Sum.elim_inl] at h
   refine ab.e4 ?_
   refine ab.next ?_
   refine aA ?_
   refine aB ?_
   refine aT (ej Tryz.underlying48) ?_
   refine aB ?_
   refine aT (ej Tryz.underlying48) ?_
   obtain⟨aO,cq,h⟩:=ay h
   refine ev vt (uE cq) ?_
   refine aM ?_
   refine aI ?_
   refine ag.ret ?_
   obtain rfl:=aH h
   exact cv
  ·simp only [Sum.elim_inr] at h
   refine ab.c5 ?_
   refine ab.ret ?_
   obtain rfl:=aH h
   exact cv
end Go.Proofs.YtmnggbjcnoffeaaGreat
namespace Go.Proofs.YtmnggbjcnoffeaaGreat
open Go Gv
set_option linter.unusedVariables false
set_option linter.unusedSimpArgs false
set_option maxRecDepth 100000
set_option maxHeartbeats 2000000
end Go.Proofs.YtmnggbjcnoffeaaGreat
namespace Go.Proofs.YtmnggbjcnoffeaaGreat
open Go Gv
set_option linter.unusedVariables false
set_option linter.unusedSimpArgs false
set_option maxRecDepth 100000
set_option maxHeartbeats 2000000
theorem Oq {J:List ca} {aj:List ca} {r:Int} (h:xg J aj=some r):bE Tryz.prog 138 [I.of (J),I.of (aj)] (I.of (r)):=by
 unfold xg at h
 refine bE.of Tryz.func138 rfl Tryz.ntmps138 rfl fun W A=> ?_
 refine aA ?_
 refine aM ?_
 refine bK ?_
 refine aA ?_
 refine aM ?_
 refine aI ?_
 refine ag.block ?_
 obtain⟨av,an,h⟩:=ay h
 refine gj (γ:=Unit) (δ:=Unit) an [0,1] (fun s1 aw=> [(4,I.of (0:Int)),(5,I.of (s1))]) (fun s1 aw=> []) (fun az=>Sum.elim (fun az=>Exit.exit 0) (fun az=>Exit.ret) az) (fun az aw=>Sum.elim (fun az=> [(4,I.of (0:Int)),(5,I.of (az.1)),(16,I.of (az.2))]) (fun az=> [(4,I.of (az.1)),(5,I.of (az.2.1)),(6,I.of (az.2.2.1)),(16,I.of (az.2.2.2.1)),(29,I.of (az.2.2.2.2))]) az) (fun az aw=>Sum.elim (fun az=> []) (fun az=> []) az) () (fun s1 r h aw=> ?_) fun aw=> ?_
 ·clear an
  refine ag.seq ?_
  refine aA ?_
  refine aB ?_
  refine aB ?_
  refine aT (ej Tryz.underlying47) ?_
  refine bd dJ ?_
  refine aB ?_
  refine dK cU ?_
  refine dK cU ?_
  refine dK (ej Tryz.underlying47) ?_
  refine iW dJ ?_
  refine ig ?_
  refine aI ?_
  refine b4 h (fun h=>?_) fun h=>?_
  ·refine cP ?_
   refine ag.seq ?_
   refine ag.block ?_
   refine ag.seq ?_
   obtain⟨aW,cc,h⟩:=ay h
   obtain⟨bR,cN,h⟩:=ay h
   obtain⟨ak,bt,h⟩:=ay h
   refine ag.draw mixed 9 [some 19,some 20,some 21,some 22,some 23,some 24,some 25,some 26,some 27] [[],[],[0,1],[2],[],[],[4,5],[6],[3,7]] [.val _,.val _,.val _,.val _,.val _,.val _,.val _,.val _,.val _] [false,false,false,false,false,false,false,false,false] (by kernel_rfl) rfl rfl rfl (fun c1=>⟨c3,c3,lB cc Tryz.underlying47 fO,H1 (c7 fO),c3,c3,lB cN Tryz.underlying47 fO,H1 (c7 fO),fm SN (OO bt),trivial⟩) fun c1=> ?_
   refine aM ?_
   refine b2 ?_
   refine aB ?_
   refine bd pX ?_
   refine aI ?_
   refine b4 h (fun h=>?_) fun h=>?_
   ·refine aA ?_
    refine aB ?_
    refine aM ?_
    refine aI ?_
    refine ag.ret ?_
    refine ab.c5 ?_
    refine ab.ret ?_
    obtain rfl:=aH h
    exact dE () 0
   ·refine ag.skip ?_
    refine ab.dz ?_
    refine ab.next ?_
    refine ag.cj ?_
    refine aB ?_
    refine bd c8 ?_
    refine aM ?_
    refine ai.nil ?_
    obtain rfl:=aH h
    exact fe () 0
  ·refine ag.exit ?_
   refine ab.exit ?_
   obtain rfl:=aH h
   exact dE () 0
 ·clear an
  rcases av with av | av
  ·simp only [Sum.elim_inl] at h
   refine ab.e4 ?_
   refine ab.next ?_
   refine aA ?_
   refine aB ?_
   refine aT (ej Tryz.underlying47) ?_
   refine aB ?_
   refine aT (ej Tryz.underlying47) ?_
   obtain⟨aO,cq,h⟩:=ay h
   refine ev vt (uE cq) ?_
   refine aM ?_
   refine aI ?_
   refine ag.ret ?_
   obtain rfl:=aH h
   exact cv
  ·simp only [Sum.elim_inr] at h
   refine ab.c5 ?_
   refine ab.ret ?_
   obtain rfl:=aH h
   exact cv
end Go.Proofs.YtmnggbjcnoffeaaGreat
namespace Go.Proofs.YtmnggbjcnoffeaaGreat
open Go Gv
set_option linter.unusedVariables false
set_option linter.unusedSimpArgs false
set_option maxRecDepth 100000
set_option maxHeartbeats 2000000
theorem OP {J:List Int} {r:Int} (h:xu J=some r):bE Tryz.prog 133 [I.of (J)] (I.of (r)):=by
 unfold xu at h
 refine bE.of Tryz.func133 rfl Tryz.ntmps133 rfl fun W A=> ?_
 refine aA ?_
 refine aM ?_
 refine bK ?_
 refine aA ?_
 refine aB ?_
 refine aT (ej Tryz.underlying63) ?_
 refine aB ?_
 refine aI ?_
 refine ag.block ?_
 obtain⟨av,an,h⟩:=ay h
 refine gj (γ:=Unit) (δ:=Unit) an [0,5,6] (fun s1 aw=> [(2,I.of (0:Int)),(7,I.of (s1))]) (fun s1 aw=> []) (fun az=>Sum.elim (fun az=>Exit.exit 0) (fun az=>Exit.ret) az) (fun az aw=>Sum.elim (fun az=> [(2,I.of (0:Int)),(7,I.of (az.1)),(8,I.of (az.2))]) (fun az=> [(2,I.of (az.1)),(4,I.of (az.2.1)),(7,I.of (az.2.2.1)),(8,I.of (az.2.2.2.1)),(12,I.of (az.2.2.2.2))]) az) (fun az aw=>Sum.elim (fun az=> []) (fun az=> []) az) () (fun s1 r h aw=> ?_) fun aw=> ?_
 ·clear an
  refine aA ?_
  refine bd dJ ?_
  refine bK ?_
  refine b4 h (fun h=>?_) fun h=>?_
  ·refine cP ?_
   refine ag.seq ?_
   refine ag.block ?_
   refine aA ?_
   obtain⟨aW,cc,h⟩:=ay h
   refine gk cc Tryz.underlying63 bo ?_
   refine aT (c7 bo) ?_
   refine aM ?_
   refine b2 ?_
   refine aB ?_
   refine bd pX ?_
   refine aI ?_
   refine b4 h (fun h=>?_) fun h=>?_
   ·refine aA ?_
    refine aB ?_
    refine aM ?_
    refine aI ?_
    refine ag.ret ?_
    refine ab.c5 ?_
    refine ab.ret ?_
    obtain rfl:=aH h
    exact dE () 0
   ·refine ag.skip ?_
    refine ab.dz ?_
    refine ab.next ?_
    refine ag.cj ?_
    refine bd c8 ?_
    refine aB ?_
    refine ai.nil ?_
    obtain rfl:=aH h
    exact fe () 0
  ·refine ag.exit ?_
   refine ab.exit ?_
   obtain rfl:=aH h
   exact dE () 0
 ·clear an
  rcases av with av | av
  ·simp only [Sum.elim_inl] at h
   refine ab.e4 ?_
   refine ab.next ?_
   refine aA ?_
   refine aM ?_
   refine aI ?_
   refine ag.ret ?_
   obtain rfl:=aH h
   exact cv
  ·simp only [Sum.elim_inr] at h
   refine ab.c5 ?_
   refine ab.ret ?_
   obtain rfl:=aH h
   exact cv
end Go.Proofs.YtmnggbjcnoffeaaGreat
namespace Go.Proofs.YtmnggbjcnoffeaaGreat
open Go Gv
set_option linter.unusedVariables false
set_option linter.unusedSimpArgs false
set_option maxRecDepth 100000
set_option maxHeartbeats 2000000
theorem HB {hp:a1 Cell} {J:Ref} {aj:al} {aS:Int} {r:Bool} (h:uj hp J aj aS=some r):cf Tryz.prog 251 [I.of (J),I.of (aj),I.of (aS)] ([] ++ a3 hp) (δ:=Unit) (fun _=>I.of (r)) (fun _=> [] ++ a3 hp):=by
 unfold uj at h
 refine cf.of Tryz.func251 rfl Tryz.ntmps251 rfl fun W A=> ?_
 refine aA ?_
 refine b8 fun aR=> ?_
 refine aM ?_
 refine bK ?_
 obtain⟨cW,eA,h⟩:=ay h
 obtain⟨cd,ff,h⟩:=ay h
 obtain⟨ct,fQ,h⟩:=ay h
 obtain⟨cS,gD,h⟩:=ay h
 obtain⟨ak,bt,h⟩:=ay h
 obtain⟨aO,cq,h⟩:=ay h
 obtain⟨bg,dd,h⟩:=ay h
 refine ag.draw mixed 26 ((some 7) :: (some 8) :: (some 9) :: (some 10) :: (some 11) :: (some 12) :: (some 13) :: (some 14) :: (some 15) :: (some 16) :: (some 17) :: (some 18) :: (some 19) :: (some 20) :: (some 21) :: (some 22) :: (some 23) :: (some 24) :: (some 25) :: (some 26) :: (some 27) :: (some 28) :: (some 29) :: (some 30) :: (some 31) :: (some 32) :: []) ([] :: [0] :: [1] :: [2] :: [2,3] :: [2,4] :: [5] :: [6] :: [6] :: [6,8] :: [6,9] :: [6,10] :: [6,7,11] :: [6,12] :: [13] :: [14] :: [14] :: [14,16] :: [14,17] :: [14,18] :: [14] :: [14,19,20] :: [14,15,21] :: [14] :: [14,22,23] :: [14,24] :: []) (.val _ :: .val _ :: .val _ :: .val _ :: .val _ :: .val _ :: .val _ :: .val _ :: .val _ :: .val _ :: .val _ :: .val _ :: .val _ :: .val _ :: .val _ :: .val _ :: .val _ :: .val _ :: .val _ :: .val _ :: .val _ :: .val _ :: .val _ :: .val _ :: .val _ :: .val _ :: []) (false :: false :: false :: false :: false :: false :: false :: false :: false :: false :: false :: false :: false :: false :: false :: false :: false :: false :: false :: false :: false :: false :: false :: false :: false :: false :: []) (by kernel_rfl) rfl rfl rfl (fun c1=>⟨c3,e0 fun L' ao=>DF Tryz.underlying321 (ad rfl),c3,dT fun L' ao=>fun hb=>cU (ad rfl),dT fun L' ao=>fun hb=>kX (b3 rfl hb) (bD 0),e0 fun L' ao=>mE (ad rfl) (ad rfl) (fun h=>h),c3,dT fun L' ao=>fun hb=>cU (ad rfl),dT fun L' ao=>fun hb=>cU (ad rfl),dT fun L' ao=>fun hb=>eI (fv (b3 rfl hb) (fC eA hb)),dT fun L' ao=>fun hb=>aQ u2 (b3 rfl hb),dT fun L' ao=>fun hb=>hj ((aK.id fM).comp r9) (r:=cd.ey) bo (b3 rfl hb) (mM (fun i e q=>ao i e q rfl) (gn (n:=1) rfl (nG (fC ff hb)) rfl)) rfl rfl,dT fun L' ao=>fun hb=>og (b3 rfl hb) (b3 rfl hb),e0 fun L' ao=>mE (ad rfl) (ad rfl) (fun h=>h),c3,dT fun L' ao=>fun hb=>dP (i:=0) (aK.id al) (r:=aj) bV (ad rfl) (ao _ _ rfl rfl) rfl rfl,dT fun L' ao=>fun hb=>cU (ad rfl),dT fun L' ao=>fun hb=>eI (fv (b3 rfl hb) (fC fQ hb)),dT fun L' ao=>fun hb=>aQ u2 (b3 rfl hb),dT fun L' ao=>fun hb=>hj ((aK.id fM).comp r9) (r:=cS.ey) bo (b3 rfl hb) (mM (fun i e q=>ao i e q rfl) (gn (n:=1) rfl (nG (fC gD hb)) rfl)) rfl rfl,dT fun L' ao=>fun hb=>cU (ad rfl),dT fun L' ao=>fun hb=>iQ KX (HM (fC bt hb)) ⟨b3 rfl hb,b3 rfl hb,trivial⟩,dT fun L' ao=>fun hb=>iQ yy (xB (fC cq hb)) ⟨b3 rfl hb,b3 rfl hb,trivial⟩,dT fun L' ao=>fun hb=>dP (i:=0) (aK.id al) (r:=aj) bV (ad rfl) (ao _ _ rfl rfl) rfl rfl,dT fun L' ao=>fun hb=>sN lS rfl o6 rfl (b3 rfl hb) (b3 rfl hb),qD dd fun L' ao=>mE (ad rfl) (ad rfl) (fun h=>h),trivial⟩) fun c1=> ?_
 refine aM ?_
 refine aI ?_
 refine ag.ret ?_
 obtain rfl:=aH h
 exact ab.gv () (.cons _ (.refl _)) rfl rfl (dV rfl)
theorem OZ {J:List aJ} {vu:Option Nat} {hk:Nat} {r:(List aJ)} (h:uM J=some r):cf Tryz.prog 269 [I.eq (aV vu J.length hk)] [⟨vu,.row 52 (J:List aJ) hk⟩] (δ:=Unit) (fun d=>I.of (r)) (fun d=> [⟨vu,.row 52 (J:List aJ) hk⟩]):=by
 unfold uM at h
 refine cf.of Tryz.func269 rfl Tryz.ntmps269 rfl fun W A=> ?_
 refine aA ?_
 refine bj (eW (look_nil (α:=aJ))) ?_
 refine b2 ?_
 refine ai.own (α:=aJ) 52 ?_
 refine bj (eW xN) ?_
 refine bK ?_
 refine aA ?_
 refine aB ?_
 refine bj (sH (i:=1) Tryz.underlying38 (ad rfl) rfl rfl) ?_
 refine aB ?_
 refine aI ?_
 refine ag.block ?_
 obtain⟨av,an,h⟩:=ay h
 refine gj (γ:=(Option Nat × Nat)) (δ:=(Option Nat × Nat)) an [0,2,6,7] (fun s1 aw=> [(3,I.eq (aV aw.1 s1.2.length aw.2)),(8,I.of (s1.1))]) (fun s1 aw=> [(0,⟨aw.1,.row 52 (s1.2:List aJ) aw.2⟩)]) (fun az=>Exit.exit 0) (fun az aw=> [(3,I.eq (aV aw.1 az.2.2.length aw.2)),(8,I.of (az.1)),(9,I.of (az.2.1))]) (fun az aw=> [(0,⟨aw.1,.row 52 (az.2.2:List aJ) aw.2⟩)]) (none,0) (fun s1 r h aw=> ?_) fun aw=> ?_
 ·clear an
  refine aA ?_
  refine bd dJ ?_
  refine bK ?_
  refine b4 h (fun h=>?_) fun h=>?_
  ·refine cP ?_
   refine ag.seq ?_
   refine ag.block ?_
   refine aA ?_
   obtain⟨aW,cc,h⟩:=ay h
   refine bj (rq (i:=1) (k:=aW) (xs:=(J:List aJ)) Tryz.underlying38 cO (ad rfl) (ad rfl) rfl (cK cc)) ?_
   refine bj (Ed (i:=1) (k:=aW) (aK.id aJ) (r:=(aF J aW)) cO (ad rfl) rfl (cK cc).1 rfl rfl) ?_
   refine cM hn fun aR=> ?_
   refine ck 0 cO ?_
   refine aI ?_
   refine ag.cj ?_
   refine aB ?_
   refine cm 0 cO ?_
   obtain⟨ak,bt,h⟩:=ay h
   refine ev za (xe bt) ?_
   refine gx [ak] Tryz.underlying38 cO hn ?_
   obtain⟨aO,cq,h⟩:=ay h
   refine j2 1 Tryz.underlying38 cO hn cq fun gR fH=> ?_
   refine aM ?_
   refine ai.nil ?_
   refine ab.dz ?_
   refine ab.next ?_
   refine ag.cj ?_
   refine bd c8 ?_
   refine aB ?_
   refine ai.nil ?_
   obtain rfl:=aH h
   exact fe (gR,fH) 1
  ·refine ag.exit ?_
   refine ab.exit ?_
   obtain rfl:=aH h
   exact dE (aw.1,aw.2) 0
 ·clear an
  refine ab.e4 ?_
  refine ab.next ?_
  refine aA ?_
  refine aB ?_
  refine aM ?_
  refine aI ?_
  refine ag.ret ?_
  refine ab.my (α:=aJ) 0 [2,3,18] ⟨rfl,rfl,rfl,trivial⟩ rfl ?_
  refine ab.bI 1 rfl ?_
  obtain rfl:=aH h
  exact mS ()
theorem HQ {J:aY} {aj:bu} {r:Int} (h:uG J aj=some r):bE Tryz.prog 190 [I.of (J),I.of (aj)] (I.of (r)):=by
 unfold uG at h
 refine bE.of Tryz.func190 rfl Tryz.ntmps190 rfl fun W A=> ?_
 refine aA ?_
 refine b8 fun aR=> ?_
 refine b8 fun a0=> ?_
 refine aM ?_
 refine b2 ?_
 refine cm 1 fs ?_
 refine cm 0 g9 ?_
 obtain⟨ak,bt,h⟩:=ay h
 refine ev K0 (HX bt) ?_
 refine aB ?_
 refine h6 ?_
 refine h6 ?_
 refine cM kJ fun bF=> ?_
 refine ck 0 fG ?_
 refine aM ?_
 refine b2 ?_
 refine aT (aQ kg) ?_
 refine bL 0 iK jY ?_
 obtain⟨aO,cq,h⟩:=ay h
 refine bj (iQ SO (Np cq) ⟨ad rfl,Qs SP (fun _ _=>N8),trivial⟩) ?_
 refine aM ?_
 refine bK ?_
 refine aA ?_
 refine aB ?_
 refine aT iy ?_
 refine aB ?_
 refine dK cU ?_
 refine iW dJ ?_
 refine tj ?_
 refine aB ?_
 refine dK cU ?_
 refine dK (aQ jT) ?_
 refine ea (fun hb=>dP (i:=1) ((aK.id bu).comp jQ) (r:=aj.bW) jA (b3 rfl hb) rfl rfl rfl) ?_
 refine dK (ej Tryz.underlying47) ?_
 refine iW kX ?_
 obtain⟨bg,dd,h⟩:=ay h
 refine dp dd (rz (ad rfl) (ad rfl) (fun h=>h)) ?_
 refine aI ?_
 refine b4 h (fun h=>?_) fun h=>?_
 ·refine aA ?_
  refine aM ?_
  refine aI ?_
  refine ag.ret ?_
  refine ab.ret ?_
  obtain rfl:=aH h
  exact cv
 ·refine cP ?_
  refine aA ?_
  refine aT (aQ jT) ?_
  refine bL 1 jQ jA ?_
  refine aB ?_
  obtain⟨aW,cc,h⟩:=ay h
  refine gk cc Tryz.underlying47 fO ?_
  refine vV lO nF ?_
  refine aT (c7 bo) ?_
  refine aM ?_
  refine aI ?_
  refine ag.ret ?_
  obtain rfl:=aH h
  exact cv
end Go.Proofs.YtmnggbjcnoffeaaGreat
