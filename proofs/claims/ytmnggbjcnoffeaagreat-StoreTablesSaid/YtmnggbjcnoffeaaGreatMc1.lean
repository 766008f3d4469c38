/-
  Each function meets its functional program. Conditions: none.
-/
import Derived.Test.YtmnggbjcnoffeaaGreatMc0
import Derived.Test.YtmnggbjcnoffeaaGreatMd
set_option linter.unusedVariables false
set_option linter.unusedSimpArgs false
set_option maxRecDepth 100000
set_option maxHeartbeats 2000000
namespace Go.Proofs.YtmnggbjcnoffeaaGreat
open Go Gv
theorem J9 {hp:aN Cell} {aj:Int} {aT:aA} {cG:Ref} :zO Tryz.prog 255 [I.ptr aj,I.ptr aT,I.ptr cG] hp (fun v:Int=>I.of v) (fun {σ ε} =>qK (σ:=σ) (ε:=ε) hp aj aT cG):=by
 refine zO.of Tryz.func255 rfl Tryz.ntmps255 rfl ?_
 intro σ ε γ Ls Lx jx mK step cd g0 r h W A u x3
 replace h:qK hp aj aT cG step cd=some r:=h
 unfold qK at h
 refine aE ?_
 refine a4 (eh bK) ?_
 refine aC ?_
 refine aM ?_
 refine ai.block ?_
 obtain⟨aF,ao,h⟩:=az h
 refine ai.D7 (σ:=Int × (σ)) (ε:=(Int × Bool × (σ)) ⊕ (Int × Int × Int × Bool × Bool × Bool × (ε))) (γ:=γ) (δ:=γ) ao (fun s1 av=> [(0,I.eq u),(1,I.ptr aj),(2,I.ptr aT),(3,I.ptr cG),(7,I.of (aj)),(8,I.of (s1.1))]) (fun s1 av=>(Ls s1.2 av)) (fun ax=>Sum.elim (fun ax=>Exit.exit 0) (fun ax=>Exit.ret) ax) (fun ax av=>Sum.elim (fun ax=> [(0,I.eq u),(1,I.ptr aj),(2,I.ptr aT),(3,I.ptr cG),(7,I.of (aj)),(8,I.of (ax.1)),(9,I.of (ax.2.1))]) (fun ax=> [(0,I.eq u),(1,I.ptr aj),(2,I.ptr aT),(3,I.ptr cG),(5,I.of (ax.1)),(6,I.of (ax.2.1)),(7,I.of (aj)),(8,I.of (ax.2.2.1)),(9,I.of (ax.2.2.2.1)),(19,I.of (ax.2.2.2.2.1)),(23,I.of (ax.2.2.2.2.2.1))]) ax) (fun ax av=>Sum.elim (fun ax=>(Ls ax.2.2 av)) (fun ax=>(Lx ax.2.2.2.2.2.2 av)) ax) g0 rfl (.same rfl (.same rfl (.same rfl (.same rfl (.same rfl (.same rfl .nil)))))) (fun s1 r h av=> ?_) (fun av=> ?_)
 ·clear ao
  refine aE ?_
  refine bs e1 ?_
  refine bY ?_
  refine cA h (fun h=>?_) fun h=>?_
  ·refine c4 ?_
   refine ai.seq ?_
   refine ai.block ?_
   refine aE ?_
   refine aC ?_
   refine aO ?_
   refine b5 ?_
   refine aO ?_
   refine bY ?_
   refine ai.seq ?_
   obtain⟨b6,c8,h⟩:=az h
   obtain⟨bq,dM,h⟩:=az h
   obtain⟨aB,bu,h⟩:=az h
   refine ai.draw mixed 9 [some 11,some 12,some 13,some 14,some 15,some 16,some 17,some 18,some 19] [[],[],[1],[2],[3],[4],[],[5,6],[0,7]] [.val _,.val _,.val _,.val _,.val _,.val _,.val _,.val _,.val _] [false,false,false,false,false,false,false,false,false] (by kernel_rfl) rfl rfl rfl (fun dk=>⟨H1 (eh b8),H1 (eh Np),ed fun L' an=>dx (dZ (ab rfl) c8),H1 (aX zH),ed fun L' an=>fi ((aQ.id fm).comp wg) (r:=bq.fA) bK (ab rfl) (jJ (fun i e q=>an i e q rfl) (Wm (Ls:=Ls) (s:=s1.2) (g:=av) 0 rfl mK (m6 dM) rfl)) rfl rfl,kc iE,dc,kc iE,fv Nq (KH bu),trivial⟩) fun dk=> ?_
   refine aM ?_
   obtain⟨bB,cV,h⟩:=az h
   refine ai.dd (γ:=Unit) (fun bm=> [(0,I.eq u),(1,I.ptr aj),(2,I.ptr aT),(3,I.ptr cG),(5,I.of (s1.1)),(6,I.of (bB)),(7,I.of (aj)),(8,I.of (s1.1)),(9,I.of (decide (s1.1 < aj))),(19,I.of (aB))]) (fun bm=>(Ls s1.2 av)) (ab rfl) (fun bm=> ?_) (fun hm ak=> ?_) (fun hm ak=> ?_)
   ·clear cV
    refine ae.next ?_
    refine aE ?_
    refine aC ?_
    refine aC ?_
    obtain⟨aH,cB,h⟩:=az h
    refine ah.yield (Lin:= []) (Ls:=Ls) (Lx:=Lx) (step:=step) (s:=s1.2) (gg:=av) rfl x3 rfl (ab rfl) cB rfl (fun s2 aS bS=> ?_) (fun et aS bS=> ?_)
    ·subst aS; simp only [Sum.elim_inl] at h
     refine ah.eo (L2:=(Ls s2 bS)) rfl ?_
     refine a4 k6 ?_
     refine aM ?_
     refine ai.Ae (ab rfl) (by first | rfl | (rw [hb]; rfl)) ?_
     refine ai.skip ?_
     refine ae.eC ?_
     refine ae.next ?_
     refine ai.cE ?_
     refine bs dX ?_
     refine aC ?_
     refine ah.nil ?_
     obtain rfl:=aK h
     exact hD bS 0
    ·subst aS; simp only [Sum.elim_inr] at h
     refine ah.eo (L2:=(Lx et bS)) rfl ?_
     refine a4 k6 ?_
     refine aM ?_
     refine ai.Nr (ab rfl) (by first | rfl | (rw [hb]; rfl)) ?_
     refine ai.ret ?_
     refine ae.dR ?_
     refine ae.ret ?_
     obtain rfl:=aK h
     exact eX bS 0
   ·have h:=hY ak cV
    refine ai.cE ?_
    refine aO ?_
    refine ah.nil ?_
    obtain rfl:=aK h
    exact dT 0 (hm ())
   ·have h:=hZ ak cV
    refine ai.skip ?_
    obtain rfl:=aK h
    exact dT 0 (hm ())
  ·refine ai.exit ?_
   refine ae.exit ?_
   obtain rfl:=aK h
   exact eX av 0
 ·clear ao
  rcases aF with aF | aF
  ·simp only [Sum.elim_inl] at h
   refine ae.gE ?_
   refine ae.nU ?_
   obtain rfl:=aK h
   exact ae.lA av (.refl _) rfl rfl
  ·simp only [Sum.elim_inr] at h
   refine ae.dR ?_
   obtain rfl:=aK h
   exact ae.lA av (.refl _) rfl rfl
theorem QD {hp:aN Cell} {aa:jW} {aj:aw} {r:(aN Cell)} (h:yu hp aa aj=some r):bO Tryz.prog 230 [I.of (aa),I.of (aj)] ([] ++ aV hp) (δ:=Unit) (fun d=>I.eD []) (fun d=> [] ++ aV r):=by
 unfold yu at h
 refine bO.of Tryz.func230 rfl Tryz.ntmps230 rfl fun W A=> ?_
 refine aE ?_
 refine cz fun aW=> ?_
 refine cz fun a2=> ?_
 refine aM ?_
 obtain⟨aB,bu,h⟩:=az h
 refine ai.draw mixed 5 [some 4,some 5,some 6,some 7,some 8] [[],[0],[],[2],[3]] [.val _,.val _,.val _,.val _,.val _] [false,false,false,false,false] (by kernel_rfl) rfl rfl rfl (fun dk=>⟨H1 (aX G0),ey 1 CI DW,H1 (aX lZ),ey 0 lr fP,fv DX (CX bu),trivial⟩) fun dk=> ?_
 obtain⟨aH,cB,h⟩:=az h
 refine ah.h1 2 0 rfl Wn (QM cB) rfl rfl ⟨ab rfl,ab rfl,trivial⟩ rfl fun ax=> ?_
 refine ah.eo (L2:=(⟨some a2,.var (aj:aw)⟩ :: ⟨some aW,.var (aa:jW)⟩ :: aV aH.2)) rfl ?_
 refine ah.nil ?_
 refine ae.nU ?_
 obtain rfl:=aK h
 exact ae.lA () (.cons _ (.cons _ (.refl _))) rfl rfl
theorem Qc {hp:aN Cell} {aa:Ref} {aT:List db} {xJ:Nat} {key02_0:Option Nat} {cap02_0:Nat} {r:(List db)} (h:Cn hp aa aT=some r):bO Tryz.prog 256 [I.of (aa),I.of (⟨257,some [.pointer (some ⟨xJ,0,none⟩)]⟩:Raw)] ([⟨some xJ,.ca ([]:List db) [(0,ba key02_0 aT.length cap02_0)]⟩,⟨key02_0,.row 347 (aT:List db) cap02_0⟩] ++ aV hp) (δ:=(Option Nat × Nat)) (fun d=>I.eD []) (fun d=> [⟨some xJ,.ca ([]:List db) [(0,ba d.1 (r).length d.2)]⟩,⟨d.1,.row 347 (r:List db) d.2⟩] ++ aV hp):=by
 unfold Cn at h
 refine bO.of Tryz.func256 rfl Tryz.ntmps256 rfl fun W A=> ?_
 refine aE ?_
 refine aC ?_
 refine bp (Gq Tryz.underlying321 (ab rfl)) ?_
 refine aM ?_
 obtain⟨bB,cV,h⟩:=az h
 refine ai.dd (γ:=(Option Nat × Nat)) (fun av=> [(0,I.of (aa)),(1,I.of (⟨257,some [.pointer (some ⟨xJ,0,none⟩)]⟩:Raw)),(5,I.of (aa.isSome))]) (fun av=>(⟨some xJ,.ca ([]:List db) [(0,ba av.1 bB.length av.2)]⟩ :: ⟨av.1,.row 347 (bB:List db) av.2⟩ :: aV hp)) (ab rfl) (fun av=> ?_) (fun hm ak=> ?_) (fun hm ak=> ?_)
 ·clear cV
  refine ae.nU ?_
  refine ae.bU 1 rfl ?_
  refine ae.bU 1 rfl ?_
  obtain rfl:=aK h
  exact ae.lA (av.1,av.2) (.cons_cons _ (.cons_cons _ (.refl _))) rfl rfl
 ·have h:=hY ak cV
  refine ai.cE ?_
  refine aC ?_
  refine aC ?_
  obtain⟨b6,c8,h⟩:=az h
  refine bp (dx (dZ (ab rfl) c8)) ?_
  refine a4 (aX sy) ?_
  obtain⟨bq,dM,h⟩:=az h
  refine bp (fi ((aQ.id fm).comp sm) (r:=bq.cD) ek (ab rfl) (ep (n:=2) rfl (m6 dM) rfl) rfl rfl) ?_
  refine hl hh eA (default:aA) .nil ?_
  refine aC ?_
  obtain⟨aB,bu,h⟩:=az h
  refine ah.vU (eN.h1 2 2 rfl HP (Qe bu) rfl rfl ⟨ab rfl,ab rfl,ab rfl,bN 0,ab rfl,trivial⟩) rfl rfl rfl fun ax=> ?_
  refine ah.eo (L2:=(⟨some xJ,.ca ([]:List db) [(0,ba ax.1 aB.length ax.2)]⟩ :: ⟨ax.1,.row 347 (aB:List db) ax.2⟩ :: aV hp)) rfl ?_
  refine ah.nil ?_
  obtain rfl:=aK h
  exact dT 0 (hm (ax.1,ax.2))
 ·have h:=hZ ak cV
  refine ai.skip ?_
  obtain rfl:=aK h
  exact dT 0 (hm (key02_0,cap02_0))
theorem Qf {aa:c9} {aj:Int} {cv:Nat} {kG:Option Nat} {kH:Nat} {r:Bool × c9} (h:yk aa aj=some r):bO Tryz.prog 268 [I.eq (.pointer (some ⟨cv,0,none⟩)),I.of (aj)] [⟨some cv,.ca (({ aa with c2:= [] } :c9):c9) [(10,ba kG aa.c2.length kH)]⟩,⟨kG,.row 52 (aa.c2:List aw) kH⟩] (δ:=(Option Nat × Nat)) (fun d=>I.of (r.1)) (fun d=> [⟨some cv,.ca (({ r.2 with c2:= [] } :c9):c9) [(10,ba d.1 (r.2.c2).length d.2)]⟩,⟨d.1,.row 52 (r.2.c2:List aw) d.2⟩]):=by
 unfold yk at h
 refine bO.of Tryz.func268 rfl Tryz.ntmps268 rfl fun W A=> ?_
 refine aE ?_
 refine aO ?_
 refine b5 ?_
 refine aC ?_
 refine aC ?_
 obtain⟨aB,bu,h⟩:=az h
 refine ah.iN (fS.call [0,1] Ns (J7 bu) ⟨ab rfl,ab rfl,trivial⟩ rfl ⟨rfl,rfl,trivial⟩ rfl) rfl rfl rfl ?_
 refine aO ?_
 refine bY ?_
 refine aE ?_
 refine aC ?_
 refine bs e1 ?_
 refine aM ?_
 refine cA h (fun h=>?_) fun h=>?_
 ·refine aE ?_
  refine aO ?_
  refine aM ?_
  refine ai.ret ?_
  refine ae.ret ?_
  refine ae.bU 1 rfl ?_
  refine ae.bU 1 rfl ?_
  obtain rfl:=aK h
  exact lJ (kG,kH)
 ·refine c4 ?_
  refine aE ?_
  refine aC ?_
  refine aC ?_
  refine a4 dx ?_
  refine a4 (aX uq) ?_
  refine bp (hW (i:=0) (q:=0) (β:=c9) (γ:=aw) mE (ab rfl) rfl rfl) ?_
  refine aC ?_
  refine aC ?_
  refine bs dX ?_
  refine ah.bU 1 rfl ?_
  obtain⟨aH,cB,h⟩:=az h
  refine eE 1 Wo (P4 cB) fun ax=> ?_
  refine a4 dx ?_
  refine a4 (aX uq) ?_
  refine ah.jE (i:=1) (γ:=aw) (b':=(({ aa with c2:= [] } :c9):c9)) (os':= [(10,ba ax.1 aH.length ax.2)]) ((aQ.id c9).comp CH) mE (ab rfl) (ab rfl) iD rfl rfl rfl rfl ?_
  refine b5 ?_
  refine aO ?_
  refine aM ?_
  refine ai.ret ?_
  refine ae.bU 0 rfl ?_
  refine ae.bU 1 rfl ?_
  obtain rfl:=aK h
  exact lJ (ax.1,ax.2)
theorem y2 {aa:aw} {r:aw} (h:o3 aa=some r):bW Tryz.prog 87 [I.of (aa)] (I.of (r)):=by
 unfold o3 at h
 refine bW.of Tryz.func87 rfl Tryz.ntmps87 rfl fun W A=> ?_
 refine aE ?_
 refine cz fun aW=> ?_
 refine dJ h3 fun a2=> ?_
 refine b5 ?_
 refine a4 (aX lZ) ?_
 refine ct 1 lr fP ?_
 obtain⟨aB,bu,h⟩:=az h
 refine fQ Wp (R1 bu) ?_
 refine a4 (aX lZ) ?_
 refine vm 1 lr fP ?_
 refine b5 ?_
 refine cR 1 cI ?_
 refine cY 0 cI ?_
 refine aM ?_
 refine ai.ret ?_
 obtain rfl:=aK h
 exact ae.iU rfl (hn 0 cI)
theorem P2 {aa:List aw} {aj:aw→aw→Option Int} {gF:Option Nat} {dL:Nat} {r:(List aw)} (h:ye aa aj=some r):bO Tryz.prog 96 [I.eq (ba gF aa.length dL),I.qp Tryz.prog aj] [⟨gF,.row 52 (aa:List aw) dL⟩] (δ:=Unit) (fun d=>I.eD []) (fun d=> [⟨gF,.row 52 (r:List aw) dL⟩]):=by
 unfold ye at h
 refine bO.of Tryz.func96 rfl Tryz.ntmps96 rfl fun W A=> ?_
 refine aE ?_
 refine aC ?_
 refine bp (ra (i:=0) Tryz.underlying38 (ab rfl) rfl rfl) ?_
 refine aO ?_
 refine aM ?_
 refine ai.cE ?_
 refine aC ?_
 refine aC ?_
 refine aC ?_
 refine a4 (ir Tryz.underlying3 Tryz.underlying130) ?_
 obtain⟨aB,bu,h⟩:=az h
 refine fQ Wq (Ro bu) ?_
 refine aC ?_
 refine ah.bU 0 rfl ?_
 obtain⟨aH,cB,h⟩:=az h
 refine eE 1 Wr (PZ (G2 cB)) fun ax=> ?_
 refine ah.hM (m:=aH.length) 0 rfl ((uc cB).symm) ?_
 refine ah.hM (m:=aH.length) 5 rfl ((uc cB).symm) ?_
 refine ah.hM (m:=aH.length) 7 rfl ((uc cB).symm) ?_
 refine ah.nil ?_
 refine ae.nU ?_
 refine ae.bU 0 rfl ?_
 obtain rfl:=aK h
 exact ae.lA () (.cons_cons _ (List.nil_sublist _)) rfl rfl
theorem QN {aa:bR} {aj:bR} {r:Int} (h:yD aa aj=some r):bW Tryz.prog 135 [I.of (aa),I.of (aj)] (I.of (r)):=by
 unfold yD at h
 refine bW.of Tryz.func135 rfl Tryz.ntmps135 rfl fun W A=> ?_
 refine aE ?_
 refine cz fun aW=> ?_
 refine cz fun a2=> ?_
 refine aO ?_
 refine bY ?_
 refine aE ?_
 refine cR 1 fp ?_
 refine cR 0 fp ?_
 refine bs (HD Nl rfl Nm rfl) ?_
 refine aM ?_
 refine cA h (fun h=>?_) fun h=>?_
 ·refine aE ?_
  refine aO ?_
  refine aM ?_
  refine ai.ret ?_
  refine ae.ret ?_
  obtain rfl:=aK h
  exact c7
 ·refine c4 ?_
  refine ai.seq ?_
  obtain⟨aB,bu,h⟩:=az h
  obtain⟨aH,cB,h⟩:=az h
  obtain⟨bn,fF,h⟩:=az h
  obtain⟨bD,gL,h⟩:=az h
  obtain⟨b0,hS,h⟩:=az h
  obtain⟨cl,il,h⟩:=az h
  obtain⟨bg,mG,h⟩:=az h
  obtain⟨fe,nY,h⟩:=az h
  refine ai.draw mixed 27 ((some 8) :: (some 9) :: (some 10) :: (some 11) :: (some 12) :: (some 13) :: (some 14) :: (some 15) :: (some 16) :: (some 17) :: (some 18) :: (some 19) :: (some 20) :: (some 21) :: (some 22) :: (some 23) :: (some 24) :: (some 25) :: (some 26) :: (some 27) :: (some 28) :: (some 29) :: (some 30) :: (some 31) :: (some 32) :: (some 33) :: (some 34) :: []) ([] :: [0] :: [] :: [2] :: [1,3] :: [] :: [5] :: [] :: [7] :: [6,8] :: [] :: [10] :: [] :: [12] :: [11,13] :: [] :: [15] :: [] :: [17] :: [16,18] :: [] :: [20] :: [] :: [22] :: [21,23] :: [4,9,14,19,24] :: [25] :: []) (.val _ :: .val _ :: .val _ :: .val _ :: .val _ :: .val _ :: .val _ :: .val _ :: .val _ :: .val _ :: .val _ :: .val _ :: .val _ :: .val _ :: .val _ :: .val _ :: .val _ :: .val _ :: .val _ :: .val _ :: .val _ :: .val _ :: .val _ :: .val _ :: .val _ :: .val _ :: .val _ :: []) (false :: false :: false :: false :: false :: false :: false :: false :: false :: false :: false :: false :: false :: false :: false :: false :: false :: false :: false :: false :: false :: false :: false :: false :: false :: false :: false :: []) (by kernel_rfl) rfl rfl rfl (fun dk=>⟨gW 1 fp,fv Nt (Kn bu),gW 0 fp,fv Nt (Kn cB),fv s4 (sn fF),H1 (aX uw),ey 1 nD b8,H1 (aX uw),ey 0 nD b8,fv D8 (CU gL),H1 (aX w9),ey 1 qM b8,H1 (aX w9),ey 0 qM b8,fv D8 (CU hS),H1 (aX sI),ey 1 oZ bK,H1 (aX sI),ey 0 oZ bK,fv s4 (sn il),H1 (aX DG),ey 1 tJ b8,H1 (aX DG),ey 0 tJ b8,fv D8 (CU mG),ed fun L' an=>ig (r:= [bn,bD,b0,cl,bg]) Tryz.underlying63 bK j7 rfl rfl (.cons (by simp) (ab rfl) (.cons (by simp) (ab rfl) (.cons (by simp) (ab rfl) (.cons (by simp) (ab rfl) (.cons (by simp) (ab rfl) (.nil)))))),fv HQ (F6 nY),trivial⟩) fun dk=> ?_
  refine aO ?_
  refine aM ?_
  refine ai.ret ?_
  obtain rfl:=aK h
  exact c7
theorem Rq {aa:Int} {aj:Int} {r:aA} (h:y3 aa aj=some r):bW Tryz.prog 189 [I.of (aa),I.of (aj)] (I.of (r)):=by
 unfold y3 at h
 refine bW.of Tryz.func189 rfl Tryz.ntmps189 rfl fun W A=> ?_
 refine aE ?_
 refine dJ eA fun aW=> ?_
 refine b5 ?_
 refine aC ?_
 obtain⟨aB,bu,h⟩:=az h
 refine fQ Nj (Kq bu) ?_
 refine aO ?_
 refine b5 ?_
 refine aC ?_
 refine bs DQ ?_
 refine aC ?_
 refine bs Aa ?_
 refine aO ?_
 refine b5 ?_
 refine aC ?_
 obtain⟨aH,cB,h⟩:=az h
 refine fQ Nu (KA cB) ?_
 refine aC ?_
 refine aC ?_
 refine bs iE ?_
 obtain⟨bn,fF,h⟩:=az h
 refine fQ Nu (KA fF) ?_
 obtain⟨bD,gL,h⟩:=az h
 refine fQ Ws (R3 gL) ?_
 refine cY 0 b8 ?_
 refine aM ?_
 refine ai.ret ?_
 obtain rfl:=aK h
 exact ae.iU rfl (hn 0 b8)
theorem QO {aj:Int} {aT:aA} {cG:Ref} :zP Tryz.prog 255 [I.ptr aj,I.ptr aT,I.ptr cG] (fun v:Int=>I.of v) (fun {σ ε} hq step cd=>tH (σ:=σ) (ε:=ε) aj aT cG hq step cd):=by
 refine zP.of Tryz.func255 rfl Tryz.ntmps255 rfl ?_
 intro σ ε γ Ls Lx hq jx mK step cd g0 R h W A u x3
 replace h:tH aj aT cG hq step cd R:=h
 unfold tH at h
 refine aE ?_
 refine a4 (eh bK) ?_
 refine aC ?_
 refine aM ?_
 refine ai.block ?_
 refine ai.w3 (σ:=Int × (σ)) (ε:=(Int × Bool × (σ)) ⊕ (Int × Int × Int × Bool × Bool × Bool × (ε))) (γ:=γ) (δ:=γ) h (fun s1 av=> [(0,I.eq u),(1,I.ptr aj),(2,I.ptr aT),(3,I.ptr cG),(7,I.of (aj)),(8,I.of (s1.1))]) (fun s1 av=>(Ls s1.2 av)) (fun ax=>Sum.elim (fun ax=>Exit.exit 0) (fun ax=>Exit.ret) ax) (fun ax av=>Sum.elim (fun ax=> [(0,I.eq u),(1,I.ptr aj),(2,I.ptr aT),(3,I.ptr cG),(7,I.of (aj)),(8,I.of (ax.1)),(9,I.of (ax.2.1))]) (fun ax=> [(0,I.eq u),(1,I.ptr aj),(2,I.ptr aT),(3,I.ptr cG),(5,I.of (ax.1)),(6,I.of (ax.2.1)),(7,I.of (aj)),(8,I.of (ax.2.2.1)),(9,I.of (ax.2.2.2.1)),(19,I.of (ax.2.2.2.2.1)),(23,I.of (ax.2.2.2.2.2.1))]) ax) (fun ax av=>Sum.elim (fun ax=>(Ls ax.2.2 av)) (fun ax=>(Lx ax.2.2.2.2.2.2 av)) ax) g0 rfl (.same rfl (.same rfl (.same rfl (.same rfl (.same rfl (.same rfl .nil)))))) (fun s1 R h av=> ?_) (fun aF h av=> ?_)
 ·refine aE ?_
  refine bs e1 ?_
  refine bY ?_
  refine ai.cond (ab rfl) (fun ak=> ?_) (fun ak=> ?_)
  ·replace h:=kE ak h
   refine c4 ?_
   refine ai.seq ?_
   refine ai.block ?_
   refine aE ?_
   refine aC ?_
   refine aO ?_
   refine b5 ?_
   refine aO ?_
   refine bY ?_
   refine ai.seq ?_
   obtain⟨b6,c8,h⟩:=aq.cf h
   obtain⟨bq,dM,h⟩:=aq.cf h
   obtain⟨aB,bu,h⟩:=aq.cf h
   refine ai.draw mixed 9 [some 11,some 12,some 13,some 14,some 15,some 16,some 17,some 18,some 19] [[],[],[1],[2],[3],[4],[],[5,6],[0,7]] [.val _,.val _,.val _,.val _,.val _,.val _,.val _,.val _,.val _] [false,false,false,false,false,false,false,false,false] (by kernel_rfl) rfl rfl rfl (fun dk=>⟨H1 (eh b8),H1 (eh Np),ed fun L' an=>dx (dZ (ab rfl) c8),H1 (aX zH),ed fun L' an=>fi ((aQ.id fm).comp wg) (r:=bq.fA) bK (ab rfl) (jJ (fun i e q=>an i e q rfl) (Nv (Ls:=Ls) (s:=s1.2) (g:=av) 0 rfl mK (m6 dM) rfl)) rfl rfl,kc iE,dc,kc iE,fv Nq (KH bu),trivial⟩) fun dk=> ?_
   refine aM ?_
   obtain⟨bB,cV,h⟩:=aq.cf h
   refine ai.dd (γ:=Unit) (fun bm=> [(0,I.eq u),(1,I.ptr aj),(2,I.ptr aT),(3,I.ptr cG),(5,I.of (s1.1)),(6,I.of (bB)),(7,I.of (aj)),(8,I.of (s1.1)),(9,I.of (decide (s1.1 < aj))),(19,I.of (aB))]) (fun bm=>(Ls s1.2 av)) (ab rfl) (fun bm=> ?_) (fun hm ak=> ?_) (fun hm ak=> ?_)
   ·clear cV
    refine ae.next ?_
    refine aE ?_
    refine aC ?_
    refine aC ?_
    refine ah.U1 (Lin:= []) (Ls:=Ls) (Lx:=Lx) (step:=step) (s:=s1.2) (gg:=av) rfl x3 rfl (ab rfl) h rfl (fun s2 h bS=> ?_) (fun et h bS=> ?_)
    ·simp only [Sum.elim_inl] at h
     refine ah.eo (L2:=(Ls s2 bS)) rfl ?_
     refine a4 k6 ?_
     refine aM ?_
     refine ai.Ae (ab rfl) (by first | rfl | (rw [hb]; rfl)) ?_
     refine ai.skip ?_
     refine ae.eC ?_
     refine ae.next ?_
     refine ai.cE ?_
     refine bs dX ?_
     refine aC ?_
     refine ah.nil ?_
     exact ae.w4 h bS 0 rfl (.same rfl (.same rfl (.same rfl (.same rfl (.same rfl (.same rfl .nil))))))
    ·simp only [Sum.elim_inr] at h
     refine ah.eo (L2:=(Lx et bS)) rfl ?_
     refine a4 k6 ?_
     refine aM ?_
     refine ai.Nr (ab rfl) (by first | rfl | (rw [hb]; rfl)) ?_
     refine ai.ret ?_
     refine ae.dR ?_
     refine ae.ret ?_
     exact ae.q7 h bS 0 rfl (by simp) rfl (.same rfl (.same rfl (.same rfl (.same rfl (.same rfl (.same rfl (.same rfl (.same rfl (.same rfl (.same rfl (.same rfl .nil)))))))))))
   ·have h:=hY ak cV
    refine ai.cE ?_
    refine aO ?_
    refine ah.nil ?_
    obtain rfl:=aK h
    exact dT 0 (hm ())
   ·have h:=hZ ak cV
    refine ai.skip ?_
    obtain rfl:=aK h
    exact dT 0 (hm ())
  ·replace h:=kF ak h
   refine ai.exit ?_
   refine ae.exit ?_
   exact ae.q7 h av 0 rfl (by simp) rfl (.same rfl (.same rfl (.same rfl (.same rfl (.same rfl (.same rfl (.same rfl .nil)))))))
 ·rcases aF with aF | aF
  ·simp only [Sum.elim_inl] at h
   refine ae.gE ?_
   refine ae.nU ?_
   exact ae.lA (⟨⟨(.inl aF.2.2:σ ⊕ ε),h⟩,av⟩: {r // _} × _) (.refl _) rfl rfl
  ·simp only [Sum.elim_inr] at h
   refine ae.dR ?_
   exact ae.lA (⟨⟨(.inr aF.2.2.2.2.2.2:σ ⊕ ε),h⟩,av⟩: {r // _} × _) (.refl _) rfl rfl
theorem Rr {aa:bh} {aj:bh} {r:Int} (h:y4 aa aj=some r):bW Tryz.prog 98 [I.of (aa),I.of (aj)] (I.of (r)):=by
 unfold y4 at h
 refine bW.of Tryz.func98 rfl Tryz.ntmps98 rfl fun W A=> ?_
 refine aE ?_
 refine cz fun aW=> ?_
 refine cz fun a2=> ?_
 refine aO ?_
 refine bY ?_
 obtain⟨aB,bu,h⟩:=az h
 obtain⟨aH,cB,h⟩:=az h
 obtain⟨bn,fF,h⟩:=az h
 obtain⟨bD,gL,h⟩:=az h
 obtain⟨b0,hS,h⟩:=az h
 obtain⟨cl,il,h⟩:=az h
 refine ai.draw mixed 27 ((some 5) :: (some 6) :: (some 7) :: (some 8) :: (some 9) :: (some 10) :: (some 11) :: (some 12) :: (some 13) :: (some 14) :: (some 15) :: (some 16) :: (some 17) :: (some 18) :: (some 19) :: (some 20) :: (some 21) :: (some 22) :: (some 23) :: (some 24) :: (some 25) :: (some 26) :: (some 27) :: (some 28) :: (some 29) :: (some 30) :: (some 31) :: []) ([] :: [0] :: [] :: [2] :: [1,3] :: [] :: [5] :: [] :: [7] :: [6,8] :: [] :: [10] :: [] :: [12] :: [11,13] :: [] :: [15] :: [] :: [17] :: [16,18] :: [] :: [20] :: [] :: [22] :: [21,23] :: [4,9,14,19,24] :: [25] :: []) (.val _ :: .val _ :: .val _ :: .val _ :: .val _ :: .val _ :: .val _ :: .val _ :: .val _ :: .val _ :: .val _ :: .val _ :: .val _ :: .val _ :: .val _ :: .val _ :: .val _ :: .val _ :: .val _ :: .val _ :: .val _ :: .val _ :: .val _ :: .val _ :: .val _ :: .val _ :: .val _ :: []) (false :: false :: false :: false :: false :: false :: false :: false :: false :: false :: false :: false :: false :: false :: false :: false :: false :: false :: false :: false :: false :: false :: false :: false :: false :: false :: false :: []) (by kernel_rfl) rfl rfl rfl (fun dk=>⟨H1 (aX oz),ey 1 mV bK,H1 (aX oz),ey 0 mV bK,fv s4 (sn bu),H1 (aX q9),ey 0 qI bK,H1 (aX q9),ey 1 qI bK,fv s4 (sn cB),H1 (aX lX),ey 1 lu lF,H1 (aX lX),ey 0 lu lF,ed fun L' an=>ly Wt (P5 fF) ⟨ab rfl,ab rfl,GG Wu (fun _ _ _=>QN),trivial⟩,H1 (aX w6),ey 1 tG bK,H1 (aX w6),ey 0 tG bK,fv s4 (sn gL),H1 (aX sF),ey 1 sl ry,H1 (aX sF),ey 0 sl ry,ed fun L' an=>ly Wv (P6 hS) ⟨ab rfl,ab rfl,GG D8 (fun _ _ _=>CU),trivial⟩,ed fun L' an=>ig (r:= [aB,aH,bn,bD,b0]) Tryz.underlying63 bK j7 rfl rfl (.cons (by simp) (ab rfl) (.cons (by simp) (ab rfl) (.cons (by simp) (ab rfl) (.cons (by simp) (ab rfl) (.cons (by simp) (ab rfl) (.nil)))))),fv HQ (F6 il),trivial⟩) fun dk=> ?_
 refine aO ?_
 refine aM ?_
 refine ai.ret ?_
 obtain rfl:=aK h
 exact c7
theorem Kf {hp:aN Cell} {aa:Ref} {aj:aA} {aT:Int} {r:Bool} (h:wi hp aa aj aT=some r):bO Tryz.prog 251 [I.of (aa),I.of (aj),I.of (aT)] ([] ++ aV hp) (δ:=Unit) (fun _=>I.of (r)) (fun _=> [] ++ aV hp):=by
 unfold wi at h
 refine bO.of Tryz.func251 rfl Tryz.ntmps251 rfl fun W A=> ?_
 refine aE ?_
 refine cz fun aW=> ?_
 refine aO ?_
 refine bY ?_
 obtain⟨b6,c8,h⟩:=az h
 obtain⟨bq,dM,h⟩:=az h
 obtain⟨bZ,eY,h⟩:=az h
 obtain⟨cg,e4,h⟩:=az h
 obtain⟨aB,bu,h⟩:=az h
 obtain⟨aH,cB,h⟩:=az h
 obtain⟨bL,dS,h⟩:=az h
 refine ai.draw mixed 26 ((some 7) :: (some 8) :: (some 9) :: (some 10) :: (some 11) :: (some 12) :: (some 13) :: (some 14) :: (some 15) :: (some 16) :: (some 17) :: (some 18) :: (some 19) :: (some 20) :: (some 21) :: (some 22) :: (some 23) :: (some 24) :: (some 25) :: (some 26) :: (some 27) :: (some 28) :: (some 29) :: (some 30) :: (some 31) :: (some 32) :: []) ([] :: [0] :: [1] :: [2] :: [2,3] :: [2,4] :: [5] :: [6] :: [6] :: [6,8] :: [6,9] :: [6,10] :: [6,7,11] :: [6,12] :: [13] :: [14] :: [14] :: [14,16] :: [14,17] :: [14,18] :: [14] :: [14,19,20] :: [14,15,21] :: [14] :: [14,22,23] :: [14,24] :: []) (.val _ :: .val _ :: .val _ :: .val _ :: .val _ :: .val _ :: .val _ :: .val _ :: .val _ :: .val _ :: .val _ :: .val _ :: .val _ :: .val _ :: .val _ :: .val _ :: .val _ :: .val _ :: .val _ :: .val _ :: .val _ :: .val _ :: .val _ :: .val _ :: .val _ :: .val _ :: []) (false :: false :: false :: false :: false :: false :: false :: false :: false :: false :: false :: false :: false :: false :: false :: false :: false :: false :: false :: false :: false :: false :: false :: false :: false :: false :: []) (by kernel_rfl) rfl rfl rfl (fun dk=>⟨dc,ed fun L' an=>Gq Tryz.underlying321 (ab rfl),dc,gu fun L' an=>fun hb=>ch (ab rfl),gu fun L' an=>fun hb=>mx (cq rfl hb) (bN 0),ed fun L' an=>pc (ab rfl) (ab rfl) (fun h=>h),dc,gu fun L' an=>fun hb=>ch (ab rfl),gu fun L' an=>fun hb=>ch (ab rfl),gu fun L' an=>fun hb=>dx (dZ (cq rfl hb) (ga c8 hb)),gu fun L' an=>fun hb=>aX zH (cq rfl hb),gu fun L' an=>fun hb=>fi ((aQ.id fm).comp wg) (r:=bq.fA) bK (cq rfl hb) (jJ (fun i e q=>an i e q rfl) (ep (n:=1) rfl (m6 (ga dM hb)) rfl)) rfl rfl,gu fun L' an=>fun hb=>Ab (cq rfl hb) (cq rfl hb),ed fun L' an=>pc (ab rfl) (ab rfl) (fun h=>h),dc,gu fun L' an=>fun hb=>e9 (i:=0) (aQ.id aA) (r:=aj) b8 (ab rfl) (an _ _ rfl rfl) rfl rfl,gu fun L' an=>fun hb=>ch (ab rfl),gu fun L' an=>fun hb=>dx (dZ (cq rfl hb) (ga eY hb)),gu fun L' an=>fun hb=>aX zH (cq rfl hb),gu fun L' an=>fun hb=>fi ((aQ.id fm).comp wg) (r:=cg.fA) bK (cq rfl hb) (jJ (fun i e q=>an i e q rfl) (ep (n:=1) rfl (m6 (ga e4 hb)) rfl)) rfl rfl,gu fun L' an=>fun hb=>ch (ab rfl),gu fun L' an=>fun hb=>ly Ww (Rq (ga bu hb)) ⟨cq rfl hb,cq rfl hb,trivial⟩,gu fun L' an=>fun hb=>ly Wx (R4 (ga cB hb)) ⟨cq rfl hb,cq rfl hb,trivial⟩,gu fun L' an=>fun hb=>e9 (i:=0) (aQ.id aA) (r:=aj) b8 (ab rfl) (an _ _ rfl rfl) rfl rfl,gu fun L' an=>fun hb=>HD rj rfl DU rfl (cq rfl hb) (cq rfl hb),JF dS fun L' an=>pc (ab rfl) (ab rfl) (fun h=>h),trivial⟩) fun dk=> ?_
 refine aO ?_
 refine aM ?_
 refine ai.ret ?_
 obtain rfl:=aK h
 exact ae.eW () (.cons _ (.refl _)) rfl rfl (dH rfl)
theorem RT {aa:List aw} {gF:Option Nat} {dL:Nat} {r:(List aw)} (h:wK aa=some r):bO Tryz.prog 269 [I.eq (ba gF aa.length dL)] [⟨gF,.row 52 (aa:List aw) dL⟩] (δ:=Unit) (fun d=>I.of (r)) (fun d=> [⟨gF,.row 52 (aa:List aw) dL⟩]):=by
 unfold wK at h
 refine bO.of Tryz.func269 rfl Tryz.ntmps269 rfl fun W A=> ?_
 refine aE ?_
 refine bp (eH (look_nil (α:=aw))) ?_
 refine b5 ?_
 refine ah.own (α:=aw) 52 ?_
 refine bp (eH ub) ?_
 refine bY ?_
 refine aE ?_
 refine aC ?_
 refine bp (ra (i:=1) Tryz.underlying38 (ab rfl) rfl rfl) ?_
 refine aC ?_
 refine aM ?_
 refine ai.block ?_
 obtain⟨aF,ao,h⟩:=az h
 refine h5 (γ:=(Option Nat × Nat)) (δ:=(Option Nat × Nat)) ao [0,2,6,7] (fun s1 av=> [(3,I.eq (ba av.1 s1.2.length av.2)),(8,I.of (s1.1))]) (fun s1 av=> [(0,⟨av.1,.row 52 (s1.2:List aw) av.2⟩)]) (fun ax=>Exit.exit 0) (fun ax av=> [(3,I.eq (ba av.1 ax.2.2.length av.2)),(8,I.of (ax.1)),(9,I.of (ax.2.1))]) (fun ax av=> [(0,⟨av.1,.row 52 (ax.2.2:List aw) av.2⟩)]) (none,0) (fun s1 r h av=> ?_) fun av=> ?_
 ·clear ao
  refine aE ?_
  refine bs e1 ?_
  refine bY ?_
  refine cA h (fun h=>?_) fun h=>?_
  ·refine c4 ?_
   refine ai.seq ?_
   refine ai.block ?_
   refine aE ?_
   obtain⟨bj,cQ,h⟩:=az h
   refine bp (lB (i:=1) (k:=bj) (xs:=(aa:List aw)) Tryz.underlying38 cI (ab rfl) (ab rfl) rfl (da cQ)) ?_
   refine bp (p6 (i:=1) (k:=bj) (aQ.id aw) (r:=(aI aa bj)) cI (ab rfl) rfl (da cQ).1 rfl rfl) ?_
   refine dJ h3 fun aW=> ?_
   refine cY 0 cI ?_
   refine aM ?_
   refine ai.cE ?_
   refine aC ?_
   refine cR 0 cI ?_
   obtain⟨aB,bu,h⟩:=az h
   refine fQ AS (y2 bu) ?_
   refine hF [aB] Tryz.underlying38 cI h3 ?_
   obtain⟨aH,cB,h⟩:=az h
   refine nX 1 Tryz.underlying38 cI h3 cB fun hN fI=> ?_
   refine aO ?_
   refine ah.nil ?_
   refine ae.eC ?_
   refine ae.next ?_
   refine ai.cE ?_
   refine bs dX ?_
   refine aC ?_
   refine ah.nil ?_
   obtain rfl:=aK h
   exact hD (hN,fI) 1
  ·refine ai.exit ?_
   refine ae.exit ?_
   obtain rfl:=aK h
   exact eX (av.1,av.2) 0
 ·clear ao
  refine ae.gE ?_
  refine ae.next ?_
  refine aE ?_
  refine aC ?_
  refine aO ?_
  refine aM ?_
  refine ai.ret ?_
  refine ae.m3 (α:=aw) 0 [2,3,18] ⟨rfl,rfl,rfl,trivial⟩ rfl ?_
  refine ae.bU 1 rfl ?_
  obtain rfl:=aK h
  exact lJ ()
theorem QZ {hp:aN Cell} {aa:Ref} {aj:Int} {aT:Bool} {r:aw × Bool} (h:yN hp aa aj aT=some r):bO Tryz.prog 72 [I.of (aa),I.of (aj),I.of (aT)] ([] ++ aV hp) (δ:=Unit) (fun _=>I.eD [I.of (r.1),I.of (r.2)]) (fun _=> [] ++ aV hp):=by
 unfold yN at h
 refine bO.of Tryz.func72 rfl Tryz.ntmps72 rfl fun W A=> ?_
 refine aE ?_
 refine dJ h3 fun aW=> ?_
 refine aO ?_
 refine bY ?_
 refine aE ?_
 refine aC ?_
 refine a4 k6 ?_
 refine aM ?_
 refine cA h (fun h=>?_) fun h=>?_
 ·refine aE ?_
  refine hl AT h3 (default:aw) .nil ?_
  refine cY 0 cI ?_
  refine aO ?_
  refine aM ?_
  refine ai.ret ?_
  refine ae.ret ?_
  obtain rfl:=aK h
  exact ae.kl () (.cons _ (.refl _)) rfl rfl (kk (i:=0) cI rfl rfl) (dH rfl)
 ·refine c4 ?_
  refine aE ?_
  refine aC ?_
  obtain⟨b6,c8,h⟩:=az h
  refine bp (dx (dZ (ab rfl) c8)) ?_
  refine a4 (aX wV) ?_
  obtain⟨bq,dM,h⟩:=az h
  refine bp (fi ((aQ.id gx).comp tD) (r:=bq.jl) uK (ab rfl) (ep (n:=1) rfl (lY dM) rfl) rfl rfl) ?_
  refine aC ?_
  obtain⟨bZ,eY,h⟩:=az h
  obtain⟨cg,e4,h⟩:=az h
  obtain⟨bL,dS,h⟩:=az h
  refine bp (um (r:=bL) Tryz.underlying133 xG h3 (kD (ab rfl) eY) (ab rfl) (ep (n:=1) rfl (o8 e4) rfl) (aK dS)) ?_
  obtain⟨aB,bu,h⟩:=az h
  refine fQ AS (y2 bu) ?_
  refine cY 0 cI ?_
  refine aO ?_
  refine aM ?_
  refine ai.ret ?_
  obtain rfl:=aK h
  exact ae.kl () (.cons _ (.refl _)) rfl rfl (kk (i:=0) cI rfl rfl) (dH rfl)
theorem Sq {hp:aN Cell} {aa:Int} {Q:Ref × (aN Cell)→Prop} (h:C7 hp aa Q):bO Tryz.prog 243 [I.of (aa)] ([] ++ aV hp) (δ:= {r:Ref × (aN Cell) // Q r} × Unit) (fun d=>I.of (d.1.1.1)) (fun d=> [] ++ aV d.1.1.2):=by
 unfold C7 at h
 refine bO.of Tryz.func243 rfl Tryz.ntmps243 rfl fun W A=> ?_
 refine aE ?_
 refine bp (eH (oj)) ?_
 refine b5 ?_
 refine aC ?_
 refine bs DQ ?_
 refine bs Aa ?_
 obtain⟨bL,dS,h⟩:=aq.cf h
 refine dD dS (cW (b:=({ (default:fm) with fA:=min (max 1 aa) 128 } :fm)) rfl Wy Wz (.cons wg rfl (ab rfl) rfl (.nil))) ?_
 refine ah.xq 0 rfl (Cell.iV bL) (fun _=>rfl) (ab rfl) rfl fun cN rK=> ?_
 replace h:=aq.p4 h cN rK
 refine aO ?_
 refine aM ?_
 refine ai.ret ?_
 exact ae.eW (⟨⟨((some cN.1:Ref),cN.2),h⟩,()⟩: {r // _} × _) (.refl _) rfl rfl (dH rfl)
theorem P0 {aa:List aw} {aj:aw} {aT:aw→aw→Option Int} {r:Int × Bool} (h:yd aa aj aT=some r):bW Tryz.prog 274 [I.of (aa),I.of (aj),I.qp Tryz.prog aT] (I.eD [I.of (r.1),I.of (r.2)]):=by
 unfold yd at h
 refine bW.of Tryz.func274 rfl Tryz.ntmps274 rfl fun W A=> ?_
 refine aE ?_
 refine cz fun aW=> ?_
 refine aO ?_
 refine aO ?_
 refine b5 ?_
 refine aC ?_
 refine a4 (eT Tryz.underlying38) ?_
 refine aO ?_
 refine b5 ?_
 refine aC ?_
 refine aO ?_
 refine aO ?_
 refine bY ?_
 refine ai.block ?_
 obtain⟨aF,ao,h⟩:=az h
 refine h5 (γ:=Unit) (δ:=Unit) ao [0,1,2,4,6,7,8] (fun s1 av=> [(9,I.of (s1.1)),(10,I.of (s1.2))]) (fun s1 av=> []) (fun ax=>Exit.exit 0) (fun ax av=> [(9,I.of (ax.1)),(10,I.of (ax.2.1)),(17,I.of (ax.2.2))]) (fun ax av=> []) () (fun s1 r h av=> ?_) fun av=> ?_
 ·clear ao
  refine ai.seq ?_
  refine aE ?_
  refine aC ?_
  refine aC ?_
  refine bs e1 ?_
  refine aM ?_
  refine cA h (fun h=>?_) fun h=>?_
  ·refine c4 ?_
   refine ai.block ?_
   refine aE ?_
   refine aC ?_
   refine aC ?_
   refine bs dX ?_
   refine a4 (ir Tryz.underlying3 Tryz.underlying130) ?_
   refine bp (p5 (ab rfl) (fT 1 rfl)) ?_
   refine a4 (U2 Tryz.underlying130 Tryz.underlying3) ?_
   refine aO ?_
   refine bY ?_
   obtain⟨bj,cQ,h⟩:=az h
   obtain⟨aB,bu,h⟩:=az h
   refine ai.draw mixed 8 [some 24,some 25,some 26,some 27,some 28,some 29,some 30,some 31] [[],[],[],[1,2],[3],[],[0,4,5],[6]] [.val _,.val _,.val _,.val _,.val _,.val _,.val _,.val _] [false,false,false,false,false,false,false,false] (by kernel_rfl) rfl rfl rfl (fun dk=>⟨dc,dc,dc,nk cQ Tryz.underlying38 cI,H1 (eh cI),gW 0 cI,ed fun L' an=>zy (ab rfl) (ab rfl) (ab rfl) bu,kc e1,trivial⟩) fun dk=> ?_
   refine aM ?_
   obtain⟨bB,cV,h⟩:=az h
   refine kr (γ:=Unit) [0,1,2,4,6,7,8,11,17,31] (fun bm=> [(9,I.of (bB.1)),(10,I.of (bB.2))]) (fun bm=> []) (fun bm=> ?_) (fun hm ak=> ?_) fun hm ak=> ?_
   ·clear cV
    refine ae.eC ?_
    obtain rfl:=aK h
    exact hD () 0
   ·have h:=hY ak cV
    refine ai.cE ?_
    refine aC ?_
    obtain⟨bL,dS,h⟩:=az h
    refine dD dS (dX (ab rfl) (bN 1)) ?_
    refine aO ?_
    refine ah.nil ?_
    obtain rfl:=aK h
    exact dT 0 (hm ())
   ·have h:=hZ ak cV
    refine ai.cE ?_
    refine aC ?_
    refine aO ?_
    refine ah.nil ?_
    obtain rfl:=aK h
    exact dT 0 (hm ())
  ·refine ai.exit ?_
   refine ae.exit ?_
   obtain rfl:=aK h
   exact eX () 0
 ·clear ao
  refine ae.gE ?_
  refine ae.next ?_
  refine ai.seq ?_
  refine j8 [0,1,2,4,7,8,9,10,17] ?_
  obtain⟨bI,cS,h⟩:=az h
  obtain⟨aH,cB,h⟩:=az h
  refine ai.draw mixed 15 [some 35,some 36,some 37,some 38,some 39,some 40,some 41,some 42,some 43,some 44,some 45,some 46,some 47,some 48,some 6] [[],[],[],[1,2],[3],[4],[4],[4],[4,6,7],[4,8],[4],[4,5,9,10],[4,11],[4,12],[0]] [.val _,.val _,.val _,.val _,.val _,.val _,.val _,.val _,.val _,.val _,.val _,.val _,.val _,.val _,.val _] [false,false,false,false,false,false,false,false,false,false,false,false,false,false,false] (by kernel_rfl) rfl rfl rfl (fun mH=>⟨dc,dc,dc,kc e1,dc,gu fun L' an=>fun hb=>ch (ab rfl),gu fun L' an=>fun hb=>ch (ab rfl),gu fun L' an=>fun hb=>ch (ab rfl),gu fun L' an=>fun hb=>ri (k:=bI) Tryz.underlying38 cI (cq rfl hb) (cq rfl hb) (da (ga cS hb)),gu fun L' an=>fun hb=>eh cI (cq rfl hb),gu fun L' an=>fun hb=>e9 (i:=0) (aQ.id aw) (r:=aj) cI (ab rfl) (an _ _ rfl rfl) rfl rfl,gu fun L' an=>fun hb=>zy (cq rfl hb) (cq rfl hb) (cq rfl hb) (ga cB hb),gu fun L' an=>fun hb=>gI (cq rfl hb) (bN 0),ed fun L' an=>pc (ab rfl) (ab rfl) (fun h=>h),JH,trivial⟩) fun mH=> ?_
  refine aO ?_
  refine aM ?_
  refine ai.ret ?_
  obtain rfl:=aK h
  exact OR
theorem Qd {aa:List cM} {aj:cM→Option Bool} {r:Int} (h:yj aa aj=some r):bW Tryz.prog 146 [I.of (aa),I.vj Tryz.prog aj] (I.of (r)):=by
 unfold yj at h
 refine bW.of Tryz.func146 rfl Tryz.ntmps146 rfl fun W A=> ?_
 refine aE ?_
 refine aO ?_
 refine bY ?_
 refine aE ?_
 refine aC ?_
 refine a4 (eT Tryz.underlying62) ?_
 refine aC ?_
 refine aM ?_
 refine ai.block ?_
 obtain⟨aF,ao,h⟩:=az h
 refine h5 (γ:=Unit) (δ:=Unit) ao [0,1,7] (fun s1 av=> [(4,I.of (0:Int)),(8,I.of (s1))]) (fun s1 av=> []) (fun ax=>Sum.elim (fun ax=>Exit.exit 0) (fun ax=>Exit.ret) ax) (fun ax av=>Sum.elim (fun ax=> [(4,I.of (0:Int)),(8,I.of (ax.1)),(9,I.of (ax.2))]) (fun ax=> [(4,I.of (ax.1)),(5,I.of (ax.2.1)),(8,I.of (ax.2.2.1)),(9,I.of (ax.2.2.2.1)),(16,I.of (ax.2.2.2.2))]) ax) (fun ax av=>Sum.elim (fun ax=> []) (fun ax=> []) ax) () (fun s1 r h av=> ?_) fun av=> ?_
 ·clear ao
  refine aE ?_
  refine bs e1 ?_
  refine bY ?_
  refine cA h (fun h=>?_) fun h=>?_
  ·refine c4 ?_
   refine ai.seq ?_
   refine ai.block ?_
   refine aE ?_
   refine aC ?_
   refine aO ?_
   refine b5 ?_
   refine aC ?_
   refine aC ?_
   refine aC ?_
   obtain⟨bj,cQ,h⟩:=az h
   refine ik cQ Tryz.underlying62 ko ?_
   refine a4 (eh ko) ?_
   obtain⟨aB,bu,h⟩:=az h
   refine bp (Dh (ab rfl) (ab rfl) bu) ?_
   refine aM ?_
   refine cA h (fun h=>?_) fun h=>?_
   ·refine aE ?_
    refine aC ?_
    refine aO ?_
    refine aM ?_
    refine ai.ret ?_
    refine ae.dR ?_
    refine ae.ret ?_
    obtain rfl:=aK h
    exact eX () 0
   ·refine ai.skip ?_
    refine ae.eC ?_
    refine ae.next ?_
    refine ai.cE ?_
    refine bs dX ?_
    refine aC ?_
    refine ah.nil ?_
    obtain rfl:=aK h
    exact hD () 0
  ·refine ai.exit ?_
   refine ae.exit ?_
   obtain rfl:=aK h
   exact eX () 0
 ·clear ao
  rcases aF with aF | aF
  ·simp only [Sum.elim_inl] at h
   refine ae.gE ?_
   refine ae.next ?_
   refine aE ?_
   refine aO ?_
   refine aM ?_
   refine ai.ret ?_
   obtain rfl:=aK h
   exact c7
  ·simp only [Sum.elim_inr] at h
   refine ae.dR ?_
   refine ae.ret ?_
   obtain rfl:=aK h
   exact c7
theorem Q7 {aa:cM} {r:Bool} (h:FZ aa=some r):bW Tryz.prog 207 [I.of (aa)] (I.of (r)):=by
 unfold FZ at h
 refine bW.of Tryz.func207 rfl Tryz.ntmps207 rfl fun W A=> ?_
 refine aE ?_
 refine cz fun aW=> ?_
 refine aO ?_
 refine b5 ?_
 refine a4 (aX zN) ?_
 refine ct 0 mX bK ?_
 refine bs gI ?_
 refine aO ?_
 refine aM ?_
 refine ai.ret ?_
 obtain rfl:=aK h
 exact c7
theorem Q8 {hp:aN Cell} {aa:Ref} {aj:Int} {r:Int} (h:yS hp aa aj=some r):bO Tryz.prog 78 [I.of (aa),I.of (aj)] ([] ++ aV hp) (δ:=Unit) (fun _=>I.of (r)) (fun _=> [] ++ aV hp):=by
 unfold yS at h
 refine bO.of Tryz.func78 rfl Tryz.ntmps78 rfl fun W A=> ?_
 refine aE ?_
 refine aO ?_
 refine bY ?_
 obtain⟨b6,c8,h⟩:=az h
 obtain⟨bq,dM,h⟩:=az h
 obtain⟨aB,bu,h⟩:=az h
 obtain⟨bj,cQ,h⟩:=az h
 refine ai.draw mixed 14 [some 5,some 6,some 7,some 8,some 9,some 10,some 11,some 12,some 13,some 14,some 15,some 16,some 17,some 18] [[],[0],[1],[2],[3],[],[5],[6],[7],[],[8,9],[4,10],[11],[12]] [.val _,.val _,.val _,.val _,.val _,.val _,.val _,.val _,.val _,.val _,.val _,.val _,.val _,.val _] [false,false,false,false,false,false,false,false,false,false,false,false,false,false] (by kernel_rfl) rfl rfl rfl (fun dk=>⟨dc,ed fun L' an=>dx (dZ (ab rfl) c8),H1 (aX GY),H1 (aX o7),ed fun L' an=>fi (((aQ.id ib).comp Cr).comp oY) (r:=bq.gB.b1) oE (ab rfl) (jJ (fun i e q=>an i e q rfl) (ep (n:=0) rfl (nK dM) rfl)) rfl rfl,dc,ed fun L' an=>dx (dZ (ab rfl) c8),H1 (aX GY),ed fun L' an=>fi ((aQ.id ib).comp Cr) (r:=bq.gB) iv (ab rfl) (jJ (fun i e q=>an i e q rfl) (ep (n:=0) rfl (nK dM) rfl)) rfl rfl,dc,fv Ic (F5 bu),nk cQ Tryz.underlying28 gJ,vl yK U3,H1 (eh bK),trivial⟩) fun dk=> ?_
 refine aO ?_
 refine aM ?_
 refine ai.ret ?_
 obtain rfl:=aK h
 exact ae.eW () (.refl _) rfl rfl (dH rfl)
theorem RK {aa:a1} {aj:bh} {r:bQ × Bool} (h:zb aa aj=some r):bW Tryz.prog 206 [I.of (aa),I.of (aj)] (I.eD [I.of (r.1),I.of (r.2)]):=by
 unfold zb at h
 refine bW.of Tryz.func206 rfl Tryz.ntmps206 rfl fun W A=> ?_
 refine aE ?_
 refine cz fun aW=> ?_
 refine cz fun a2=> ?_
 refine dJ l8 fun bF=> ?_
 refine aO ?_
 refine b5 ?_
 refine cR 2 iv ?_
 refine a4 (aX oz) ?_
 refine ct 1 mV bK ?_
 obtain⟨aB,bu,h⟩:=az h
 refine fQ Ic (F5 bu) ?_
 refine aO ?_
 refine bY ?_
 refine aE ?_
 refine aC ?_
 refine bs e1 ?_
 refine aM ?_
 refine cA h (fun h=>?_) fun h=>?_
 ·refine aE ?_
  refine hl AR l8 (default:bQ) .nil ?_
  refine cY 0 gJ ?_
  refine aO ?_
  refine aM ?_
  refine ai.ret ?_
  refine ae.ret ?_
  obtain rfl:=aK h
  exact ae.En rfl (hn 0 gJ) (ve rfl)
 ·refine c4 ?_
  refine aE ?_
  refine a4 (aX o7) ?_
  refine ct 2 oY oE ?_
  refine aC ?_
  obtain⟨bj,cQ,h⟩:=az h
  refine ik cQ Tryz.underlying28 gJ ?_
  refine a4 (eh gJ) ?_
  refine cY 0 gJ ?_
  refine aO ?_
  refine aM ?_
  refine ai.ret ?_
  obtain rfl:=aK h
  exact ae.En rfl (hn 0 gJ) (ve rfl)
theorem RL {aa:bR} {aj:bR} {r:Int} (h:zc aa aj=some r):bW Tryz.prog 187 [I.of (aa),I.of (aj)] (I.of (r)):=by
 unfold zc at h
 refine bW.of Tryz.func187 rfl Tryz.ntmps187 rfl fun W A=> ?_
 refine aE ?_
 refine cz fun aW=> ?_
 refine cz fun a2=> ?_
 refine aO ?_
 refine bY ?_
 refine ai.block ?_
 refine aE ?_
 refine a4 (aX w8) ?_
 refine ct 1 nC hE ?_
 refine a4 (aX w8) ?_
 refine ct 0 nC hE ?_
 refine bs (HE Tryz.underlying4) ?_
 refine aC ?_
 refine dB (aX w8) ?_
 refine eQ (fun hb=>e9 (i:=0) ((aQ.id bR).comp nC) (r:=aj.fO) hE (cq rfl hb) rfl rfl rfl) ?_
 refine k9 ?_
 refine aO ?_
 refine aM ?_
 refine cA h (fun h=>?_) fun h=>?_
 ·refine aE ?_
  refine aO ?_
  refine aM ?_
  refine ai.ret ?_
  refine ae.dR ?_
  refine ae.ret ?_
  obtain rfl:=aK h
  exact c7
 ·refine aE ?_
  refine a4 (aX w8) ?_
  refine ct 1 nC hE ?_
  refine a4 (aX w8) ?_
  refine ct 0 nC hE ?_
  refine bs (HE Tryz.underlying4) ?_
  refine aO ?_
  refine aM ?_
  refine cA h (fun h=>?_) fun h=>?_
  ·refine aE ?_
   refine aO ?_
   refine aM ?_
   refine ai.ret ?_
   refine ae.dR ?_
   refine ae.ret ?_
   obtain rfl:=aK h
   exact c7
  ·refine aE ?_
   refine a4 (aX uw) ?_
   refine ct 1 nD b8 ?_
   refine a4 (aX uw) ?_
   refine ct 0 nD b8 ?_
   refine bs (HL rj rfl DU rfl) ?_
   refine aO ?_
   refine aM ?_
   refine cA h (fun h=>?_) fun h=>?_
   ·refine aE ?_
    refine a4 (aX uw) ?_
    refine ct 1 nD b8 ?_
    refine a4 (aX uw) ?_
    refine ct 0 nD b8 ?_
    obtain⟨aB,bu,h⟩:=az h
    refine fQ D9 (CV bu) ?_
    refine aO ?_
    refine aM ?_
    refine ai.ret ?_
    refine ae.dR ?_
    refine ae.ret ?_
    obtain rfl:=aK h
    exact c7
   ·refine aE ?_
    refine a4 (aX w9) ?_
    refine ct 1 qM b8 ?_
    refine a4 (aX w9) ?_
    refine ct 0 qM b8 ?_
    refine bs (HL rj rfl DU rfl) ?_
    refine aO ?_
    refine aM ?_
    refine cA h (fun h=>?_) fun h=>?_
    ·refine aE ?_
     refine a4 (aX w9) ?_
     refine ct 1 qM b8 ?_
     refine a4 (aX w9) ?_
     refine ct 0 qM b8 ?_
     obtain⟨aH,cB,h⟩:=az h
     refine fQ D9 (CV cB) ?_
     refine aO ?_
     refine aM ?_
     refine ai.ret ?_
     refine ae.dR ?_
     refine ae.ret ?_
     obtain rfl:=aK h
     exact c7
    ·refine aE ?_
     refine a4 (aX sI) ?_
     refine ct 1 oZ bK ?_
     refine a4 (aX sI) ?_
     refine ct 0 oZ bK ?_
     refine bs pd ?_
     refine aO ?_
     refine aM ?_
     refine cA h (fun h=>?_) fun h=>?_
     ·refine aE ?_
      refine a4 (aX sI) ?_
      refine ct 1 oZ bK ?_
      refine a4 (aX sI) ?_
      refine ct 0 oZ bK ?_
      obtain⟨bn,fF,h⟩:=az h
      refine fQ xj (wD fF) ?_
      refine aO ?_
      refine aM ?_
      refine ai.ret ?_
      refine ae.dR ?_
      refine ae.ret ?_
      obtain rfl:=aK h
      exact c7
     ·refine ai.skip ?_
      refine ae.eC ?_
      refine ae.next ?_
      refine aE ?_
      refine a4 (aX DG) ?_
      refine ct 1 tJ b8 ?_
      refine a4 (aX DG) ?_
      refine ct 0 tJ b8 ?_
      obtain⟨bD,gL,h⟩:=az h
      refine fQ D9 (CV gL) ?_
      refine aO ?_
      refine aM ?_
      refine ai.ret ?_
      obtain rfl:=aK h
      exact c7
theorem RC {aa:List aA} {aj:List aA} {r:Int} (h:y9 aa aj=some r):bW Tryz.prog 140 [I.of (aa),I.of (aj)] (I.of (r)):=by
 unfold y9 at h
 refine bW.of Tryz.func140 rfl Tryz.ntmps140 rfl fun W A=> ?_
 refine aE ?_
 refine aO ?_
 refine bY ?_
 refine aE ?_
 refine aO ?_
 refine aM ?_
 refine ai.block ?_
 obtain⟨aF,ao,h⟩:=az h
 refine h5 (γ:=Unit) (δ:=Unit) ao [0,1] (fun s1 av=> [(4,I.of (0:Int)),(5,I.of (s1))]) (fun s1 av=> []) (fun ax=>Sum.elim (fun ax=>Exit.exit 0) (fun ax=>Exit.ret) ax) (fun ax av=>Sum.elim (fun ax=> [(4,I.of (0:Int)),(5,I.of (ax.1)),(16,I.of (ax.2))]) (fun ax=> [(4,I.of (ax.1)),(5,I.of (ax.2.1)),(6,I.of (ax.2.2.1)),(16,I.of (ax.2.2.2.1)),(29,I.of (ax.2.2.2.2))]) ax) (fun ax av=>Sum.elim (fun ax=> []) (fun ax=> []) ax) () (fun s1 r h av=> ?_) fun av=> ?_
 ·clear ao
  refine ai.seq ?_
  refine aE ?_
  refine aC ?_
  refine aC ?_
  refine a4 (eT Tryz.underlying48) ?_
  refine bs e1 ?_
  refine aC ?_
  refine dB ch ?_
  refine dB ch ?_
  refine dB (eT Tryz.underlying48) ?_
  refine kO e1 ?_
  refine k9 ?_
  refine aM ?_
  refine cA h (fun h=>?_) fun h=>?_
  ·refine c4 ?_
   refine ai.seq ?_
   refine ai.block ?_
   refine ai.seq ?_
   obtain⟨bj,cQ,h⟩:=az h
   obtain⟨bI,cS,h⟩:=az h
   obtain⟨aB,bu,h⟩:=az h
   refine ai.draw mixed 9 [some 19,some 20,some 21,some 22,some 23,some 24,some 25,some 26,some 27] [[],[],[0,1],[2],[],[],[4,5],[6],[3,7]] [.val _,.val _,.val _,.val _,.val _,.val _,.val _,.val _,.val _] [false,false,false,false,false,false,false,false,false] (by kernel_rfl) rfl rfl rfl (fun dk=>⟨dc,dc,nk cQ Tryz.underlying48 b8,H1 (eh b8),dc,dc,nk cS Tryz.underlying48 b8,H1 (eh b8),fv D9 (CV bu),trivial⟩) fun dk=> ?_
   refine aO ?_
   refine b5 ?_
   refine aC ?_
   refine bs pd ?_
   refine aM ?_
   refine cA h (fun h=>?_) fun h=>?_
   ·refine aE ?_
    refine aC ?_
    refine aO ?_
    refine aM ?_
    refine ai.ret ?_
    refine ae.dR ?_
    refine ae.ret ?_
    obtain rfl:=aK h
    exact eX () 0
   ·refine ai.skip ?_
    refine ae.eC ?_
    refine ae.next ?_
    refine ai.cE ?_
    refine aC ?_
    refine bs dX ?_
    refine aO ?_
    refine ah.nil ?_
    obtain rfl:=aK h
    exact hD () 0
  ·refine ai.exit ?_
   refine ae.exit ?_
   obtain rfl:=aK h
   exact eX () 0
 ·clear ao
  rcases aF with aF | aF
  ·simp only [Sum.elim_inl] at h
   refine ae.gE ?_
   refine ae.next ?_
   refine aE ?_
   refine aC ?_
   refine a4 (eT Tryz.underlying48) ?_
   refine aC ?_
   refine a4 (eT Tryz.underlying48) ?_
   obtain⟨aH,cB,h⟩:=az h
   refine fQ xj (wD cB) ?_
   refine aO ?_
   refine aM ?_
   refine ai.ret ?_
   obtain rfl:=aK h
   exact c7
  ·simp only [Sum.elim_inr] at h
   refine ae.dR ?_
   refine ae.ret ?_
   obtain rfl:=aK h
   exact c7
theorem Rs {hp:aN Cell} {aa:Ref} {r:(List db)} (h:CW hp aa=some r):bO Tryz.prog 253 [I.of (aa)] ([] ++ aV hp) (δ:=Unit) (fun _=>I.of (r)) (fun _=> [] ++ aV hp):=by
 unfold CW at h
 refine bO.of Tryz.func253 rfl Tryz.ntmps253 rfl fun W A=> ?_
 refine aE ?_
 refine bp (eH (look_nil (α:=db))) ?_
 refine b5 ?_
 refine ah.oy (z:=(default:List db)) [0] Ud WA rfl fun aW=> ?_
 refine ah.own (α:=db) 347 ?_
 refine b5 ?_
 refine aC ?_
 refine bp (WB (f:=257) (us:= [.pointer (some ⟨aW,0,none⟩)]) ⟨ab rfl,trivial⟩) ?_
 refine ah.EL (γ:=db) (b':=([]:List db)) (aQ.id (List db)) 1 0 rfl rfl rfl ?_
 refine ah.bU 0 rfl ?_
 refine ah.bU 1 rfl ?_
 obtain⟨aB,bu,h⟩:=az h
 refine ah.vU (eN.h1 2 2 rfl WC (Qc (key02_0:=none) (cap02_0:=0) bu) rfl rfl ⟨ab rfl,ab rfl,trivial⟩) rfl rfl rfl fun ax=> ?_
 refine ah.eo (L2:=(⟨some aW,.ca ([]:List db) [(0,ba ax.1 aB.length ax.2)]⟩ :: ⟨ax.1,.row 347 (aB:List db) ax.2⟩ :: aV hp)) rfl ?_
 refine b5 ?_
 refine bp (hW (i:=0) (q:=0) (β:=List db) (γ:=db) HM (ab rfl) rfl rfl) ?_
 refine aO ?_
 refine aM ?_
 refine ai.ret ?_
 refine ae.sU (β:=List db) (γ:=db) (b':=(aB:List db)) (aQ.id (List db)) 0 1 0 2 rfl rfl rfl rfl rfl rfl rfl ?_
 refine ae.oA 0 rfl ?_
 obtain rfl:=aK h
 exact ae.eW () (.cons _ (.cons _ (.refl _))) rfl rfl (dH rfl)
theorem QE {hp:aN Cell} {aa:jj} {aj:aw} {Q:(aN Cell)→Prop} (h:yv hp aa aj Q):bO Tryz.prog 263 [I.of (aa),I.of (aj)] ([] ++ aV hp) (δ:= {r:(aN Cell) // Q r} × Unit) (fun d=>I.eD []) (fun d=> [] ++ aV d.1.1):=by
 unfold yv at h
 refine bO.of Tryz.func263 rfl Tryz.ntmps263 rfl fun W A=> ?_
 refine aE ?_
 refine cz fun aW=> ?_
 refine cz fun a2=> ?_
 refine aM ?_
 refine ai.cE ?_
 refine a4 (aX G5) ?_
 refine ct 1 CJ Ea ?_
 refine a4 (aX nL) ?_
 refine ct 0 mU bK ?_
 obtain⟨b6,c8,h⟩:=aq.cf h
 obtain⟨bq,dM,h⟩:=aq.cf h
 obtain⟨aB,bu,h⟩:=aq.cf h
 refine ah.vU (eN.obj 2 (fun q:Option Nat × Nat=>Cell.qj aB.2 q.1 q.2) rfl (uy dM) WD (Qf bu) rfl (fun _=>rfl) ⟨dZ (ab rfl) c8,ab rfl,trivial⟩) rfl rfl rfl fun ax=> ?_
 replace h:=aq.any_bind h ax
 obtain⟨cw,iG,h⟩:=aq.cf h
 refine ah.eo (L2:=(⟨some a2,.var (aj:aw)⟩ :: ⟨some aW,.var (aa:jj)⟩ :: aV cw)) (by rw [← aK iG]; rfl) ?_
 refine ah.nil ?_
 refine ae.nU ?_
 exact ae.lA (⟨⟨cw,h⟩,()⟩: {r // _} × _) (.cons _ (.cons _ (.refl _))) rfl rfl
theorem Kr {aa:a1} {aj:bh} {r:Int} (h:wF aa aj=some r):bW Tryz.prog 190 [I.of (aa),I.of (aj)] (I.of (r)):=by
 unfold wF at h
 refine bW.of Tryz.func190 rfl Tryz.ntmps190 rfl fun W A=> ?_
 refine aE ?_
 refine cz fun aW=> ?_
 refine cz fun a2=> ?_
 refine aO ?_
 refine b5 ?_
 refine cR 1 iv ?_
 refine cR 0 fP ?_
 obtain⟨aB,bu,h⟩:=az h
 refine fQ WE (RK bu) ?_
 refine aC ?_
 refine hc ?_
 refine hc ?_
 refine dJ l8 fun bF=> ?_
 refine cY 0 gJ ?_
 refine aO ?_
 refine b5 ?_
 refine a4 (aX mv) ?_
 refine ct 0 kC l6 ?_
 obtain⟨aH,cB,h⟩:=az h
 refine bp (ly WG (Qd cB) ⟨ab rfl,Tx WH (fun _ _=>Q7),trivial⟩) ?_
 refine aO ?_
 refine bY ?_
 refine aE ?_
 refine aC ?_
 refine a4 k6 ?_
 refine aC ?_
 refine dB ch ?_
 refine kO e1 ?_
 refine Bf ?_
 refine aC ?_
 refine dB ch ?_
 refine dB (aX lX) ?_
 refine eQ (fun hb=>e9 (i:=1) ((aQ.id bh).comp lu) (r:=aj.cZ) lF (cq rfl hb) rfl rfl rfl) ?_
 refine dB (eT Tryz.underlying47) ?_
 refine kO mx ?_
 obtain⟨bL,dS,h⟩:=az h
 refine dD dS (Em (ab rfl) (ab rfl) (fun h=>h)) ?_
 refine aM ?_
 refine cA h (fun h=>?_) fun h=>?_
 ·refine aE ?_
  refine aO ?_
  refine aM ?_
  refine ai.ret ?_
  refine ae.ret ?_
  obtain rfl:=aK h
  exact c7
 ·refine c4 ?_
  refine aE ?_
  refine a4 (aX lX) ?_
  refine ct 1 lu lF ?_
  refine aC ?_
  obtain⟨bj,cQ,h⟩:=az h
  refine ik cQ Tryz.underlying47 fp ?_
  refine OT oZ sI ?_
  refine a4 (eh bK) ?_
  refine aO ?_
  refine aM ?_
  refine ai.ret ?_
  obtain rfl:=aK h
  exact c7
theorem Rt {aa:List bR} {aj:List bR} {r:Int} (h:y5 aa aj=some r):bW Tryz.prog 138 [I.of (aa),I.of (aj)] (I.of (r)):=by
 unfold y5 at h
 refine bW.of Tryz.func138 rfl Tryz.ntmps138 rfl fun W A=> ?_
 refine aE ?_
 refine aO ?_
 refine bY ?_
 refine aE ?_
 refine aO ?_
 refine aM ?_
 refine ai.block ?_
 obtain⟨aF,ao,h⟩:=az h
 refine h5 (γ:=Unit) (δ:=Unit) ao [0,1] (fun s1 av=> [(4,I.of (0:Int)),(5,I.of (s1))]) (fun s1 av=> []) (fun ax=>Sum.elim (fun ax=>Exit.exit 0) (fun ax=>Exit.ret) ax) (fun ax av=>Sum.elim (fun ax=> [(4,I.of (0:Int)),(5,I.of (ax.1)),(16,I.of (ax.2))]) (fun ax=> [(4,I.of (ax.1)),(5,I.of (ax.2.1)),(6,I.of (ax.2.2.1)),(16,I.of (ax.2.2.2.1)),(29,I.of (ax.2.2.2.2))]) ax) (fun ax av=>Sum.elim (fun ax=> []) (fun ax=> []) ax) () (fun s1 r h av=> ?_) fun av=> ?_
 ·clear ao
  refine ai.seq ?_
  refine aE ?_
  refine aC ?_
  refine aC ?_
  refine a4 (eT Tryz.underlying47) ?_
  refine bs e1 ?_
  refine aC ?_
  refine dB ch ?_
  refine dB ch ?_
  refine dB (eT Tryz.underlying47) ?_
  refine kO e1 ?_
  refine k9 ?_
  refine aM ?_
  refine cA h (fun h=>?_) fun h=>?_
  ·refine c4 ?_
   refine ai.seq ?_
   refine ai.block ?_
   refine ai.seq ?_
   obtain⟨bj,cQ,h⟩:=az h
   obtain⟨bI,cS,h⟩:=az h
   obtain⟨aB,bu,h⟩:=az h
   refine ai.draw mixed 9 [some 19,some 20,some 21,some 22,some 23,some 24,some 25,some 26,some 27] [[],[],[0,1],[2],[],[],[4,5],[6],[3,7]] [.val _,.val _,.val _,.val _,.val _,.val _,.val _,.val _,.val _] [false,false,false,false,false,false,false,false,false] (by kernel_rfl) rfl rfl rfl (fun dk=>⟨dc,dc,nk cQ Tryz.underlying47 fp,H1 (eh fp),dc,dc,nk cS Tryz.underlying47 fp,H1 (eh fp),fv WI (RL bu),trivial⟩) fun dk=> ?_
   refine aO ?_
   refine b5 ?_
   refine aC ?_
   refine bs pd ?_
   refine aM ?_
   refine cA h (fun h=>?_) fun h=>?_
   ·refine aE ?_
    refine aC ?_
    refine aO ?_
    refine aM ?_
    refine ai.ret ?_
    refine ae.dR ?_
    refine ae.ret ?_
    obtain rfl:=aK h
    exact eX () 0
   ·refine ai.skip ?_
    refine ae.eC ?_
    refine ae.next ?_
    refine ai.cE ?_
    refine aC ?_
    refine bs dX ?_
    refine aO ?_
    refine ah.nil ?_
    obtain rfl:=aK h
    exact hD () 0
  ·refine ai.exit ?_
   refine ae.exit ?_
   obtain rfl:=aK h
   exact eX () 0
 ·clear ao
  rcases aF with aF | aF
  ·simp only [Sum.elim_inl] at h
   refine ae.gE ?_
   refine ae.next ?_
   refine aE ?_
   refine aC ?_
   refine a4 (eT Tryz.underlying47) ?_
   refine aC ?_
   refine a4 (eT Tryz.underlying47) ?_
   obtain⟨aH,cB,h⟩:=az h
   refine fQ xj (wD cB) ?_
   refine aO ?_
   refine aM ?_
   refine ai.ret ?_
   obtain rfl:=aK h
   exact c7
  ·simp only [Sum.elim_inr] at h
   refine ae.dR ?_
   refine ae.ret ?_
   obtain rfl:=aK h
   exact c7
theorem QF {aa:aw} {aj:aw} {r:Int} (h:Cz aa aj=some r):bW Tryz.prog 97 [I.of (aa),I.of (aj)] (I.of (r)):=by
 unfold Cz at h
 refine bW.of Tryz.func97 rfl Tryz.ntmps97 rfl fun W A=> ?_
 refine aE ?_
 refine cz fun aW=> ?_
 refine cz fun a2=> ?_
 refine aO ?_
 refine b5 ?_
 refine a4 (aX lZ) ?_
 refine ct 1 lr fP ?_
 refine a4 (aX lZ) ?_
 refine ct 0 lr fP ?_
 obtain⟨aB,bu,h⟩:=az h
 refine fQ Yk (Rr bu) ?_
 refine aO ?_
 refine aM ?_
 refine ai.ret ?_
 obtain rfl:=aK h
 exact c7
theorem Kk {hp:aN Cell} {aa:Ref} {aj:aA} {aT:Int} {r:Ref} (h:wv hp aa aj aT=some r):bO Tryz.prog 247 [I.of (aa),I.of (aj),I.of (aT)] ([] ++ aV hp) (δ:=Unit) (fun _=>I.of (r)) (fun _=> [] ++ aV hp):=by
 unfold wv at h
 refine bO.ofM Tryz.func247 rfl Tryz.ntmps247 rfl fun W A=> ?_
 refine aE ?_
 refine cz fun aW=> ?_
 refine dJ xk fun a2=> ?_
 refine bY ?_
 refine aE ?_
 refine aC ?_
 refine cR 1 b8 ?_
 refine aC ?_
 obtain⟨aB,bu,h⟩:=az h
 refine ah.iN (fS.jF 2 rfl Nw (Kf bu) ⟨ab rfl,ab rfl,ab rfl,trivial⟩) rfl rfl rfl ?_
 refine a4 k6 ?_
 refine aM ?_
 refine cA h (fun h=>?_) fun h=>?_
 ·refine aE ?_
  refine ah.store (i:=0) (aQ.id Ref) (v:=((none:Ref):Ref)) (b':=((none:Ref):Ref)) ek (ab rfl) (oj) rfl rfl rfl ?_
  refine aM ?_
  refine ai.ret ?_
  refine ae.ret ?_
  obtain rfl:=aK h
  refine ae.Er ?_
  exact ae.eW () (.cons _ (.cons _ (.refl _))) rfl rfl (kk (i:=0) ek rfl rfl)
 ·refine c4 ?_
  refine aE ?_
  refine aC ?_
  obtain⟨b6,c8,h⟩:=az h
  refine bp (dx (dZ (ab rfl) c8)) ?_
  refine a4 (aX sy) ?_
  obtain⟨bq,dM,h⟩:=az h
  refine bp (fi ((aQ.id fm).comp sm) (r:=bq.cD) ek (ab rfl) (ep (n:=2) rfl (m6 dM) rfl) rfl rfl) ?_
  refine dJ xk fun bF=> ?_
  refine cY 0 ek ?_
  refine bY ?_
  refine aE ?_
  refine aC ?_
  refine cR 2 b8 ?_
  refine aC ?_
  obtain⟨aH,cB,h⟩:=az h
  refine fQ HR (F4 cB) ?_
  refine aM ?_
  refine ai.block ?_
  obtain⟨aF,ao,h⟩:=az h
  refine K4 (hp:=hp) (γ:=Unit) (g0:=()) (Ls:=fun s1 av=>(⟨some bF,.var (s1:Ref)⟩ :: ⟨some a2,.var ((default:Ref):Ref)⟩ :: ⟨some aW,.var (aj:aA)⟩ :: aV hp)) (Lx:=fun ax av=>(⟨some bF,.var (ax.1:Ref)⟩ :: ⟨some a2,.var (ax.2:Ref)⟩ :: ⟨some aW,.var (aj:aA)⟩ :: aV hp)) (fun s1 av=> [⟨some bF,.var (s1:Ref)⟩,⟨some a2,.var ((default:Ref):Ref)⟩,⟨some aW,.var (aj:aA)⟩]) (fun ax=> .ret) rfl HS rfl J9 ao (fun _ _=>rfl) rfl rfl (fun vt s1 r h av nm nv nn l D rec Bi=> ?_) (fun s1 aS av D=> ?_) (fun ax aS av D=> ?_)
  ·clear ao
   refine ai.cE ?_
   refine aO ?_
   refine ah.nil ?_
   refine ae.begin 0 rfl Bi ?_
   refine ai.block ?_
   refine ai.seq ?_
   refine aE ?_
   refine cR 2 ek ?_
   refine bp (mo Tryz.underlying331 (ab rfl)) ?_
   refine aM ?_
   refine cA h (fun h=>?_) fun h=>?_
   ·refine aE ?_
    refine ah.store (i:=3) (aQ.id Ref) (v:=((none:Ref):Ref)) (b':=((none:Ref):Ref)) ek (ab rfl) (oj) rfl rfl rfl ?_
    refine aM ?_
    refine ai.ret ?_
    refine ae.ret ?_
    refine ae.dR ?_
    obtain rfl:=aK h
    exact ae.U4 () 0 rfl rfl rfl
   ·refine c4 ?_
    refine ai.cE ?_
    refine cR 2 ek ?_
    refine aC ?_
    obtain⟨bZ,eY,h⟩:=az h
    refine bp (dx (dZ (ab rfl) eY)) ?_
    refine a4 (aX q1) ?_
    obtain⟨bj,cQ,h⟩:=az h
    refine bp (jH (k:=bj) sT (ab rfl) (ab rfl) (da cQ)) ?_
    obtain⟨cg,e4,h⟩:=az h
    refine bp (fi (((aQ.id dz).comp qJ).comp (aQ.idx (α:=Ref) 2 bj (da cQ).1)) (r:=b7 cg.c1 bj) ek (ab rfl) (ep (n:=5) rfl (jn e4) rfl) rfl rfl) ?_
    refine cY 2 ek ?_
    refine ah.nil ?_
    refine ae.eC ?_
    obtain rfl:=aK h
    exact ae.OZ () 0 rfl
  ·clear ao; subst aS; simp only [Sum.elim_inl] at h
   refine ae.eo (L2:=(⟨some D,.dC⟩ :: ⟨some bF,.var (s1:Ref)⟩ :: ⟨some a2,.var ((default:Ref):Ref)⟩ :: ⟨some aW,.var (aj:aA)⟩ :: aV hp)) rfl ?_
   refine ae.eC ?_
   refine ae.next ?_
   refine aE ?_
   refine cR 1 ek ?_
   refine cY 2 ek ?_
   refine aM ?_
   refine ai.ret ?_
   obtain rfl:=aK h
   refine ae.Es 0 rfl rfl ?_
   exact ae.eW () (.cons _ (.cons _ (.cons _ (.cons _ (.refl _))))) rfl rfl (kk (i:=2) ek rfl rfl)
  ·clear ao; subst aS; simp only [Sum.elim_inr] at h
   refine ai.ret ?_
   refine ae.eo (L2:=(⟨some D,.dC⟩ :: ⟨some bF,.var (ax.1:Ref)⟩ :: ⟨some a2,.var (ax.2:Ref)⟩ :: ⟨some aW,.var (aj:aA)⟩ :: aV hp)) rfl ?_
   refine ae.dR ?_
   refine ae.ret ?_
   obtain rfl:=aK h
   refine ae.Es 0 rfl rfl ?_
   exact ae.eW () (.cons _ (.cons _ (.cons _ (.cons _ (.refl _))))) rfl rfl (kk (i:=2) ek rfl rfl)
theorem Qv {aa:c9} {cv:Nat} {kG:Option Nat} {kH:Nat} {r:(List aw)} (h:yq aa=some r):bO Tryz.prog 264 [I.eq (.pointer (some ⟨cv,0,none⟩))] [⟨some cv,.ca (({ aa with c2:= [] } :c9):c9) [(10,ba kG aa.c2.length kH)]⟩,⟨kG,.row 52 (aa.c2:List aw) kH⟩] (δ:=Unit) (fun d=>I.of (r)) (fun d=> [⟨some cv,.ca (({ aa with c2:= [] } :c9):c9) [(10,ba kG (aa.c2).length kH)]⟩,⟨kG,.row 52 (aa.c2:List aw) kH⟩]):=by
 unfold yq at h
 refine bO.of Tryz.func264 rfl Tryz.ntmps264 rfl fun W A=> ?_
 refine aE ?_
 refine bp (eH (look_nil (α:=aw))) ?_
 refine bY ?_
 refine aE ?_
 refine aC ?_
 refine bp (Hn Tryz.underlying170 (ab rfl)) ?_
 refine aM ?_
 refine ai.Ae (ab rfl) rfl ?_
 refine c4 ?_
 refine aE ?_
 refine aC ?_
 refine a4 dx ?_
 refine a4 (aX uq) ?_
 refine bp (hW (i:=0) (q:=0) (β:=c9) (γ:=aw) mE (ab rfl) rfl rfl) ?_
 obtain⟨aB,bu,h⟩:=az h
 refine ah.iN (fS.call [1] WJ (RT bu) ⟨ab rfl,trivial⟩ rfl ⟨rfl,trivial⟩ rfl) rfl rfl rfl ?_
 refine aO ?_
 refine aM ?_
 refine ai.ret ?_
 refine ae.bU 1 rfl ?_
 refine ae.bU 1 rfl ?_
 obtain rfl:=aK h
 exact lJ ()
theorem Ru {hp:aN Cell} {aa:Ref} {r:Int} (h:wy hp aa=some r):bO Tryz.prog 246 [I.of (aa)] ([] ++ aV hp) (δ:=Unit) (fun _=>I.of (r)) (fun _=> [] ++ aV hp):=by
 unfold wy at h
 refine bO.of Tryz.func246 rfl Tryz.ntmps246 rfl fun W A=> ?_
 refine aE ?_
 refine aO ?_
 refine b5 ?_
 refine aC ?_
 obtain⟨aB,bu,h⟩:=az h
 refine ah.iN (fS.jF 0 rfl WK (Rs bu) ⟨ab rfl,trivial⟩) rfl rfl rfl ?_
 refine a4 (eT Tryz.underlying342) ?_
 refine aO ?_
 refine aM ?_
 refine ai.ret ?_
 obtain rfl:=aK h
 exact ae.eW () (.refl _) rfl rfl (dH rfl)
theorem Kx {aa:a1} {aj:aw} {aT:aw} {r:Bool} (h:wH aa aj aT=some r):bW Tryz.prog 150 [I.of (aa),I.of (aj),I.of (aT)] (I.of (r)):=by
 unfold wH at h
 refine bW.of Tryz.func150 rfl Tryz.ntmps150 rfl fun W A=> ?_
 refine aE ?_
 refine cz fun aW=> ?_
 refine cz fun a2=> ?_
 refine cz fun bF=> ?_
 refine aO ?_
 refine bY ?_
 obtain⟨aB,bu,h⟩:=az h
 obtain⟨aH,cB,h⟩:=az h
 obtain⟨bn,fF,h⟩:=az h
 obtain⟨bD,gL,h⟩:=az h
 obtain⟨b0,hS,h⟩:=az h
 obtain⟨cl,il,h⟩:=az h
 refine ai.draw mixed 24 ((some 7) :: (some 8) :: (some 9) :: (some 10) :: (some 11) :: (some 12) :: (some 13) :: (some 14) :: (some 15) :: (some 16) :: (some 17) :: (some 18) :: (some 19) :: (some 20) :: (some 21) :: (some 22) :: (some 23) :: (some 24) :: (some 25) :: (some 26) :: (some 27) :: (some 28) :: (some 29) :: (some 30) :: []) ([] :: [0] :: [1] :: [] :: [3] :: [4] :: [2,5] :: [] :: [] :: [8] :: [7,9] :: [] :: [] :: [12] :: [11,13] :: [10,14] :: [] :: [16] :: [] :: [18] :: [17,19] :: [6,15,20] :: [21] :: [22] :: []) (.val _ :: .val _ :: .val _ :: .val _ :: .val _ :: .val _ :: .val _ :: .val _ :: .val _ :: .val _ :: .val _ :: .val _ :: .val _ :: .val _ :: .val _ :: .val _ :: .val _ :: .val _ :: .val _ :: .val _ :: .val _ :: .val _ :: .val _ :: .val _ :: []) (false :: false :: false :: false :: false :: false :: false :: false :: false :: false :: false :: false :: false :: false :: false :: false :: false :: false :: false :: false :: false :: false :: false :: false :: []) (by kernel_rfl) rfl rfl rfl (fun dk=>⟨H1 (aX lZ),H1 (aX q9),ey 1 (lr.comp qI) bK,H1 (aX lZ),H1 (aX q9),ey 0 (lr.comp qI) bK,fv s4 (sn bu),gW 2 iv,H1 (aX lZ),ey 1 lr fP,fv Nx (Kr cB),gW 2 iv,H1 (aX lZ),ey 0 lr fP,fv Nx (Kr fF),fv s4 (sn gL),H1 (aX nL),ey 1 mU bK,H1 (aX nL),ey 0 mU bK,fv s4 (sn hS),ed fun L' an=>ig (r:= [aB,bD,b0]) Tryz.underlying63 bK j7 rfl rfl (.cons (by simp) (ab rfl) (.cons (by simp) (ab rfl) (.cons (by simp) (ab rfl) (.nil)))),fv HQ (F6 il),kc qe,trivial⟩) fun dk=> ?_
 refine aO ?_
 refine aM ?_
 refine ai.ret ?_
 obtain rfl:=aK h
 exact c7
theorem Rv {aa:bh} {aj:bh} {r:Int} (h:y6 aa aj=some r):bW Tryz.prog 100 [I.of (aa),I.of (aj)] (I.of (r)):=by
 unfold y6 at h
 refine bW.of Tryz.func100 rfl Tryz.ntmps100 rfl fun W A=> ?_
 refine aE ?_
 refine cz fun aW=> ?_
 refine cz fun a2=> ?_
 refine aO ?_
 refine bY ?_
 refine ai.seq ?_
 obtain⟨aB,bu,h⟩:=az h
 obtain⟨aH,cB,h⟩:=az h
 obtain⟨bn,fF,h⟩:=az h
 obtain⟨bD,gL,h⟩:=az h
 refine ai.draw mixed 23 ((some 7) :: (some 8) :: (some 9) :: (some 10) :: (some 11) :: (some 12) :: (some 13) :: (some 14) :: (some 15) :: (some 16) :: (some 17) :: (some 18) :: (some 19) :: (some 20) :: (some 21) :: (some 22) :: (some 23) :: (some 24) :: (some 25) :: (some 26) :: (some 27) :: (some 28) :: (some 29) :: []) ([] :: [0] :: [] :: [2] :: [1,3] :: [] :: [5] :: [] :: [7] :: [6,8] :: [] :: [10] :: [] :: [12] :: [11,13] :: [] :: [15] :: [] :: [17] :: [16,18] :: [4,9,14,19] :: [20] :: [] :: []) (.val _ :: .val _ :: .val _ :: .val _ :: .val _ :: .val _ :: .val _ :: .val _ :: .val _ :: .val _ :: .val _ :: .val _ :: .val _ :: .val _ :: .val _ :: .val _ :: .val _ :: .val _ :: .val _ :: .val _ :: .val _ :: .val _ :: .val _ :: []) (false :: false :: false :: false :: false :: false :: false :: false :: false :: false :: false :: false :: false :: false :: false :: false :: false :: false :: false :: false :: false :: false :: false :: []) (by kernel_rfl) rfl rfl rfl (fun dk=>⟨H1 (aX oz),ey 1 mV bK,H1 (aX oz),ey 0 mV bK,fv xj (wD bu),H1 (aX q9),ey 0 qI bK,H1 (aX q9),ey 1 qI bK,fv xj (wD cB),H1 (aX lX),ey 1 lu lF,H1 (aX lX),ey 0 lu lF,fv WL (Rt fF),H1 (aX w6),ey 1 tG bK,H1 (aX w6),ey 0 tG bK,fv xj (wD gL),ed fun L' an=>ig (r:= [aB,aH,bn,bD]) Tryz.underlying63 bK j7 rfl rfl (.cons (by simp) (ab rfl) (.cons (by simp) (ab rfl) (.cons (by simp) (ab rfl) (.cons (by simp) (ab rfl) (.nil))))),H1 (eT Tryz.underlying63),dc,trivial⟩) fun dk=> ?_
 refine aM ?_
 refine ai.block ?_
 obtain⟨aF,ao,h⟩:=az h
 refine h5 (γ:=Unit) (δ:=Unit) ao [0,1,2,3,27,28] (fun s1 av=> [(4,I.of (0:Int)),(29,I.of (s1))]) (fun s1 av=> []) (fun ax=>Sum.elim (fun ax=>Exit.exit 0) (fun ax=>Exit.ret) ax) (fun ax av=>Sum.elim (fun ax=> [(4,I.of (0:Int)),(29,I.of (ax.1)),(30,I.of (ax.2))]) (fun ax=> [(4,I.of (ax.1)),(6,I.of (ax.2.1)),(29,I.of (ax.2.2.1)),(30,I.of (ax.2.2.2.1)),(34,I.of (ax.2.2.2.2))]) ax) (fun ax av=>Sum.elim (fun ax=> []) (fun ax=> []) ax) () (fun s1 r h av=> ?_) fun av=> ?_
 ·clear ao
  refine aE ?_
  refine bs e1 ?_
  refine bY ?_
  refine cA h (fun h=>?_) fun h=>?_
  ·refine c4 ?_
   refine ai.seq ?_
   refine ai.block ?_
   refine aE ?_
   obtain⟨bj,cQ,h⟩:=az h
   refine ik cQ Tryz.underlying63 bK ?_
   refine a4 (eh bK) ?_
   refine aO ?_
   refine b5 ?_
   refine aC ?_
   refine bs pd ?_
   refine aM ?_
   refine cA h (fun h=>?_) fun h=>?_
   ·refine aE ?_
    refine aC ?_
    refine aO ?_
    refine aM ?_
    refine ai.ret ?_
    refine ae.dR ?_
    refine ae.ret ?_
    obtain rfl:=aK h
    exact eX () 0
   ·refine ai.skip ?_
    refine ae.eC ?_
    refine ae.next ?_
    refine ai.cE ?_
    refine bs dX ?_
    refine aC ?_
    refine ah.nil ?_
    obtain rfl:=aK h
    exact hD () 0
  ·refine ai.exit ?_
   refine ae.exit ?_
   obtain rfl:=aK h
   exact eX () 0
 ·clear ao
  rcases aF with aF | aF
  ·simp only [Sum.elim_inl] at h
   refine ae.gE ?_
   refine ae.next ?_
   refine aE ?_
   refine a4 (aX sF) ?_
   refine ct 1 sl ry ?_
   refine a4 (aX sF) ?_
   refine ct 0 sl ry ?_
   obtain⟨b0,hS,h⟩:=az h
   refine fQ WM (RC hS) ?_
   refine aO ?_
   refine aM ?_
   refine ai.ret ?_
   obtain rfl:=aK h
   exact c7
  ·simp only [Sum.elim_inr] at h
   refine ae.dR ?_
   refine ae.ret ?_
   obtain rfl:=aK h
   exact c7
theorem Rg {hp:aN Cell} {aa:Ref} {Q:(List aw) × (aN Cell)→Prop} (h:wu hp aa Q):bO Tryz.prog 53 [I.of (aa)] ([] ++ aV hp) (δ:= {r:(List aw) × (aN Cell) // Q r} × Unit) (fun d=>I.of (d.1.1.1)) (fun d=> [] ++ aV d.1.1.2):=by
 unfold wu at h
 refine bO.of Tryz.func53 rfl Tryz.ntmps53 rfl fun W A=> ?_
 refine aE ?_
 refine bp (eH (look_nil (α:=aw))) ?_
 refine bY ?_
 refine aE ?_
 refine aC ?_
 refine bp (mo Tryz.underlying37 (ab rfl)) ?_
 refine aM ?_
 refine ai.cond (ab rfl) (fun ak=> ?_) (fun ak=> ?_)
 ·replace h:=kE ak h
  refine aE ?_
  refine bp (eH (look_nil (α:=aw))) ?_
  refine aM ?_
  refine ai.ret ?_
  refine ae.ret ?_
  exact ae.eW (⟨⟨(([]:List aw),hp),h⟩,()⟩: {r // _} × _) (.refl _) rfl rfl (dH rfl)
 ·replace h:=kF ak h
  refine c4 ?_
  refine aE ?_
  refine ah.own (α:=aw) 52 ?_
  refine bp (eH ub) ?_
  refine bY ?_
  refine aE ?_
  refine aC ?_
  obtain⟨b6,c8,h⟩:=aq.cf h
  refine bp (dx (dZ (ab rfl) c8)) ?_
  refine a4 (aX wV) ?_
  obtain⟨bq,dM,h⟩:=aq.cf h
  refine bp (fi ((aQ.id gx).comp tD) (r:=bq.jl) uK (ab rfl) (ep (n:=1) rfl (lY dM) rfl) rfl rfl) ?_
  obtain⟨bZ,eY,h⟩:=aq.cf h
  obtain⟨cg,e4,h⟩:=aq.cf h
  refine ah.U5 (α:=Int) (β:=aw) (kv:=cg) 1 rfl Tryz.underlying133 (kD (ab rfl) eY) (o8 e4) rfl rfl fun aW bB nw cw=> ?_
  refine aM ?_
  refine ai.block ?_
  refine ai.w3 (σ:=(List Nat) × (List aw)) (ε:=(Bool × (List Nat) × (List aw))) (γ:=(Option Nat × Nat)) (δ:=(Option Nat × Nat)) h (fun s1 av=> [(0,I.of (aa)),(2,I.of ([]:List aw)),(3,I.eq (ba av.1 s1.2.length av.2)),(7,I.of (aa.isNone)),(12,I.eq (.pointer (some ⟨aW,0,none⟩)))]) (fun s1 av=>(⟨some aW,.is (la bZ bB nw s1.1)⟩ :: ⟨av.1,.row 52 (s1.2:List aw) av.2⟩ :: kS bZ (.map bB nw) (aV hp))) (fun ax=>Exit.exit 0) (fun ax av=> [(0,I.of (aa)),(2,I.of ([]:List aw)),(3,I.eq (ba av.1 ax.2.2.length av.2)),(7,I.of (aa.isNone)),(12,I.eq (.pointer (some ⟨aW,0,none⟩))),(14,I.of (ax.1))]) (fun ax av=>(⟨some aW,.is (la bZ bB nw ax.2.1)⟩ :: ⟨av.1,.row 52 (ax.2.2:List aw) av.2⟩ :: kS bZ (.map bB nw) (aV hp))) (none,0) rfl (.same rfl (.same rfl (.same rfl (.same rfl (.same rfl .nil))))) (fun s1 R h av=> ?_) (fun aF h av=> ?_)
  ·refine aE ?_
   refine ah.WN (kv:=cg) 0 (ab rfl) rfl (MG 2 rfl (o8 e4) rfl) cw rfl fun pP xK=> ?_
   replace h:=aq.SL h pP xK
   refine bp (U6 (ab rfl)) ?_
   refine bY ?_
   refine ai.cond (ab rfl) (fun ak=> ?_) (fun ak=> ?_)
   ·replace h:=kE ak h
    refine c4 ?_
    refine ai.block ?_
    refine aE ?_
    obtain⟨bj,cQ,h⟩:=aq.cf h
    refine bp (Ty (kv:=cg) (vis:=s1.1) 0 (ab rfl) rfl (MG 2 rfl (o8 e4) rfl) cw xK cQ) ?_
    refine hc ?_
    refine dJ h3 fun a2=> ?_
    refine cY 0 cI ?_
    refine aM ?_
    refine ai.cE ?_
    refine aC ?_
    refine cR 0 cI ?_
    obtain⟨aB,bu,h⟩:=aq.cf h
    refine fQ AS (y2 bu) ?_
    refine hF [aB] Tryz.underlying38 cI h3 ?_
    obtain⟨aH,cB,h⟩:=aq.cf h
    refine nX 2 Tryz.underlying38 cI h3 cB fun hN fI=> ?_
    refine aO ?_
    refine ah.nil ?_
    refine ae.eC ?_
    exact ae.w4 h (hN,fI) 1 rfl (.same rfl (.same rfl (.same rfl (.same rfl (.same rfl .nil)))))
   ·replace h:=kF ak h
    refine ai.exit ?_
    refine ae.exit ?_
    exact ae.q7 h (av.1,av.2) 0 rfl (by simp) rfl (.same rfl (.same rfl (.same rfl (.same rfl (.same rfl (.same rfl .nil))))))
  ·refine ae.gE ?_
   refine ae.next ?_
   refine aE ?_
   refine aC ?_
   refine ah.bU 1 rfl ?_
   obtain⟨bn,fF,h⟩:=aq.cf h
   refine ah.l2 (Lin:= [⟨av.1,.row 52 (aF.2.2:List aw) av.2⟩]) (Lr:=(⟨some aW,.is (la bZ bB nw aF.2.1)⟩ :: kS bZ (.map bB nw) (aV hp))) Yl (P2 (G2 fF)) ⟨ab rfl,GG Ym (fun _ _ _=>QF),trivial⟩ rfl fun et=> ?_
   refine ah.hM (m:=bn.length) 3 rfl ((uc fF).symm) ?_
   refine ah.hM (m:=bn.length) 22 rfl ((uc fF).symm) ?_
   refine b5 ?_
   refine aC ?_
   refine aO ?_
   refine aM ?_
   refine ai.ret ?_
   refine ae.uS 2 rfl ?_
   refine ae.m3 (α:=aw) 0 [2,3,22,24] ⟨rfl,rfl,rfl,rfl,trivial⟩ rfl ?_
   exact ae.eW (⟨⟨(bn,hp),h⟩,()⟩: {r // _} × _) (.cons _ (.cons _ (.refl _))) rfl rfl (dH rfl)
theorem Ko {hp:aN Cell} {aa:Ref} {aj:aA} {aT:Int} {r:Int × Bool} (h:tN hp aa aj aT=some r):bO Tryz.prog 240 [I.of (aa),I.of (aj),I.of (aT)] ([] ++ aV hp) (δ:=Unit) (fun _=>I.eD [I.of (r.1),I.of (r.2)]) (fun _=> [] ++ aV hp):=by
 unfold tN at h
 refine bO.of Tryz.func240 rfl Tryz.ntmps240 rfl fun W A=> ?_
 refine aE ?_
 refine cz fun aW=> ?_
 refine aO ?_
 refine aO ?_
 refine b5 ?_
 refine aC ?_
 refine cR 0 b8 ?_
 refine aC ?_
 obtain⟨aB,bu,h⟩:=az h
 refine ah.iN (fS.jF 1 rfl Ny (Kk bu) ⟨ab rfl,ab rfl,ab rfl,trivial⟩) rfl rfl rfl ?_
 refine aO ?_
 refine bY ?_
 refine aE ?_
 refine aC ?_
 refine bp (mo Tryz.underlying331 (ab rfl)) ?_
 refine aC ?_
 refine dB ch ?_
 obtain⟨b6,c8,h⟩:=az h
 refine eQ (fun hb=>dx (dZ (cq rfl hb) (ga c8 hb))) ?_
 refine dB (aX q0) ?_
 obtain⟨bq,dM,h⟩:=az h
 refine eQ (fun hb=>fi ((aQ.id dz).comp qO) (r:=bq.dG) hE (cq rfl hb) (ep (n:=1) rfl (jn (ga dM hb)) rfl) rfl rfl) ?_
 refine dB k6 ?_
 refine Bf ?_
 refine aM ?_
 refine cA h (fun h=>?_) fun h=>?_
 ·refine aE ?_
  refine aO ?_
  refine aO ?_
  refine aM ?_
  refine ai.ret ?_
  refine ae.ret ?_
  obtain rfl:=aK h
  exact ae.kl () (.cons _ (.refl _)) rfl rfl (dH rfl) (dH rfl)
 ·refine c4 ?_
  refine aE ?_
  refine aC ?_
  obtain⟨bZ,eY,h⟩:=az h
  refine bp (dx (dZ (ab rfl) eY)) ?_
  refine a4 (aX Ds) ?_
  obtain⟨cg,e4,h⟩:=az h
  refine bp (fi ((aQ.id dz).comp CT) (r:=cg.ih) bK (ab rfl) (ep (n:=1) rfl (jn e4) rfl) rfl rfl) ?_
  refine aO ?_
  refine aO ?_
  refine aM ?_
  refine ai.ret ?_
  obtain rfl:=aK h
  exact ae.kl () (.cons _ (.refl _)) rfl rfl (dH rfl) (dH rfl)
theorem Qw {aa:c9} {aj:aw} {aT:aw} {r:Int} (h:wa aa aj aT=some r):bW Tryz.prog 273 [I.ptr aa,I.of (aj),I.of (aT)] (I.of (r)):=by
 unfold wa at h
 refine bW.of Tryz.func273 rfl Tryz.ntmps273 rfl fun W A=> ?_
 refine aE ?_
 refine cz fun aW=> ?_
 refine cz fun a2=> ?_
 refine aO ?_
 refine bY ?_
 refine ai.block ?_
 refine ai.seq ?_
 obtain⟨aB,bu,h⟩:=az h
 refine ai.draw mixed 7 [some 8,some 9,some 10,some 11,some 12,some 13,some 14] [[],[0],[1],[2],[],[],[3,4,5]] [.val _,.val _,.val _,.val _,.val _,.val _,.val _] [false,false,false,false,false,false,false] (by kernel_rfl) rfl rfl rfl (fun dk=>⟨dc,H1 DE,vl FC Mb,H1 (eh iv),gW 1 cI,gW 0 cI,fv Nz (Kx bu),trivial⟩) fun dk=> ?_
 refine aO ?_
 refine aM ?_
 refine cA h (fun h=>?_) fun h=>?_
 ·refine aE ?_
  refine aO ?_
  refine aM ?_
  refine ai.ret ?_
  refine ae.dR ?_
  refine ae.ret ?_
  obtain rfl:=aK h
  exact c7
 ·refine ai.seq ?_
  obtain⟨aH,cB,h⟩:=az h
  refine ai.draw mixed 7 [some 16,some 17,some 18,some 19,some 20,some 21,some 22] [[],[0],[1],[2],[],[],[3,4,5]] [.val _,.val _,.val _,.val _,.val _,.val _,.val _] [false,false,false,false,false,false,false] (by kernel_rfl) rfl rfl rfl (fun mH=>⟨dc,H1 DE,vl FC Mb,H1 (eh iv),gW 0 cI,gW 1 cI,fv Nz (Kx cB),trivial⟩) fun mH=> ?_
  refine aO ?_
  refine aM ?_
  refine cA h (fun h=>?_) fun h=>?_
  ·refine aE ?_
   refine aO ?_
   refine aM ?_
   refine ai.ret ?_
   refine ae.dR ?_
   refine ae.ret ?_
   obtain rfl:=aK h
   exact c7
  ·refine ai.skip ?_
   refine ae.eC ?_
   refine ae.next ?_
   refine aE ?_
   refine aO ?_
   refine aM ?_
   refine ai.ret ?_
   obtain rfl:=aK h
   exact c7
theorem RU {aa:bh} {aj:bh} {r:Bool} (h:CZ aa aj=some r):bW Tryz.prog 74 [I.of (aa),I.of (aj)] (I.of (r)):=by
 unfold CZ at h
 refine bW.of Tryz.func74 rfl Tryz.ntmps74 rfl fun W A=> ?_
 refine aE ?_
 refine cz fun aW=> ?_
 refine cz fun a2=> ?_
 refine aO ?_
 refine b5 ?_
 refine cR 1 fP ?_
 refine cR 0 fP ?_
 obtain⟨aB,bu,h⟩:=az h
 refine fQ WO (Rv bu) ?_
 refine bs gI ?_
 refine aO ?_
 refine aM ?_
 refine ai.ret ?_
 obtain rfl:=aK h
 exact c7
theorem yO {hp:aN Cell} {aa:Ref} {aj:Int} {Q:(List aw) × (aN Cell)→Prop} (h:wh hp aa aj Q):bO Tryz.prog 51 [I.of (aa),I.of (aj)] ([] ++ aV hp) (δ:= {r:(List aw) × (aN Cell) // Q r} × Unit) (fun d=>I.of (d.1.1.1)) (fun d=> [] ++ aV d.1.1.2):=by
 unfold wh at h
 refine bO.of Tryz.func51 rfl Tryz.ntmps51 rfl fun W A=> ?_
 refine aE ?_
 refine bp (eH (look_nil (α:=aw))) ?_
 refine b5 ?_
 refine aC ?_
 refine aC ?_
 obtain⟨aB,bu,h⟩:=aq.cf h
 refine ah.iN (fS.jF 0 rfl Ii (FR bu) ⟨ab rfl,ab rfl,trivial⟩) rfl rfl rfl ?_
 refine ah.h1 0 0 rfl Yn (Rg h) rfl rfl ⟨ab rfl,trivial⟩ rfl fun⟨⟨aH,h⟩,ax⟩=> ?_
 refine ah.eo (L2:=(aV aH.2)) rfl ?_
 refine aO ?_
 refine aM ?_
 refine ai.ret ?_
 exact ae.eW (⟨⟨(aH.1,aH.2),h⟩,()⟩: {r // _} × _) (.refl _) rfl rfl (dH rfl)
theorem QG {hp:aN Cell} {aa:gA} {aj:bh} {r:Int × Bool} (h:yw hp aa aj=some r):bO Tryz.prog 235 [I.of (aa),I.of (aj)] ([] ++ aV hp) (δ:=Unit) (fun _=>I.eD [I.of (r.1),I.of (r.2)]) (fun _=> [] ++ aV hp):=by
 unfold yw at h
 refine bO.of Tryz.func235 rfl Tryz.ntmps235 rfl fun W A=> ?_
 refine aE ?_
 refine cz fun aW=> ?_
 refine cz fun a2=> ?_
 refine aO ?_
 refine aO ?_
 refine b5 ?_
 refine cR 1 D6 ?_
 refine cR 0 fP ?_
 obtain⟨aB,bu,h⟩:=az h
 refine fQ HT (FF bu) ?_
 refine aC ?_
 refine hc ?_
 refine hc ?_
 refine hc ?_
 refine dJ xg fun bF=> ?_
 refine dJ eA fun iO=> ?_
 refine cY 1 km ?_
 refine cY 0 b8 ?_
 refine aO ?_
 refine bY ?_
 obtain⟨b6,c8,h⟩:=az h
 obtain⟨bq,dM,h⟩:=az h
 obtain⟨bL,dS,h⟩:=az h
 obtain⟨aH,cB,h⟩:=az h
 refine j8 [0,1,2,3,6,7,8,9,10,11,12,13,14,15] ?_
 refine ai.uR 4 mixed (bk 16 [] [] _ :: bk 17 (0 :: []) (3 :: []) _ :: bk 18 [] (1 :: []) _ :: ⟨some 19,(1 :: 2 :: []),[],[],fun _=>I.of (bL),fun _ _=>⟨none,.dead⟩⟩ :: bk 20 [] (0 :: []) _ :: bk 21 [] [] _ :: ⟨some 22,(3 :: 4 :: 5 :: []),[],[],fun _=>I.eD [I.of (aH.1),I.of (aH.2)],fun _ _=>⟨none,.dead⟩⟩ :: bk 23 (6 :: []) [] _ :: bk 24 (6 :: []) [] _ :: bk 4 (7 :: []) [] _ :: bk 5 (8 :: []) [] _ :: []) _ (0 :: 1 :: 2 :: 3 :: 6 :: 7 :: 8 :: 9 :: 10 :: 11 :: 12 :: 13 :: 14 :: 15 :: []) rfl rfl (by kernel_rfl) (by kernel_rfl) ⟨c3.q (fx (aX sA)),c3.q (py 3 qH rn),c3.q (pz 1 km),?_,c3.q (pz 0 b8),c3.q (fg),?_,c3.q (cm fun hd E' L' aD an=>m9 (ab (aD _ _ rfl)) rfl),c3.q (cm fun hd E' L' aD an=>m9 (ab (aD _ _ rfl)) rfl),c3.q (cm fun hd E' L' aD an=>eH (ab (aD _ _ rfl))),c3.q (cm fun hd E' L' aD an=>eH (ab (aD _ _ rfl))),trivial⟩ fun eZ=> ?_
 ·intro hd E' L' aD an dK
  refine bp (um (r:=bL) Tryz.underlying167 uT Ak (kD (ab (aD _ _ rfl)) c8) (ab (aD _ _ rfl)) (ep (n:=4) (dK.trans rfl) (l0 dM) rfl) (aK dS)) ?_
  refine ah.nil ?_
  exact ae.fin (eP []) rfl rfl
 ·intro hd E' L' aD an dK
  refine ah.iN (fS.jF 4 (dK.trans rfl) NA (Ko cB) ⟨ab (aD _ _ rfl),ab (aD _ _ rfl),ab (aD _ _ rfl),trivial⟩) rfl rfl rfl ?_
  refine ah.nil ?_
  exact ae.fin (eP []) rfl rfl
 refine ae.eo (L2:=(⟨some iO,.var (aB.2.1:aA)⟩ :: ⟨some bF,.var (aB.1:Vector aA 4)⟩ :: ⟨some a2,.var (aj:bh)⟩ :: ⟨some aW,.var (aa:gA)⟩ :: aV hp)) rfl ?_
 refine kP [0,1,2,3,4,5,6,7,8,9,10,11,12,13,14,15,16,17,18,19,20,21,22,23,24] ?_
 refine ae.next ?_
 refine ai.ret ?_
 obtain rfl:=aK h
 exact ae.kl () (.cons _ (.cons _ (.cons _ (.cons _ (.refl _))))) rfl rfl (dH rfl) (dH rfl)
theorem Q9 {hp:aN Cell} {aa:Ref} {aj:aA} {aT:Int} {r:Bool × (aN Cell)} (h:wj hp aa aj aT=some r):bO Tryz.prog 245 [I.of (aa),I.of (aj),I.of (aT)] ([] ++ aV hp) (δ:=Unit) (fun d=>I.of (r.1)) (fun d=> [] ++ aV r.2):=by
 unfold wj at h
 refine bO.ofM Tryz.func245 rfl Tryz.ntmps245 rfl fun W A=> ?_
 refine aE ?_
 refine cz fun aW=> ?_
 refine aO ?_
 refine bY ?_
 refine aE ?_
 refine aC ?_
 refine cR 0 b8 ?_
 refine aC ?_
 obtain⟨aB,bu,h⟩:=az h
 refine ah.iN (fS.jF 1 rfl NA (Ko bu) ⟨ab rfl,ab rfl,ab rfl,trivial⟩) rfl rfl rfl ?_
 refine aC ?_
 refine hc ?_
 refine hc ?_
 refine aO ?_
 refine aO ?_
 refine b5 ?_
 refine aC ?_
 refine a4 k6 ?_
 refine aM ?_
 refine cA h (fun h=>?_) fun h=>?_
 ·refine aE ?_
  refine aO ?_
  refine aM ?_
  refine ai.ret ?_
  refine ae.ret ?_
  obtain rfl:=aK h
  refine ae.Er ?_
  exact ae.eW () (.cons _ (.refl _)) rfl rfl (dH rfl)
 ·refine c4 ?_
  refine aE ?_
  refine aC ?_
  obtain⟨b6,c8,h⟩:=az h
  refine bp (dx (dZ (ab rfl) c8)) ?_
  refine a4 (aX sy) ?_
  obtain⟨bq,dM,h⟩:=az h
  refine bp (fi ((aQ.id fm).comp sm) (r:=bq.cD) ek (ab rfl) (ep (n:=1) rfl (m6 dM) rfl) rfl rfl) ?_
  refine ah.qi (α:=Ref) (r:= [bq.cD]) Tryz.underlying341 ek xk rfl rfl (.cons (by simp) (ab rfl) (.nil)) rfl fun hN=> ?_
  refine ah.oy (z:=(default:List Ref)) [0] Ue WQ rfl fun a2=> ?_
  refine ah.own (α:=Ref) 331 ?_
  refine ah.oy (z:=(default:List Int)) [0] U7 Yo rfl fun bF=> ?_
  refine ah.own (α:=Int) 3 ?_
  refine ah.jE (i:=3) (γ:=Ref) (b':=([]:List Ref)) (os':= [(0,ba hN [bq.cD].length 1)]) (aQ.id (List Ref)) sV (ab rfl) (ab rfl) iD rfl rfl rfl rfl ?_
  refine ah.own (α:=Int) 3 ?_
  refine ah.jE (i:=2) (γ:=Int) (b':=([]:List Int)) (os':= [(0,ba none ([]:List Int).length 0)]) (aQ.id (List Int)) u9 (ab rfl) (ub) iD rfl rfl rfl rfl ?_
  refine bY ?_
  refine aE ?_
  refine aC ?_
  refine cR 6 b8 ?_
  refine aC ?_
  obtain⟨aH,cB,h⟩:=az h
  refine fQ HR (F4 cB) ?_
  refine aM ?_
  refine ai.block ?_
  obtain⟨aF,ao,h⟩:=az h
  refine K4 (hp:=hp) (γ:=(Option Nat × Nat) × (Option Nat × Nat)) (g0:=((none,0),(hN,1))) (Ls:=fun s1 av=>(⟨av.1.1,.row 3 (s1.1:List Int) av.1.2⟩ :: ⟨none,.row 3 (([]:List Int):List Int) 0⟩ :: ⟨some bF,.ca ([]:List Int) [(0,ba av.1.1 s1.1.length av.1.2)]⟩ :: ⟨none,.row 331 (([]:List Ref):List Ref) 0⟩ :: ⟨some a2,.ca ([]:List Ref) [(0,ba av.2.1 s1.2.length av.2.2)]⟩ :: ⟨av.2.1,.row 331 (s1.2:List Ref) av.2.2⟩ :: ⟨some aW,.var (aj:aA)⟩ :: aV hp)) (Lx:=fun ax av=>Empty.elim ax) (fun s1 av=> [⟨av.1.1,.row 3 (s1.1:List Int) av.1.2⟩,⟨none,.row 3 (([]:List Int):List Int) 0⟩,⟨some bF,.ca ([]:List Int) [(0,ba av.1.1 s1.1.length av.1.2)]⟩,⟨none,.row 331 (([]:List Ref):List Ref) 0⟩,⟨some a2,.ca ([]:List Ref) [(0,ba av.2.1 s1.2.length av.2.2)]⟩,⟨av.2.1,.row 331 (s1.2:List Ref) av.2.2⟩,⟨some aW,.var (aj:aA)⟩]) (fun ax=>Empty.elim ax) rfl HS rfl J9 ao (fun _ _=>rfl) rfl rfl (fun vt s1 r h av nm nv nn l D rec Bi=> ?_) (fun s1 aS av D=> ?_) (fun ax aS av D=> ?_)
  ·clear ao
   refine ai.cE ?_
   refine aO ?_
   refine ah.nil ?_
   refine ae.begin 0 rfl Bi ?_
   refine ai.block ?_
   obtain⟨bj,cQ,h⟩:=az h
   obtain⟨bZ,eY,h⟩:=az h
   obtain⟨bI,cS,h⟩:=az h
   obtain⟨cg,e4,h⟩:=az h
   obtain⟨bn,fF,h⟩:=az h
   obtain⟨bD,gL,h⟩:=az h
   refine j8 [0,1,2,4,6,7,8,9,10,11,14,15,16,17,18,19,20,21,22,23,24,25,26,28,29,30,31,32] ?_
   refine ai.uR 9 mixed (bk 33 [] (6 :: []) _ :: bk 34 [] (6 :: []) _ :: bk 35 [] (6 :: []) _ :: bk 36 (2 :: []) (7 :: []) _ :: bk 37 (3 :: []) [] _ :: bk 38 (1 :: 3 :: 4 :: []) (7 :: []) _ :: bk 39 (3 :: 5 :: []) (7 :: []) _ :: bk 40 [] [] _ :: bk 41 (3 :: 5 :: 6 :: []) [] _ :: bk 42 (3 :: 5 :: 6 :: 8 :: []) [] _ :: bk 43 (3 :: 5 :: 6 :: 7 :: 9 :: []) [] _ :: ⟨some 44,(3 :: 5 :: 6 :: 10 :: []),[],[],fun _=>I.of (b7 cg.c1 bI),fun _ _=>⟨none,.dead⟩⟩ :: bk 45 (3 :: 5 :: 6 :: 11 :: []) [] _ :: ⟨some 46,(0 :: 3 :: 5 :: 6 :: 12 :: []),(7 :: []),(7 :: []),fun hd=>I.eq (ba (hd 13 0) bn.length ((hd 13 1).getD 0)),fun hd _=>⟨(hd 13 0),.row 331 (bn:List Ref) ((hd 13 1).getD 0)⟩⟩ :: bk 47 [] (4 :: []) _ :: bk 48 [] [] _ :: bk 49 (15 :: []) [] _ :: ⟨some 50,(14 :: 16 :: []),(2 :: []),(2 :: []),fun hd=>I.eq (ba (hd 17 0) bD.length ((hd 17 1).getD 0)),fun hd _=>⟨(hd 17 0),.row 3 (bD:List Int) ((hd 17 1).getD 0)⟩⟩ :: ⟨none,(0 :: 1 :: 2 :: 13 :: []),(6 :: []),(6 :: []),fun _=>I.any,fun hd _=>⟨some a2,.ca ([]:List Ref) [(0,ba (hd 13 0) bn.length ((hd 13 1).getD 0))]⟩⟩ :: ⟨none,(14 :: 17 :: []),(4 :: []),(4 :: []),fun _=>I.any,fun hd _=>⟨some bF,.ca ([]:List Int) [(0,ba (hd 17 0) bD.length ((hd 17 1).getD 0))]⟩⟩ :: []) _ (0 :: 1 :: 2 :: 4 :: 6 :: 7 :: 8 :: 9 :: 10 :: 11 :: 14 :: 15 :: 16 :: 17 :: 18 :: 19 :: 20 :: 21 :: 22 :: 23 :: 24 :: 25 :: 26 :: 28 :: 29 :: 30 :: 31 :: 32 :: []) rfl rfl (by kernel_rfl) (by kernel_rfl) ⟨c3.q (cm fun hd E' L' aD an=>hW (i:=6) (q:=0) (β:=List Ref) (γ:=Ref) sV (ab (aD _ _ rfl)) (an 6 _ rfl rfl) rfl),c3.q (cm fun hd E' L' aD an=>hW (i:=6) (q:=0) (β:=List Ref) (γ:=Ref) sV (ab (aD _ _ rfl)) (an 6 _ rfl rfl) rfl),c3.q (cm fun hd E' L' aD an=>hW (i:=6) (q:=0) (β:=List Ref) (γ:=Ref) sV (ab (aD _ _ rfl)) (an 6 _ rfl rfl) rfl),c3.q (cm fun hd E' L' aD an=>ra (i:=7) Tryz.underlying341 (ab (aD _ _ rfl)) rfl (an 7 _ rfl rfl)),c3.q (tt iE),c3.q (cm fun hd E' L' aD an=>lB (i:=7) (k:=bj) (xs:=(s1.2:List Ref)) Tryz.underlying341 ek (ab (aD _ _ rfl)) (ab (aD _ _ rfl)) (an 7 _ rfl rfl) (da cQ)),c3.q (cm fun hd E' L' aD an=>p6 (i:=7) (k:=bj) (aQ.id Ref) (r:=(aI s1.2 bj)) ek (ab (aD _ _ rfl)) (an 7 _ rfl rfl) (da cQ).1 rfl rfl),c3.q (fg),c3.q (cm fun hd E' L' aD an=>dx (dZ (ab (aD _ _ rfl)) eY)),c3.q (fx (aX q1)),c3.q (cm fun hd E' L' aD an=>jH (k:=bI) sT (ab (aD _ _ rfl)) (ab (aD _ _ rfl)) (da cS)),?_,c3.q (cm fun hd E' L' aD an=>ig (r:= [b7 cg.c1 bI]) Tryz.underlying341 ek xk rfl rfl (.cons (by simp) (ab (aD _ _ rfl)) (.nil))),?_,c3.q (cm fun hd E' L' aD an=>hW (i:=4) (q:=0) (β:=List Int) (γ:=Int) u9 (ab (aD _ _ rfl)) (an 4 _ rfl rfl) rfl),c3.q (fg),c3.q (cm fun hd E' L' aD an=>ig (r:= [vt]) Tryz.underlying63 bK j7 rfl rfl (.cons (by simp) (ab (aD _ _ rfl)) (.nil))),?_,?_,?_,trivial⟩ fun eZ=> ?_
   ·intro hd E' L' aD an dK
    refine bp (fi (((aQ.id dz).comp qJ).comp (aQ.idx (α:=Ref) 2 bI (da cS).1)) (r:=b7 cg.c1 bI) ek (ab (aD _ _ rfl)) (ep (n:=9) (dK.trans rfl) (jn e4) rfl) rfl rfl) ?_
    refine ah.nil ?_
    exact ae.fin (eP []) rfl rfl
   ·intro hd E' L' aD an dK
    refine ah.app (i:=7) Tryz.underlying341 ek xk (bytes:=8) (by kernel_rfl) (ab (aD _ _ rfl)) (an 7 _ rfl rfl) (ab (aD _ _ rfl)) fF rfl fun l7 fI=> ?_
    refine ah.nil ?_
    exact ae.fin (eP [l7,some fI]) rfl rfl
   ·intro hd E' L' aD an dK
    refine ah.app (i:=2) Tryz.underlying63 bK j7 (bytes:=8) (by kernel_rfl) (ab (aD _ _ rfl)) (an 2 _ rfl rfl) (ab (aD _ _ rfl)) gL rfl fun nV pk=> ?_
    refine ah.nil ?_
    exact ae.fin (eP [nV,some pk]) rfl rfl
   ·intro hd E' L' aD an dK
    refine ah.jE (i:=6) (γ:=Ref) (b':=([]:List Ref)) (os':= [(0,ba (hd 13 0) bn.length ((hd 13 1).getD 0))]) (aQ.id (List Ref)) sV (ab (aD _ _ rfl)) (ab (aD _ _ rfl)) iD (an 6 _ rfl rfl) rfl rfl rfl ?_
    refine ah.nil ?_
    exact ae.fin (eP []) rfl rfl
   ·intro hd E' L' aD an dK
    refine ah.jE (i:=4) (γ:=Int) (b':=([]:List Int)) (os':= [(0,ba (hd 17 0) bD.length ((hd 17 1).getD 0))]) (aQ.id (List Int)) u9 (ab (aD _ _ rfl)) (ab (aD _ _ rfl)) iD (an 4 _ rfl rfl) rfl rfl rfl ?_
    refine ah.nil ?_
    exact ae.fin (eP []) rfl rfl
   refine ae.eo (L2:=(⟨some l,.is (.loop { rec with state:= .busy })⟩ :: ⟨some D,.dC⟩ :: ⟨(eZ 17 0),.row 3 (bD:List Int) ((eZ 17 1).getD 0)⟩ :: ⟨none,.row 3 (([]:List Int):List Int) 0⟩ :: ⟨some bF,.ca ([]:List Int) [(0,ba (eZ 17 0) bD.length ((eZ 17 1).getD 0))]⟩ :: ⟨none,.row 331 (([]:List Ref):List Ref) 0⟩ :: ⟨some a2,.ca ([]:List Ref) [(0,ba (eZ 13 0) bn.length ((eZ 13 1).getD 0))]⟩ :: ⟨(eZ 13 0),.row 331 (bn:List Ref) ((eZ 13 1).getD 0)⟩ :: ⟨some aW,.var (aj:aA)⟩ :: aV hp)) rfl ?_
   refine kP [0,1,2,4,6,7,8,9,10,11,14,15,16,17,18,19,20,21,22,23,24,25,26,28,29,30,31,32,36,37,39,40,41,42,43,44,45,46,48,49,50] ?_
   refine ae.eC ?_
   obtain rfl:=aK h
   exact ae.OZ (((eZ 17 0),((eZ 17 1).getD 0)),((eZ 13 0),((eZ 13 1).getD 0))) 0 rfl
  ·clear ao; subst aS; simp only [Sum.elim_inl] at h
   refine ae.eo (L2:=(⟨some D,.dC⟩ :: ⟨av.1.1,.row 3 (s1.1:List Int) av.1.2⟩ :: ⟨none,.row 3 (([]:List Int):List Int) 0⟩ :: ⟨some bF,.ca ([]:List Int) [(0,ba av.1.1 s1.1.length av.1.2)]⟩ :: ⟨none,.row 331 (([]:List Ref):List Ref) 0⟩ :: ⟨some a2,.ca ([]:List Ref) [(0,ba av.2.1 s1.2.length av.2.2)]⟩ :: ⟨av.2.1,.row 331 (s1.2:List Ref) av.2.2⟩ :: ⟨some aW,.var (aj:aA)⟩ :: aV hp)) rfl ?_
   refine ae.eC ?_
   refine ae.next ?_
   refine aE ?_
   refine bp (hW (i:=5) (q:=0) (β:=List Ref) (γ:=Ref) sV (ab rfl) rfl rfl) ?_
   refine aC ?_
   obtain⟨dv,iI,h⟩:=az h
   refine bp (lB (i:=6) (k:=dv) (xs:=(s1.2:List Ref)) Tryz.underlying341 ek (ab rfl) (ab rfl) rfl (da iI)) ?_
   refine bp (p6 (i:=6) (k:=dv) (aQ.id Ref) (r:=(aI s1.2 dv)) ek (ab rfl) rfl (da iI).1 rfl rfl) ?_
   refine aO ?_
   refine b5 ?_
   refine aC ?_
   refine aC ?_
   obtain⟨mi,tf,h⟩:=az h
   refine bp (dx (dZ (ab rfl) tf)) ?_
   refine a4 (aX q0) ?_
   obtain⟨fc,lK,h⟩:=az h
   obtain⟨cw,iG,h⟩:=az h
   refine ah.mw (k':=Cell.fC ({ fc with dG:=false } :dz)) 8 rfl ((aQ.id dz).comp qO) (v:=(false:Bool)) hE (ab rfl) (fG false) (jn lK) rfl rfl rfl rfl (aK iG) ?_
   refine bp (dx (dZ (ab rfl) tf)) ?_
   refine a4 (aX Ds) ?_
   obtain⟨jR,vn,h⟩:=az h
   obtain⟨cJ,sZ,h⟩:=az h
   refine ah.mw (k':=Cell.fC ({ jR with ih:=0 } :dz)) 8 rfl ((aQ.id dz).comp CT) (v:=(0:Int)) bK (ab rfl) (bN 0) (jn vn) rfl rfl rfl rfl (aK sZ) ?_
   refine bY ?_
   refine aE ?_
   refine aC ?_
   refine bs iE ?_
   refine aO ?_
   refine aM ?_
   refine ai.block ?_
   obtain⟨aR,ao,h⟩:=az h
   refine ai.D7 (σ:=Int × (aN Cell)) (ε:=(Int × Bool × (aN Cell))) (γ:=Unit) (δ:=Unit) ao (fun s2 bm=> [(0,I.of (aa)),(1,I.of (aj)),(2,I.of (aT)),(4,I.eq (.pointer (some ⟨aW,0,none⟩))),(6,I.of (false)),(8,I.of (aB.2)),(9,I.eq (.pointer (some ⟨a2,0,none⟩))),(10,I.eq (.pointer (some ⟨bF,0,none⟩))),(12,I.of (aI s1.2 dv)),(13,I.of (s2.1)),(22,I.of (!aB.2)),(31,I.gy 255 [I.ptr aH.1,I.ptr aH.2.1,I.ptr aH.2.2])]) (fun s2 bm=>(⟨some D,.dC⟩ :: ⟨av.1.1,.row 3 (s1.1:List Int) av.1.2⟩ :: ⟨none,.row 3 (([]:List Int):List Int) 0⟩ :: ⟨some bF,.ca ([]:List Int) [(0,ba av.1.1 s1.1.length av.1.2)]⟩ :: ⟨none,.row 331 (([]:List Ref):List Ref) 0⟩ :: ⟨some a2,.ca ([]:List Ref) [(0,ba av.2.1 s1.2.length av.2.2)]⟩ :: ⟨av.2.1,.row 331 (s1.2:List Ref) av.2.2⟩ :: ⟨some aW,.var (aj:aA)⟩ :: aV s2.2)) (fun et=>Exit.exit 2) (fun et bm=> [(0,I.of (aa)),(1,I.of (aj)),(2,I.of (aT)),(4,I.eq (.pointer (some ⟨aW,0,none⟩))),(6,I.of (false)),(8,I.of (aB.2)),(9,I.eq (.pointer (some ⟨a2,0,none⟩))),(10,I.eq (.pointer (some ⟨bF,0,none⟩))),(12,I.of (aI s1.2 dv)),(13,I.of (et.1)),(22,I.of (!aB.2)),(31,I.gy 255 [I.ptr aH.1,I.ptr aH.2.1,I.ptr aH.2.2]),(72,I.of (et.2.1))]) (fun et bm=>(⟨some D,.dC⟩ :: ⟨av.1.1,.row 3 (s1.1:List Int) av.1.2⟩ :: ⟨none,.row 3 (([]:List Int):List Int) 0⟩ :: ⟨some bF,.ca ([]:List Int) [(0,ba av.1.1 s1.1.length av.1.2)]⟩ :: ⟨none,.row 331 (([]:List Ref):List Ref) 0⟩ :: ⟨some a2,.ca ([]:List Ref) [(0,ba av.2.1 s1.2.length av.2.2)]⟩ :: ⟨av.2.1,.row 331 (s1.2:List Ref) av.2.2⟩ :: ⟨some aW,.var (aj:aA)⟩ :: aV et.2.2)) () rfl (.same rfl (.same rfl (.same rfl (.same rfl (.same rfl (.same rfl (.same rfl (.same rfl (.same rfl (.same rfl (.same rfl (.same rfl .nil)))))))))))) (fun s2 r h bm=> ?_) (fun bm=> ?_)
   ·clear ao
    refine ai.seq ?_
    refine aE ?_
    refine aC ?_
    refine bs mx ?_
    refine aC ?_
    refine eQ (fun hb=>hW (i:=5) (q:=0) (β:=List Ref) (γ:=Ref) sV (ab rfl) rfl rfl) ?_
    refine dB ch ?_
    refine kO dX ?_
    obtain⟨ht,rO,h⟩:=az h
    refine eQ (fun hb=>lB (i:=6) (k:=ht) (xs:=(s1.2:List Ref)) Tryz.underlying341 ek (cq rfl hb) (cq rfl hb) rfl (da (ga rO hb))) ?_
    refine eQ (fun hb=>p6 (i:=6) (k:=ht) (aQ.id Ref) (r:=(aI s1.2 ht)) ek (cq rfl hb) rfl (da (ga rO hb)).1 rfl rfl) ?_
    obtain⟨b0,hS,h⟩:=az h
    refine ah.PF (fun hb=>fS.jF 8 rfl NB (Ki (ga hS hb)) ⟨cq rfl hb,trivial⟩) rfl rfl rfl rfl rfl ?_
    refine k9 ?_
    refine aM ?_
    refine cA h (fun h=>?_) fun h=>?_
    ·refine c4 ?_
     refine ai.seq ?_
     refine ai.block ?_
     obtain⟨vV,O0,h⟩:=az h
     obtain⟨vW,O1,h⟩:=az h
     obtain⟨pQ,IK,h⟩:=az h
     refine j8 [0,1,2,4,6,8,9,10,12,13,22,31,63,64,65,66,67,68,69,70,71,72] ?_
     refine ai.xl 10 8 mixed (bk 75 [] (5 :: []) _ :: bk 76 [] [] _ :: bk 77 (0 :: 1 :: []) (6 :: []) _ :: bk 78 (2 :: []) (6 :: []) _ :: bk 79 [] (3 :: []) _ :: bk 80 [] [] _ :: bk 81 (4 :: 5 :: []) (1 :: []) _ :: bk 82 (6 :: []) (1 :: []) _ :: bk 83 (3 :: []) [] _ :: bk 84 (8 :: []) [] _ :: []) _ (0 :: 1 :: 2 :: 4 :: 6 :: 8 :: 9 :: 10 :: 12 :: 13 :: 22 :: 31 :: 63 :: 64 :: 65 :: 66 :: 67 :: 68 :: 69 :: 70 :: 71 :: 72 :: []) rfl rfl (by kernel_rfl) (by kernel_rfl) ⟨c3.q (cm fun hd E' L' aD an=>hW (i:=5) (q:=0) (β:=List Ref) (γ:=Ref) sV (ab (aD _ _ rfl)) (an 5 _ rfl rfl) rfl),c3.q (fg),c3.q (cm fun hd E' L' aD an=>lB (i:=6) (k:=vV) (xs:=(s1.2:List Ref)) Tryz.underlying341 ek (ab (aD _ _ rfl)) (ab (aD _ _ rfl)) (an 6 _ rfl rfl) (da O0)),c3.q (cm fun hd E' L' aD an=>p6 (i:=6) (k:=vV) (aQ.id Ref) (r:=(aI s1.2 vV)) ek (ab (aD _ _ rfl)) (an 6 _ rfl rfl) (da O0).1 rfl rfl),c3.q (cm fun hd E' L' aD an=>hW (i:=3) (q:=0) (β:=List Int) (γ:=Int) u9 (ab (aD _ _ rfl)) (an 3 _ rfl rfl) rfl),c3.q (fg),c3.q (cm fun hd E' L' aD an=>lB (i:=1) (k:=vW) (xs:=(s1.1:List Int)) Tryz.underlying63 bK (ab (aD _ _ rfl)) (ab (aD _ _ rfl)) (an 1 _ rfl rfl) (da O1)),c3.q (cm fun hd E' L' aD an=>p6 (i:=1) (k:=vW) (aQ.id Int) (r:=(aI s1.1 vW)) bK (ab (aD _ _ rfl)) (an 1 _ rfl rfl) (da O1).1 rfl rfl),c3.q (cm fun hd E' L' aD an=>dx (dZ (ab (aD _ _ rfl)) IK)),c3.q (fx (aX q1)),trivial⟩ fun iJ=> ?_
     refine ah.eo (L2:=(⟨some D,.dC⟩ :: ⟨av.1.1,.row 3 (s1.1:List Int) av.1.2⟩ :: ⟨none,.row 3 (([]:List Int):List Int) 0⟩ :: ⟨some bF,.ca ([]:List Int) [(0,ba av.1.1 s1.1.length av.1.2)]⟩ :: ⟨none,.row 331 (([]:List Ref):List Ref) 0⟩ :: ⟨some a2,.ca ([]:List Ref) [(0,ba av.2.1 s1.2.length av.2.2)]⟩ :: ⟨av.2.1,.row 331 (s1.2:List Ref) av.2.2⟩ :: ⟨some aW,.var (aj:aA)⟩ :: aV s2.2)) rfl ?_
     refine ah.le (E':= [(0,I.of (aa)),(1,I.of (aj)),(2,I.of (aT)),(4,I.eq (.pointer (some ⟨aW,0,none⟩))),(6,I.of (false)),(8,I.of (aB.2)),(9,I.eq (.pointer (some ⟨a2,0,none⟩))),(10,I.eq (.pointer (some ⟨bF,0,none⟩))),(12,I.of (aI s1.2 dv)),(13,I.of (s2.1)),(22,I.of (!aB.2)),(31,I.gy 255 [I.ptr aH.1,I.ptr aH.2.1,I.ptr aH.2.2]),(63,I.of (s2.1)),(64,I.of (decide (s2.1≥0))),(65,I.of (decide (s2.1≥0))),(66,I.cond ((decide (s2.1≥0))=true) (I.eq (ba av.2.1 s1.2.length av.2.2))),(67,I.cond ((decide (s2.1≥0))=true) (I.of (s2.1))),(68,I.cond ((decide (s2.1≥0))=true) (I.of (bA (s2.1 + 1)))),(69,I.cond ((decide (s2.1≥0))=true) (I.eq (.pointer (some ⟨av.2.1.getD 0,ht * 1,none⟩)))),(70,I.cond ((decide (s2.1≥0))=true) (I.of (aI s1.2 ht))),(71,I.cond ((decide (s2.1≥0))=true) (I.of (b0))),(72,I.of ((decide (s2.1≥0)) && b0)),(75,I.eq (ba av.2.1 s1.2.length av.2.2)),(76,I.of (s2.1)),(77,I.eq (.pointer (some ⟨av.2.1.getD 0,vV * 1,none⟩))),(78,I.of (aI s1.2 vV)),(79,I.eq (ba av.1.1 s1.1.length av.1.2)),(80,I.of (s2.1)),(81,I.eq (.pointer (some ⟨av.1.1.getD 0,vW * 1,none⟩))),(82,I.of (aI s1.1 vW)),(83,I.eq (.pointer (some ⟨pQ,0,none⟩))),(84,I.eq (.pointer (some ⟨pQ,0 + 0,none⟩)))]) (.same rfl (.same rfl (.same rfl (.same rfl (.same rfl (.same rfl (.same rfl (.same rfl (.same rfl (.same rfl (.same rfl (.same rfl (.same rfl (.same rfl (.same rfl (.same rfl (.same rfl (.same rfl (.same rfl (.same rfl (.same rfl (.same rfl (.same rfl (.same rfl (.same rfl (.same rfl (.same rfl (.same rfl (.same rfl (.same rfl (.same rfl (.same rfl .nil)))))))))))))))))))))))))))))))) ?_
     obtain⟨Bj,Oo,h⟩:=az h
     refine bp (jH (k:=Bj) sT (ab rfl) (ab rfl) (da Oo)) ?_
     obtain⟨lT,vo,h⟩:=az h
     obtain⟨gM,AJ,h⟩:=az h
     refine ah.mw (k':=Cell.fC ({ lT with c1:=h2 lT.c1 Bj (none:Ref) } :dz)) 8 rfl (((aQ.id dz).comp qJ).comp (aQ.idx (α:=Ref) 2 Bj (da Oo).1)) (v:=((none:Ref):Ref)) ek (ab rfl) (oj) (jn vo) rfl rfl rfl rfl (aK AJ) ?_
     refine ah.nil ?_
     refine ae.eC ?_
     refine ae.next ?_
     refine ai.cE ?_
     refine aC ?_
     refine bs iE ?_
     refine aO ?_
     refine ah.nil ?_
     obtain rfl:=aK h
     exact hD () 0
    ·refine ai.exit ?_
     refine ae.exit ?_
     obtain rfl:=aK h
     exact eX () 0
   ·clear ao
    refine ae.gE ?_
    refine ae.next ?_
    refine ai.seq ?_
    refine aE ?_
    refine aC ?_
    refine bp (dx (dZ (ab rfl) c8)) ?_
    refine a4 (aX sy) ?_
    obtain⟨k0,xL,h⟩:=az h
    refine bp (fi ((aQ.id fm).comp sm) (r:=k0.cD) ek (ab rfl) (ep (n:=8) rfl (m6 xL) rfl) rfl rfl) ?_
    obtain⟨cl,il,h⟩:=az h
    refine ah.iN (fS.jF 8 rfl NB (Ki il) ⟨ab rfl,trivial⟩) rfl rfl rfl ?_
    refine aM ?_
    obtain⟨bB,cV,h⟩:=az h
    refine ai.dd (γ:=Unit) (fun bS=> [(0,I.of (aa)),(1,I.of (aj)),(2,I.of (aT)),(4,I.eq (.pointer (some ⟨aW,0,none⟩))),(6,I.of (false)),(8,I.of (aB.2)),(9,I.eq (.pointer (some ⟨a2,0,none⟩))),(10,I.eq (.pointer (some ⟨bF,0,none⟩))),(12,I.of (aI s1.2 dv)),(13,I.of (aR.1)),(22,I.of (!aB.2)),(31,I.gy 255 [I.ptr aH.1,I.ptr aH.2.1,I.ptr aH.2.2]),(72,I.of (aR.2.1)),(90,I.of (cl))]) (fun bS=>(⟨some D,.dC⟩ :: ⟨av.1.1,.row 3 (s1.1:List Int) av.1.2⟩ :: ⟨none,.row 3 (([]:List Int):List Int) 0⟩ :: ⟨some bF,.ca ([]:List Int) [(0,ba av.1.1 s1.1.length av.1.2)]⟩ :: ⟨none,.row 331 (([]:List Ref):List Ref) 0⟩ :: ⟨some a2,.ca ([]:List Ref) [(0,ba av.2.1 s1.2.length av.2.2)]⟩ :: ⟨av.2.1,.row 331 (s1.2:List Ref) av.2.2⟩ :: ⟨some aW,.var (aj:aA)⟩ :: aV bB)) (ab rfl) (fun bS=> ?_) (fun hm ak=> ?_) (fun hm ak=> ?_)
    ·clear cV
     refine ae.next ?_
     refine aE ?_
     refine aO ?_
     refine aM ?_
     refine ai.ret ?_
     obtain rfl:=aK h
     refine ae.Es 0 rfl rfl ?_
     exact ae.eW () (.cons _ (.cons _ (.cons _ (.cons _ (.cons _ (.cons _ (.cons _ (.cons _ (.refl _))))))))) rfl rfl (dH rfl)
    ·have h:=hY ak cV
     refine ai.cE ?_
     refine aC ?_
     refine bp (dx (dZ (ab rfl) c8)) ?_
     refine a4 (aX sy) ?_
     obtain⟨tg,Ij,h⟩:=az h
     refine ah.mw (k':=Cell.iV ({ k0 with cD:=(none:Ref) } :fm)) 8 rfl ((aQ.id fm).comp sm) (v:=((none:Ref):Ref)) ek (ab rfl) (oj) (m6 xL) rfl rfl rfl rfl (aK Ij) ?_
     refine ah.nil ?_
     obtain rfl:=aK h
     exact dT 0 (hm ())
    ·have h:=hZ ak cV
     refine ai.skip ?_
     obtain rfl:=aK h
     exact dT 0 (hm ())
  ·exact Empty.elim ax
theorem P1 {aa aT:List aw} {aj:Int} {gF NC:Option Nat} {dL uU:Nat} {r:List aw} (h:Cm aa aj aT=some r):bO Tryz.prog 275 [I.eq (ba gF aa.length dL),I.of aj,I.eq (ba NC aT.length uU)] [⟨gF,.row 52 aa dL⟩,⟨NC,.row 52 aT uU⟩] (δ:=(Option Nat × Nat)) (fun d=>I.eq (ba d.1 r.length d.2)) (fun d=> [⟨d.1,.row 52 r d.2⟩]):=by
 unfold Cm at h
 obtain⟨k,rfl,au,a6,lN,kT,rfl⟩:=SM h
 refine bO.of Tryz.func275 rfl Tryz.ntmps275 rfl fun W A=> ?_
 refine ai.seq ?_
 refine ai.cE ?_
 refine ah.v (eH ub) rfl rfl rfl ?_
 refine ah.nil ?_
 refine ae.next ?_
 refine ai.seq ?_
 refine ai.cE ?_
 refine ah.v (ch (ab rfl)) rfl rfl rfl ?_
 refine ah.v (ch (ab rfl)) rfl rfl rfl ?_
 refine ah.v (Di (i:=0) (xs:=aa) Tryz.underlying38 cI (ab rfl) rfl (.some (ab rfl)) .none rfl rfl ⟨au,Nat.le_refl _⟩) rfl rfl rfl ?_
 refine ah.nil ?_
 refine ae.next ?_
 refine ai.seq ?_
 refine ai.cE ?_
 refine ah.v (ch (ab rfl)) rfl rfl rfl ?_
 refine ah.v (ra (i:=1) (xs:=aT) Tryz.underlying38 (ab rfl) rfl rfl) rfl rfl rfl ?_
 refine ah.v (eH (ab rfl)) rfl rfl rfl ?_
 refine ah.nil ?_
 refine ae.next ?_
 refine ai.seq ?_
 refine ai.seq ?_
 refine ai.cE ?_
 refine ah.v (ch (ab rfl)) rfl rfl rfl ?_
 refine ah.v (gI (ab rfl) (bN 0)) rfl rfl rfl ?_
 refine ah.nil ?_
 refine ae.next ?_
 refine ai.cond (ab rfl) (fun ak=> ?_) (fun _=> ?_)
 ·exfalso; simp only [beq_iff_eq] at ak; omega
 refine ai.skip ?_
 refine ae.next ?_
 refine ai.seq ?_
 refine ai.cE ?_
 refine ah.v (ch (ab rfl)) rfl rfl rfl ?_
 refine ah.v (ra (i:=0) (xs:=aa) Tryz.underlying38 (ab rfl) rfl rfl) rfl rfl rfl ?_
 refine ah.v (eH (ab rfl)) rfl rfl rfl ?_
 refine ah.nil ?_
 refine ae.next ?_
 refine ai.seq ?_
 refine ai.seq ?_
 refine ai.cE ?_
 refine ah.v (ch (ab rfl)) rfl rfl rfl ?_
 refine ah.v (ch (ab rfl)) rfl rfl rfl ?_
 refine ah.v (gI (ab rfl) (ab rfl)) rfl rfl rfl ?_
 refine ah.nil ?_
 refine ae.next ?_
 refine ai.cond (ab rfl) (fun ak=> ?_) (fun ak=> ?_)
 ·have ix:k=aa.length:=by simp only [beq_iff_eq] at ak; omega
  subst ix
  refine ai.seq ?_
  refine ai.cE ?_
  refine ah.v (ch (ab rfl)) rfl rfl rfl ?_
  refine ah.m3 (α:=aw) 1 [2,13] ⟨rfl,rfl,trivial⟩ rfl ?_
  refine ah.v (ch (ab rfl)) rfl rfl rfl ?_
  refine ah.app (i:=0) (xs:=aa) (ys:=aT) (r:=aa ++ aT) Tryz.underlying38 cI h3 (by kernel_rfl) (ab rfl) rfl (ab rfl) (by unfold hQ; rw [if_pos ⟨lN,kT⟩]) rfl fun hN fI=> ?_
  refine ah.v (eH (ab rfl)) rfl rfl rfl ?_
  refine ah.nil ?_
  refine ae.next ?_
  refine ai.ret ?_
  have aS:aa.take aa.length ++ aT ++ aa.drop aa.length=aa ++ aT:=by simp
  rw [aS]
  exact ae.eW (hN,fI) (.cons_cons _ (List.nil_sublist _)) rfl rfl (dH rfl)
 have ix:k < aa.length:=by simp only [beq_eq_false_iff_ne] at ak; omega
 refine ai.skip ?_
 refine ae.next ?_
 refine ai.some (i:=0) (xs:=aa) rfl (by omega) fun p hp s3 vq=> ?_
 subst hp
 refine ai.some (i:=1) (xs:=aT) rfl (by omega) fun q hq aaV aaY=> ?_
 subst hq
 refine ai.apart rfl fun th=> ?_
 refine ai.seq ?_
 refine ai.seq ?_
 refine ai.cE ?_
 refine ah.v (ch (ab rfl)) rfl rfl rfl ?_
 refine ah.v (ch (ab rfl)) rfl rfl rfl ?_
 refine ah.v (dX (ab rfl) (ab rfl)) rfl rfl rfl ?_
 refine ah.v (ch (ab rfl)) rfl rfl rfl ?_
 refine ah.v (U8 Tryz.underlying38 (ab rfl)) rfl rfl rfl ?_
 refine ah.v (qe (ab rfl) (ab rfl)) rfl rfl rfl ?_
 refine ah.nil ?_
 refine ae.next ?_
 have hw:bA ((aa.length:Int) + (aT.length:Int))=((aa.length + aT.length:Nat):Int):=by
  have mc:maxLen=9223372036854775807:=rfl
  rw [hA (by omega) (by omega)]; simp
 refine ai.cond (ab rfl) (fun e4=> ?_) (fun e4=> ?_)
 ·have xm:dL < aa.length + aT.length:=by rw [hw] at e4; simp only [decide_eq_true_eq] at e4; omega
  have mc:maxLen=9223372036854775807:=rfl
  have aG:bA (bA ((aa.length:Int) + (aT.length:Int)) - (k:Int))=((aa.length + aT.length - k:Nat):Int):=by
   rw [hw,hA (by omega) (by omega)]; omega
  refine ai.seq ?_
  refine ai.cE ?_
  refine ah.v (ch (ab rfl)) rfl rfl rfl ?_
  refine ah.v (ch (ab rfl)) rfl rfl rfl ?_
  refine ah.v (Di (i:=0) (xs:=aa) Tryz.underlying38 cI (ab rfl) rfl .none (.some (ab rfl)) rfl rfl ⟨Nat.zero_le _,au⟩) rfl rfl rfl ?_
  refine ah.v (ch (ab rfl)) rfl rfl rfl ?_
  refine ah.v (ch (ab rfl)) rfl rfl rfl ?_
  refine ah.v (dX (ab rfl) (ab rfl)) rfl rfl rfl ?_
  refine ah.v (ch (ab rfl)) rfl rfl rfl ?_
  refine ah.v (iE (ab rfl) (ab rfl)) rfl rfl rfl ?_
  refine ah.Yp (i:=0) (m:=k) (k:=aa.length + aT.length - k) (xs:=aa) (z:=(default:aw)) Tryz.underlying38 Tryz.underlying3 cI h3 (by rfl) (by kernel_rfl) (ab rfl) (by rw [← aG]; exact ab rfl) rfl au (by omega) (by omega) (by rw [show k + (aa.length + aT.length - k)=aa.length + aT.length by omega]; exact lN) (by omega) rfl fun ax fI=> ?_
  refine ah.v (eH (ab rfl)) rfl rfl rfl ?_
  refine ah.nil ?_
  refine ae.next ?_
  have hlen:(aa.take k ++ List.replicate (aa.length + aT.length - k) (default:aw)).length=aa.length + aT.length:=by simp; omega
  refine ai.some (i:=0) (xs:=aa.take k ++ List.replicate (aa.length + aT.length - k) (default:aw)) rfl (by omega) fun et nq WR aaZ=> ?_
  rw [hlen] at WR
  refine ai.seq ?_
  refine ai.cE ?_
  refine ah.v (ch (ab rfl)) rfl rfl rfl ?_
  refine ah.v (ch (ab rfl)) rfl rfl rfl ?_
  refine ah.v (qV (α:=aw) (m:=k) (h:=k + (aa.length + aT.length - k)) Tryz.underlying38 cI (ab rfl) (.some (ab rfl)) .none rfl rfl ⟨by omega,by omega⟩) rfl rfl rfl ?_
  refine ah.v (ch (ab rfl)) rfl rfl rfl ?_
  refine ah.Eb (i:=0) (p:=ax) (off:=k * ag.size aw) (dLen:=k + (aa.length + aT.length - k) - k) (dCap:=fI - k) (N:=aT.length) (vs:=aT) (T:=52) Tryz.underlying38 cI (by rw [← G6 (by omega)]; exact ab rfl) (Mc (i:=2) (ab rfl) rfl a6) (Nat.min_eq_left (by omega)) rfl rfl (fun A W o cells h cX=>GH (by omega) h cX) ?_
  refine ah.nil ?_
  refine ae.next ?_
  have aF:(aa.take k ++ List.replicate (aa.length + aT.length - k) (default:aw)).take k ++ aT ++ (aa.take k ++ List.replicate (aa.length + aT.length - k) (default:aw)).drop (k + aT.length)=aa.take k ++ aT ++ List.replicate (aa.length - k) (default:aw):=by
   have iX:(aa.take k).length=k:=by rw [List.length_take]; omega
   rw [List.take_left' iX,List.drop_append,iX,List.drop_eq_nil_of_le (by omega),List.nil_append,List.drop_replicate]
   congr 2
   omega
  have ti:bA ((k:Int) + (aT.length:Int))=((k + aT.length:Nat):Int):=by rw [hA (by omega) (by omega)]; simp
  refine ai.seq ?_
  refine ai.le (E':= [(0,I.eq (ba (some p) aa.length dL)),(1,I.of (k:Int)),(7,I.of (aT.length:Int)),(9,I.eq (ba (some ax) (k + (aa.length + aT.length - k)) fI))]) (.same rfl (.same rfl (.same rfl (.same rfl .nil)))) ?_
  refine ai.jZ mixed (⟨some 46,[],[],[],fun _=>I.eq (ba (some ax) (k + (aa.length + aT.length - k)) fI),fun _ _=>⟨none,.dead⟩⟩ :: ⟨some 47,[],[],[],fun _=>I.of (k:Int),fun _ _=>⟨none,.dead⟩⟩ :: ⟨some 48,[],[],[],fun _=>I.of (aT.length:Int),fun _ _=>⟨none,.dead⟩⟩ :: ⟨some 49,(1 :: 2 :: []),[],[],fun _=>I.of (bA ((k:Int) + (aT.length:Int))),fun _ _=>⟨none,.dead⟩⟩ :: ⟨some 50,(0 :: 3 :: []),[],[],fun _=>I.eq (hi (some ax) (k + aT.length) ((k + (aa.length + aT.length - k)) - (k + aT.length)) fI (ag.size aw)),fun _ _=>⟨none,.dead⟩⟩ :: ⟨some 51,[],[],[],fun _=>I.eq (ba (some p) aa.length dL),fun _ _=>⟨none,.dead⟩⟩ :: ⟨some 52,[],[],[],fun _=>I.of (k:Int),fun _ _=>⟨none,.dead⟩⟩ :: ⟨some 53,(5 :: 6 :: []),[],[],fun _=>I.eq (hi (some p) k (aa.length - k) dL (ag.size aw)),fun _ _=>⟨none,.dead⟩⟩ :: ⟨some 54,(4 :: 7 :: []),(0 :: 1 :: []),(0 :: []),fun _=>I.of ((((aa.drop k).take (aa.length - k)).length:Nat):Int),fun _ _=>⟨some ax,.row 52 ((aa.take k ++ aT ++ List.replicate (aa.length - k) (default:aw)).take (k + aT.length) ++ (aa.drop k).take (aa.length - k) ++ (aa.take k ++ aT ++ List.replicate (aa.length - k) (default:aw)).drop (k + aT.length + ((aa.drop k).take (aa.length - k)).length)) fI⟩⟩ :: []) ((some 46,[],[],[]) :: (some 47,[],[],[]) :: (some 48,[],[],[]) :: (some 49,(1 :: 2 :: []),[],[]) :: (some 50,(0 :: 3 :: []),[],[]) :: (some 51,[],[],[]) :: (some 52,[],[],[]) :: (some 53,(5 :: 6 :: []),[],[]) :: (some 54,(4 :: 7 :: []),(0 :: 1 :: []),(0 :: [])) :: []) (0 :: 1 :: 7 :: 9 :: []) rfl rfl (by kernel_rfl) ⟨?_,?_,?_,?_,?_,?_,?_,?_,?_,trivial⟩ fun hd=> ?_
  ·exact hO rfl rfl rfl fun hd E' L' aD an=>ch (ab (aD _ _ rfl))
  ·exact hO rfl rfl rfl fun hd E' L' aD an=>ch (ab (aD _ _ rfl))
  ·exact hO rfl rfl rfl fun hd E' L' aD an=>ch (ab (aD _ _ rfl))
  ·exact hO rfl rfl rfl fun hd E' L' aD an=>dX (ab (aD _ _ rfl)) (ab (aD _ _ rfl))
  ·exact hO rfl rfl rfl fun hd E' L' aD an=>qV (α:=aw) (m:=k + aT.length) (h:=(k + (aa.length + aT.length - k))) Tryz.underlying38 cI (ab (aD _ _ rfl)) (.some (ab (aD _ _ rfl))) .none ti rfl ⟨by omega,by omega⟩
  ·exact hO rfl rfl rfl fun hd E' L' aD an=>ch (ab (aD _ _ rfl))
  ·exact hO rfl rfl rfl fun hd E' L' aD an=>ch (ab (aD _ _ rfl))
  ·exact hO rfl rfl rfl fun hd E' L' aD an=>qV (α:=aw) (m:=k) (h:=aa.length) Tryz.underlying38 cI (ab (aD _ _ rfl)) (.some (ab (aD _ _ rfl))) .none rfl rfl ⟨by omega,by omega⟩
  ·intro hd E' L' aD an
   have bG:=an 0 _ rfl rfl
   rw [aF] at bG
   refine ah.Eb (i:=0) (p:=ax) (off:=(k + aT.length) * ag.size aw) (T:=52) (vs:=(aa.drop k).take (aa.length - k)) (N:=aa.length - k) (dLen:=(k + (aa.length + aT.length - k)) - (k + aT.length)) (dCap:=fI - (k + aT.length)) Tryz.underlying38 cI (by rw [← G6 (p:=ax) (lo:=k + aT.length) (cap:=fI) (size:=ag.size aw) (by omega)]; exact ab (aD _ _ rfl)) (Dt (i:=1) (ab (aD _ _ rfl)) (an 1 _ rfl rfl) (by omega) (by omega)) (by rw [show((aa.drop k).take (aa.length - k)).length=aa.length - k by simp]; exact Nat.min_eq_left (by omega)) bG rfl (fun A W o cells h cX=>GH (by simp; omega) h cX) ?_
   refine ah.nil ?_
   exact ae.fin (eP []) rfl rfl
  have aR:((aa.take k ++ aT ++ List.replicate (aa.length - k) (default:aw)).take (k + aT.length) ++ (aa.drop k).take (aa.length - k) ++ (aa.take k ++ aT ++ List.replicate (aa.length - k) (default:aw)).drop (k + aT.length + ((aa.drop k).take (aa.length - k)).length))=aa.take k ++ aT ++ aa.drop k:=by
   have iX:(aa.take k ++ aT).length=k + aT.length:=by simp; omega
   have cS:(aa.drop k).take (aa.length - k)=aa.drop k:=List.take_of_length_le (by simp)
   have iI:(aa.take k ++ aT ++ List.replicate (aa.length - k) (default:aw)).drop (k + aT.length + (aa.drop k).length)= []:=List.drop_eq_nil_of_le (by rw [List.length_append,iX,List.length_replicate,List.length_drop]; omega)
   rw [cS,List.take_left' iX,iI,List.append_nil]
  refine ae.eo (L2:= [⟨some ax,.row 52 ((aa.take k ++ aT ++ List.replicate (aa.length - k) (default:aw)).take (k + aT.length) ++ (aa.drop k).take (aa.length - k) ++ (aa.take k ++ aT ++ List.replicate (aa.length - k) (default:aw)).drop (k + aT.length + ((aa.drop k).take (aa.length - k)).length)) fI⟩,⟨some p,.row 52 aa dL⟩,⟨some q,.row 52 aT uU⟩]) rfl ?_
  rw [aR]
  refine ae.le (E':= [(9,I.eq (ba (some ax) (k + (aa.length + aT.length - k)) fI))]) (.same rfl .nil) ?_
  refine ae.next ?_
  refine ai.seq ?_
  refine ai.cE ?_
  refine ah.v (ch (ab rfl)) rfl rfl rfl ?_
  refine ah.v (eH (ab rfl)) rfl rfl rfl ?_
  refine ah.nil ?_
  refine ae.next ?_
  refine ai.ret ?_
  have dh:k + (aa.length + aT.length - k)=(aa.take k ++ aT ++ aa.drop k).length:=by simp; omega
  rw [dh]
  exact ae.eW (some ax,fI) (.cons_cons _ (List.nil_sublist _)) rfl rfl (dH rfl)
 have xm:aa.length + aT.length≤dL:=by rw [hw] at e4; simp only [decide_eq_false_iff_not] at e4; omega
 have mc:maxLen=9223372036854775807:=rfl
 have ti:bA ((k:Int) + (aT.length:Int))=((k + aT.length:Nat):Int):=by rw [hA (by omega) (by omega)]; simp
 refine ai.skip ?_
 refine ae.next ?_
 refine ai.seq ?_
 refine ai.cE ?_
 refine ah.v (ch (ab rfl)) rfl rfl rfl ?_
 refine ah.v (ch (ab rfl)) rfl rfl rfl ?_
 refine ah.v (ch (ab rfl)) rfl rfl rfl ?_
 refine ah.v (dX (ab rfl) (ab rfl)) rfl rfl rfl ?_
 refine ah.v (qV (α:=aw) (m:=0) (h:=aa.length + aT.length) Tryz.underlying38 cI (ab rfl) .none (.some (ab rfl)) rfl hw ⟨by omega,by omega⟩) rfl rfl rfl ?_
 refine ah.v (eH (ab rfl)) rfl rfl rfl ?_
 refine ah.nil ?_
 refine ae.next ?_
 refine ai.seq ?_
 refine ai.seq ?_
 refine ai.cE ?_
 refine ah.v (ch (ab rfl)) rfl rfl rfl ?_
 refine ah.v (ch (ab rfl)) rfl rfl rfl ?_
 refine ah.v (ch (ab rfl)) rfl rfl rfl ?_
 refine ah.v (ch (ab rfl)) rfl rfl rfl ?_
 refine ah.v (dX (ab rfl) (ab rfl)) rfl rfl rfl ?_
 refine ah.v (qV (α:=aw) (p:=p) (n:=aa.length + aT.length) (cap:=dL) (m:=k + aT.length) (h:=aa.length + aT.length) Tryz.underlying38 cI (DH (size:=ag.size aw) (ab rfl)) (.some (ab rfl)) .none ti rfl ⟨by omega,by omega⟩) rfl rfl rfl ?_
 refine ah.v (WS (α:=aw) (p:=p) (q:=q) (T:=52) (U:=52) (xs:=aa) (vs:=aT) (cap:=dL) (cap':=uU) (i:=0) (j:=1) (tR:=4) (by kernel_rfl) Tryz.func280 (by kernel_rfl) (by kernel_rfl) (by kernel_rfl) (by kernel_rfl) Tryz.underlying38 cI (ab rfl) (Hr (p:=p) (lo:=k + aT.length) (cap:=dL) (size:=ag.size aw) (by omega) (ab rfl)) rfl rfl th (by omega)) rfl rfl rfl ?_
 refine ah.v (k6 (ab rfl)) rfl rfl rfl ?_
 refine ah.nil ?_
 refine ae.next ?_
 refine ai.cond (ab rfl) (fun _=> ?_) (fun lK=>by cases lK)
 ·have j9:(aa.length + aT.length - 0)=aa.length + aT.length:=by omega
  have O2:(aa.drop k).take (aa.length - k)=aa.drop k:=List.take_of_length_le (by simp)
  refine ai.seq ?_
  refine ai.le (E':= [(0,I.eq (hi (some p) 0 (aa.length + aT.length - 0) dL (ag.size aw))),(1,I.of (k:Int)),(2,I.eq (ba (some q) aT.length uU)),(7,I.of (aT.length:Int))]) (.same rfl (.same rfl (.same rfl (.same rfl .nil)))) ?_
  refine ai.jZ mixed (⟨some 69,[],[],[],fun _=>I.eq (hi (some p) 0 (aa.length + aT.length - 0) dL (ag.size aw)),fun _ _=>⟨none,.dead⟩⟩ :: ⟨some 70,[],[],[],fun _=>I.of (k:Int),fun _ _=>⟨none,.dead⟩⟩ :: ⟨some 71,[],[],[],fun _=>I.of (aT.length:Int),fun _ _=>⟨none,.dead⟩⟩ :: ⟨some 72,(1 :: 2 :: []),[],[],fun _=>I.of (bA ((k:Int) + (aT.length:Int))),fun _ _=>⟨none,.dead⟩⟩ :: ⟨some 73,(0 :: 3 :: []),[],[],fun _=>I.eq (hi (some p) (k + aT.length) (aa.length + aT.length - (k + aT.length)) dL (ag.size aw)),fun _ _=>⟨none,.dead⟩⟩ :: ⟨some 74,[],[],[],fun _=>I.eq (hi (some p) 0 (aa.length + aT.length - 0) dL (ag.size aw)),fun _ _=>⟨none,.dead⟩⟩ :: ⟨some 75,[],[],[],fun _=>I.of (k:Int),fun _ _=>⟨none,.dead⟩⟩ :: ⟨some 76,(5 :: 6 :: []),[],[],fun _=>I.eq (hi (some p) k (aa.length + aT.length - k) dL (ag.size aw)),fun _ _=>⟨none,.dead⟩⟩ :: ⟨some 77,(4 :: 7 :: []),(0 :: []),(0 :: []),fun _=>I.of ((((aa.drop k).take (aa.length - k)).length:Nat):Int),fun _ _=>⟨some p,.Bk 52 aa k aT.length dL⟩⟩ :: []) ((some 69,[],[],[]) :: (some 70,[],[],[]) :: (some 71,[],[],[]) :: (some 72,(1 :: 2 :: []),[],[]) :: (some 73,(0 :: 3 :: []),[],[]) :: (some 74,[],[],[]) :: (some 75,[],[],[]) :: (some 76,(5 :: 6 :: []),[],[]) :: (some 77,(4 :: 7 :: []),(0 :: []),(0 :: [])) :: []) (0 :: 1 :: 2 :: 7 :: []) rfl rfl (by kernel_rfl) ⟨?_,?_,?_,?_,?_,?_,?_,?_,?_,trivial⟩ fun hd=> ?_
  ·exact hO rfl rfl rfl fun hd E' L' aD an=>ch (ab (aD _ _ rfl))
  ·exact hO rfl rfl rfl fun hd E' L' aD an=>ch (ab (aD _ _ rfl))
  ·exact hO rfl rfl rfl fun hd E' L' aD an=>ch (ab (aD _ _ rfl))
  ·exact hO rfl rfl rfl fun hd E' L' aD an=>dX (ab (aD _ _ rfl)) (ab (aD _ _ rfl))
  ·exact hO rfl rfl rfl fun hd E' L' aD an=>qV (α:=aw) (n:=aa.length + aT.length) (m:=k + aT.length) (h:=aa.length + aT.length) Tryz.underlying38 cI (DH (size:=ag.size aw) (ab (aD _ _ rfl))) (.some (ab (aD _ _ rfl))) .none ti rfl ⟨by omega,by omega⟩
  ·exact hO rfl rfl rfl fun hd E' L' aD an=>ch (ab (aD _ _ rfl))
  ·exact hO rfl rfl rfl fun hd E' L' aD an=>ch (ab (aD _ _ rfl))
  ·exact hO rfl rfl rfl fun hd E' L' aD an=>qV (α:=aw) (n:=aa.length + aT.length) (m:=k) (h:=aa.length + aT.length) Tryz.underlying38 cI (DH (size:=ag.size aw) (ab (aD _ _ rfl))) (.some (ab (aD _ _ rfl))) .none rfl rfl ⟨by omega,by omega⟩
  ·intro hd E' L' aD an
   have bG:=an 0 _ rfl rfl
   refine ah.Eb (i:=0) (p:=p) (off:=(k + aT.length) * ag.size aw) (T:=52) (vs:=(aa.drop k).take (aa.length - k)) (N:=aa.length + aT.length - k) (dLen:=aa.length + aT.length - (k + aT.length)) (dCap:=dL - (k + aT.length)) (cp':= .Bk 52 aa k aT.length dL) Tryz.underlying38 cI (Hr (p:=p) (lo:=k + aT.length) (cap:=dL) (size:=ag.size aw) (by omega) (ab (aD _ _ rfl))) (Dt (i:=0) (ab (aD _ _ rfl)) bG (by omega) (by omega)) (by rw [O2]; rw [show(aa.drop k).length=aa.length + aT.length - (k + aT.length) by simp; omega]; exact Nat.min_eq_right (by omega)) bG rfl (fun A W o cells h cX=>Uf au xm h (by rw [← O2]; exact cX)) ?_
   refine ah.nil ?_
   exact ae.fin (eP []) rfl rfl
  refine ae.eo (L2:= [⟨some p,.Bk 52 aa k aT.length dL⟩,⟨some q,.row 52 aT uU⟩]) rfl ?_
  refine ae.le (E':= [(0,I.eq (hi (some p) 0 (aa.length + aT.length - 0) dL (ag.size aw))),(1,I.of (k:Int)),(2,I.eq (ba (some q) aT.length uU))]) (.same rfl (.same rfl (.same rfl .nil))) ?_
  refine ae.next ?_
  refine ai.seq ?_
  refine ai.cE ?_
  refine ah.v (ch (ab rfl)) rfl rfl rfl ?_
  refine ah.v (ch (ab rfl)) rfl rfl rfl ?_
  refine ah.v (qV (α:=aw) (n:=aa.length + aT.length) (m:=k) (h:=aa.length + aT.length) Tryz.underlying38 cI (DH (size:=ag.size aw) (ab rfl)) (.some (ab rfl)) .none rfl rfl ⟨by omega,by omega⟩) rfl rfl rfl ?_
  refine ah.v (ch (ab rfl)) rfl rfl rfl ?_
  refine ah.Eb (i:=0) (p:=p) (off:=k * ag.size aw) (dLen:=aa.length + aT.length - k) (dCap:=dL - k) (N:=aT.length) (vs:=aT) (T:=52) (cp':= .row 52 (aa.take k ++ aT ++ aa.drop k) dL) Tryz.underlying38 cI (Hr (p:=p) (lo:=k) (cap:=dL) (size:=ag.size aw) (by omega) (ab rfl)) (Mc (i:=1) (ab rfl) rfl a6) (Nat.min_eq_left (by omega)) rfl rfl (fun A W o cells h cX=>Tz au h cX) ?_
  refine ah.nil ?_
  refine ae.next ?_
  refine ai.seq ?_
  refine ai.cE ?_
  refine ah.v (ch (ab rfl)) rfl rfl rfl ?_
  refine ah.v (eH (ab rfl)) rfl rfl rfl ?_
  refine ah.nil ?_
  refine ae.next ?_
  refine ai.ret ?_
  have dh:aa.length + aT.length - 0=(aa.take k ++ aT ++ aa.drop k).length:=by simp; omega
  rw [zn,dh]
  exact ae.eW (some p,dL) (.cons_cons _ (List.nil_sublist _)) rfl rfl (dH rfl)
theorem Q0 {hp:aN Cell} {aa:jj} {aj:bh} {r:Int × Bool} (h:yP hp aa aj=some r):bO Tryz.prog 260 [I.of (aa),I.of (aj)] ([] ++ aV hp) (δ:=Unit) (fun _=>I.eD [I.of (r.1),I.of (r.2)]) (fun _=> [] ++ aV hp):=by
 unfold yP at h
 refine bO.of Tryz.func260 rfl Tryz.ntmps260 rfl fun W A=> ?_
 refine aE ?_
 refine cz fun aW=> ?_
 refine cz fun a2=> ?_
 refine aO ?_
 refine aO ?_
 refine bY ?_
 refine aE ?_
 refine a4 (aX G5) ?_
 refine ct 1 CJ Ea ?_
 obtain⟨b6,c8,h⟩:=az h
 obtain⟨bq,dM,h⟩:=az h
 obtain⟨aB,bu,h⟩:=az h
 refine ah.iN (fS.obj 2 rfl (uy dM) WT (Qv bu) rfl ⟨dZ (ab rfl) c8,trivial⟩) rfl rfl rfl ?_
 refine a4 (eT Tryz.underlying38) ?_
 refine aC ?_
 refine aM ?_
 refine ai.block ?_
 obtain⟨aF,ao,h⟩:=az h
 refine ai.D7 (σ:=Int) (ε:=(Int × Bool) ⊕ (Int × Bool × Int × Bool × Bool)) (γ:=Unit) (δ:=Unit) ao (fun s1 av=> [(0,I.of (aa)),(1,I.of (aj)),(2,I.eq (.pointer (some ⟨aW,0,none⟩))),(3,I.eq (.pointer (some ⟨a2,0,none⟩))),(4,I.of (0:Int)),(5,I.of (false)),(10,I.of (aB)),(11,I.of (aB.length:Int)),(12,I.of (s1))]) (fun s1 av=>(⟨some a2,.var (aj:bh)⟩ :: ⟨some aW,.var (aa:jj)⟩ :: aV hp)) (fun ax=>Sum.elim (fun ax=>Exit.exit 0) (fun ax=>Exit.ret) ax) (fun ax av=>Sum.elim (fun ax=> [(0,I.of (aa)),(1,I.of (aj)),(2,I.eq (.pointer (some ⟨aW,0,none⟩))),(3,I.eq (.pointer (some ⟨a2,0,none⟩))),(4,I.of (0:Int)),(5,I.of (false)),(10,I.of (aB)),(11,I.of (aB.length:Int)),(12,I.of (ax.1)),(13,I.of (ax.2))]) (fun ax=> [(0,I.of (aa)),(1,I.of (aj)),(2,I.eq (.pointer (some ⟨aW,0,none⟩))),(3,I.eq (.pointer (some ⟨a2,0,none⟩))),(4,I.of (ax.1)),(5,I.of (ax.2.1)),(10,I.of (aB)),(11,I.of (aB.length:Int)),(12,I.of (ax.2.2.1)),(13,I.of (ax.2.2.2.1)),(19,I.of (ax.2.2.2.2))]) ax) (fun ax av=>Sum.elim (fun ax=>(⟨some a2,.var (aj:bh)⟩ :: ⟨some aW,.var (aa:jj)⟩ :: aV hp)) (fun ax=>(⟨some a2,.var (aj:bh)⟩ :: ⟨some aW,.var (aa:jj)⟩ :: aV hp)) ax) () rfl (.same rfl (.same rfl (.same rfl (.same rfl (.same rfl (.same rfl (.same rfl (.same rfl (.same rfl .nil))))))))) (fun s1 r h av=> ?_) (fun av=> ?_)
 ·clear ao
  refine aE ?_
  refine bs e1 ?_
  refine bY ?_
  refine cA h (fun h=>?_) fun h=>?_
  ·refine c4 ?_
   refine ai.seq ?_
   refine ai.block ?_
   refine aE ?_
   obtain⟨bj,cQ,h⟩:=az h
   refine ik cQ Tryz.underlying38 cI ?_
   refine a4 (eh cI) ?_
   refine dJ h3 fun bF=> ?_
   refine cY 0 cI ?_
   refine b5 ?_
   refine a4 (aX lZ) ?_
   refine ct 0 lr fP ?_
   refine cR 1 fP ?_
   obtain⟨aH,cB,h⟩:=az h
   refine fQ WU (Rp cB) ?_
   refine aM ?_
   refine cA h (fun h=>?_) fun h=>?_
   ·refine aE ?_
    refine a4 (aX nL) ?_
    refine ct 0 mU bK ?_
    refine aO ?_
    refine aO ?_
    refine aM ?_
    refine ai.ret ?_
    refine ae.dR ?_
    refine ae.ret ?_
    obtain rfl:=aK h
    exact eX () 1
   ·refine ai.skip ?_
    refine ae.eC ?_
    refine ae.next ?_
    refine ai.cE ?_
    refine bs dX ?_
    refine aC ?_
    refine ah.nil ?_
    obtain rfl:=aK h
    exact hD () 1
  ·refine ai.exit ?_
   refine ae.exit ?_
   obtain rfl:=aK h
   exact eX () 0
 ·clear ao
  rcases aF with aF | aF
  ·simp only [Sum.elim_inl] at h
   refine ae.gE ?_
   refine ae.next ?_
   refine aE ?_
   refine aO ?_
   refine aO ?_
   refine aM ?_
   refine ai.ret ?_
   obtain rfl:=aK h
   exact ae.kl () (.cons _ (.cons _ (.refl _))) rfl rfl (dH rfl) (dH rfl)
  ·simp only [Sum.elim_inr] at h
   refine ae.dR ?_
   refine ae.ret ?_
   obtain rfl:=aK h
   exact ae.kl () (.cons _ (.cons _ (.refl _))) rfl rfl (dH rfl) (dH rfl)
theorem Qx {aa:c9} {aj:aw} {cv:Nat} {kG:Option Nat} {kH:Nat} {r:Bool × c9} (h:yr aa aj=some r):bO Tryz.prog 267 [I.eq (.pointer (some ⟨cv,0,none⟩)),I.of (aj)] [⟨some cv,.ca (({ aa with c2:= [] } :c9):c9) [(10,ba kG aa.c2.length kH)]⟩,⟨kG,.row 52 (aa.c2:List aw) kH⟩] (δ:=(Option Nat × Nat)) (fun d=>I.of (r.1)) (fun d=> [⟨some cv,.ca (({ r.2 with c2:= [] } :c9):c9) [(10,ba d.1 (r.2.c2).length d.2)]⟩,⟨d.1,.row 52 (r.2.c2:List aw) d.2⟩]):=by
 unfold yr at h
 refine bO.of Tryz.func267 rfl Tryz.ntmps267 rfl fun W A=> ?_
 refine aE ?_
 refine cz fun aW=> ?_
 refine aO ?_
 refine bY ?_
 refine aE ?_
 refine aC ?_
 refine bp (Hn Tryz.underlying170 (ab rfl)) ?_
 refine aC ?_
 refine dB ch ?_
 refine dB (aX nL) ?_
 refine eQ (fun hb=>e9 (i:=0) ((aQ.id aw).comp mU) (r:=aj.cu) bK (cq rfl hb) rfl rfl rfl) ?_
 obtain⟨aB,bu,h⟩:=az h
 refine ah.PF (fun hb=>fS.call [1,2] Ns (J7 (ga bu hb)) ⟨cq rfl hb,cq rfl hb,trivial⟩ rfl ⟨rfl,rfl,trivial⟩ rfl) rfl rfl rfl rfl rfl ?_
 refine kO mx ?_
 refine Bf ?_
 refine aM ?_
 refine cA h (fun h=>?_) fun h=>?_
 ·refine aE ?_
  refine aO ?_
  refine aM ?_
  refine ai.ret ?_
  refine ae.ret ?_
  refine ae.bU 2 rfl ?_
  refine ae.bU 2 rfl ?_
  obtain rfl:=aK h
  exact lJ (kG,kH)
 ·refine c4 ?_
  refine aE ?_
  refine aC ?_
  refine bp (WV (ab rfl)) ?_
  refine aO ?_
  refine bY ?_
  obtain⟨aH,cB,h⟩:=az h
  refine j8 [0,1,3,4,5,8,9,10,11,12,13,14,15,16,17,18] ?_
  refine ai.jZ mixed (bk 20 [] [] _ :: bk 21 (0 :: []) [] _ :: bk 22 (1 :: []) [] _ :: bk 23 (2 :: []) (1 :: []) _ :: bk 24 [] (0 :: []) _ :: bk 25 [] [] _ :: bk 26 (3 :: 4 :: 5 :: []) (1 :: 2 :: []) _ :: bk 19 (6 :: []) [] _ :: bk 27 (7 :: []) [] _ :: bk 28 (7 :: []) [] _ :: bk 6 (8 :: []) [] _ :: bk 7 (9 :: []) [] _ :: []) _ (0 :: 1 :: 3 :: 4 :: 5 :: 8 :: 9 :: 10 :: 11 :: 12 :: 13 :: 14 :: 15 :: 16 :: 17 :: 18 :: []) rfl rfl (by kernel_rfl) ⟨fg,fx dx,fx (aX uq),cm fun hd E' L' aD an=>hW (i:=1) (q:=0) (β:=c9) (γ:=aw) mE (ab (aD _ _ rfl)) (an 1 _ rfl rfl) rfl,pz 0 cI,fg,cm fun hd E' L' aD an=>b4.U9 (β:=c9) (γ:=aw) (b':=(aa:c9)) ((aQ.id c9).comp CH) 1 2 0 23 rfl (an 1 _ rfl rfl) (an 2 _ rfl rfl) rfl rfl rfl (aD _ _ rfl) (Gr Dj Db) (b4.WW 1 (IL (O3 rfl (an 1 _ rfl rfl))) (Gr Dj Db) (b4.Va (F:=(fun h7 cN=>wa aa h7 cN)) 1 25 (aD _ _ rfl) (IL (IL (O3 rfl (an 1 _ rfl rfl)))) WX (fun _ _ _ h=>Qw h) (Gr Dj Db) (ly WY (P0 cB) ⟨ab rfl,ab (aD _ _ rfl),ab rfl,trivial⟩))),fg,cm fun hd E' L' aD an=>m9 (ab (aD _ _ rfl)) rfl,cm fun hd E' L' aD an=>m9 (ab (aD _ _ rfl)) rfl,cm fun hd E' L' aD an=>eH (ab (aD _ _ rfl)),cm fun hd E' L' aD an=>eH (ab (aD _ _ rfl)),trivial⟩ fun eZ=> ?_
  refine ae.eo (L2:= [⟨some aW,.var (aj:aw)⟩,⟨some cv,.ca (({ aa with c2:= [] } :c9):c9) [(10,ba kG aa.c2.length kH)]⟩,⟨kG,.row 52 (aa.c2:List aw) kH⟩]) rfl ?_
  refine kP [0,1,3,4,5,6,7,8,9,10,11,12,13,14,15,16,17,18,19,20,21,22,23,24,25,26,27,28] ?_
  refine ae.next ?_
  refine ai.seq ?_
  obtain⟨bn,fF,h⟩:=az h
  obtain⟨bD,gL,h⟩:=az h
  refine ai.qk 1 ?_
  refine j8 [0,1,3,4,5,6,7,8,9,10,11,12,13,14,15,16,17,18,19,20,21,22,23,24,25,26,27,28] ?_
  refine ai.jZ mixed (bk 29 [] [] _ :: bk 30 [] [] _ :: bk 31 (1 :: []) [] _ :: bk 32 (2 :: []) [] _ :: bk 33 (3 :: []) (1 :: []) _ :: bk 34 [] [] _ :: bk 35 [] (0 :: []) _ :: bk 36 (6 :: []) [] _ :: ⟨some 37,(7 :: []),(3 :: []),(3 :: []),fun hd=>I.eq (ba (hd 8 0) [bn].length 1),fun hd _=>⟨(hd 8 0),.row 52 ([bn]:List aw) 1⟩⟩ :: ⟨some 38,(4 :: 5 :: 8 :: []),(2 :: 3 :: []),(2 :: 3 :: []),fun hd=>I.eq (ba (hd 9 0) bD.length ((hd 9 1).getD 0)),fun hd j=>bif Nat.beq j 2 then⟨(hd 9 0),.row 52 (bD:List aw) ((hd 9 1).getD 0)⟩ else⟨none,.dead⟩⟩ :: bk 39 (0 :: []) [] _ :: bk 40 (10 :: []) [] _ :: ⟨none,(4 :: 9 :: 11 :: []),(1 :: []),(1 :: []),fun _=>I.any,fun hd _=>⟨some cv,.ca (({ aa with c2:= [] } :c9):c9) [(10,ba (hd 9 0) bD.length ((hd 9 1).getD 0))]⟩⟩ :: []) _ (0 :: 1 :: 3 :: 4 :: 5 :: 6 :: 7 :: 8 :: 9 :: 10 :: 11 :: 12 :: 13 :: 14 :: 15 :: 16 :: 17 :: 18 :: 19 :: 20 :: 21 :: 22 :: 23 :: 24 :: 25 :: 26 :: 27 :: 28 :: []) rfl rfl (by kernel_rfl) ⟨fg,fg,fx dx,fx (aX uq),cm fun hd E' L' aD an=>hW (i:=1) (q:=0) (β:=c9) (γ:=aw) mE (ab (aD _ _ rfl)) (an 1 _ rfl rfl) rfl,fg,pz 0 cI,cm fun hd E' L' aD an=>ly AS (y2 fF) ⟨ab (aD _ _ rfl),trivial⟩,?_,?_,fx dx,fx (aX uq),?_,trivial⟩ fun iJ=> ?_
  ·intro hd E' L' aD an
   refine ah.qi (α:=aw) (r:= [bn]) Tryz.underlying38 cI h3 rfl rfl (.cons (by simp) (ab (aD _ _ rfl)) (.nil)) rfl fun hN=> ?_
   refine ah.nil ?_
   refine ae.place 3 (an 3 _ rfl rfl) ?_
   exact ae.fin (eP [hN]) rfl rfl
  ·intro hd E' L' aD an
   refine ah.Vb (fun q=>⟨q.1,.row 52 (bD:List aw) q.2⟩) 2 3 WZ (P1 gL) ⟨ab (aD _ _ rfl),ab (aD _ _ rfl),ab (aD _ _ rfl),trivial⟩ rfl (an 2 _ rfl rfl) (an 3 _ rfl rfl) (fun _=>rfl) rfl fun⟨l7,fI⟩=> ?_
   refine ah.nil ?_
   exact ae.fin (eP [l7,some fI]) rfl rfl
  ·intro hd E' L' aD an
   refine ah.jE (i:=1) (γ:=aw) (b':=(({ aa with c2:= [] } :c9):c9)) (os':= [(10,ba (hd 9 0) bD.length ((hd 9 1).getD 0))]) ((aQ.id c9).comp CH) mE (ab (aD _ _ rfl)) (ab (aD _ _ rfl)) iD (an 1 _ rfl rfl) rfl rfl rfl ?_
   refine ah.nil ?_
   exact ae.fin (eP []) rfl rfl
  refine ae.eo (L2:= [⟨some aW,.var (aj:aw)⟩,⟨some cv,.ca (({ aa with c2:= [] } :c9):c9) [(10,ba (iJ 9 0) bD.length ((iJ 9 1).getD 0))]⟩,⟨(iJ 9 0),.row 52 (bD:List aw) ((iJ 9 1).getD 0)⟩,⟨none,.dead⟩]) rfl ?_
  refine kP [0,1,3,4,5,6,7,8,9,10,11,12,13,14,15,16,17,18,19,20,21,22,24,25,26,27,28,29,30,31,32,34,35,36,38,39,40] ?_
  refine ae.bU 3 rfl ?_
  refine ae.next ?_
  refine aE ?_
  refine aO ?_
  refine aM ?_
  refine ai.ret ?_
  refine ae.bU 3 rfl ?_
  refine ae.bU 3 rfl ?_
  obtain rfl:=aK h
  exact lJ ((iJ 9 0),((iJ 9 1).getD 0))
theorem RV {aa:aw} {aj:aw} {r:Bool} (h:zf aa aj=some r):bW Tryz.prog 22 [I.of (aa),I.of (aj)] (I.of (r)):=by
 unfold zf at h
 refine bW.of Tryz.func22 rfl Tryz.ntmps22 rfl fun W A=> ?_
 refine aE ?_
 refine cz fun aW=> ?_
 refine cz fun a2=> ?_
 refine aO ?_
 refine b5 ?_
 refine a4 (aX lZ) ?_
 refine ct 1 lr fP ?_
 refine a4 (aX lZ) ?_
 refine ct 0 lr fP ?_
 obtain⟨aB,bu,h⟩:=az h
 refine fQ Yq (RU bu) ?_
 refine aC ?_
 refine dB (aX nL) ?_
 refine eQ (fun hb=>e9 (i:=1) ((aQ.id aw).comp mU) (r:=aa.cu) bK (cq rfl hb) rfl rfl rfl) ?_
 refine dB (aX nL) ?_
 refine eQ (fun hb=>e9 (i:=0) ((aQ.id aw).comp mU) (r:=aj.cu) bK (cq rfl hb) rfl rfl rfl) ?_
 refine kO gI ?_
 refine k9 ?_
 refine aC ?_
 refine dB (aX MH) ?_
 refine eQ (fun hb=>e9 (i:=1) ((aQ.id aw).comp FE) (r:=aa.mr) bK (cq rfl hb) rfl rfl rfl) ?_
 refine dB (aX MH) ?_
 refine eQ (fun hb=>e9 (i:=0) ((aQ.id aw).comp FE) (r:=aj.mr) bK (cq rfl hb) rfl rfl rfl) ?_
 refine kO gI ?_
 refine k9 ?_
 refine aO ?_
 refine aM ?_
 refine ai.ret ?_
 obtain rfl:=aK h
 exact c7
theorem Kb {hp:aN Cell} {y:gw} {aa:bh} {r:Int × Bool} (h:CE hp y aa=some r):lz Tryz.prog "matchguard/index.find" (I.of y) [I.of (aa)] ([] ++ aV hp) (δ:=Unit) (fun _=>I.eD [I.of (r.1),I.of (r.2)]) (fun _=> [] ++ aV hp):=by
 cases y with
 | nil=>cases h
 | mB z=>exact lz.of SN (fun A W u hu=>Gs hu) (QX h)
 | mC z=>exact lz.of SO (fun A W u hu=>Gt hu) (QG h)
 | mD z=>exact lz.of SP (fun A W u hu=>Gu hu) (Q0 h)
theorem Qn {hp:aN Cell} {aa:gA} {aj:aw} {r:(aN Cell)} (h:yp hp aa aj=some r):bO Tryz.prog 238 [I.of (aa),I.of (aj)] ([] ++ aV hp) (δ:=Unit) (fun d=>I.eD []) (fun d=> [] ++ aV r):=by
 unfold yp at h
 refine bO.of Tryz.func238 rfl Tryz.ntmps238 rfl fun W A=> ?_
 refine aE ?_
 refine cz fun aW=> ?_
 refine cz fun a2=> ?_
 refine b5 ?_
 refine cR 1 D6 ?_
 refine a4 (aX lZ) ?_
 refine ct 0 lr fP ?_
 obtain⟨aB,bu,h⟩:=az h
 refine fQ HT (FF bu) ?_
 refine aC ?_
 refine hc ?_
 refine hc ?_
 refine hc ?_
 refine dJ xg fun bF=> ?_
 refine dJ eA fun iO=> ?_
 refine cY 1 km ?_
 refine cY 0 b8 ?_
 refine aO ?_
 refine bY ?_
 obtain⟨b6,c8,h⟩:=az h
 obtain⟨bq,dM,h⟩:=az h
 obtain⟨bL,dS,h⟩:=az h
 refine ai.draw mixed 6 [some 15,some 16,some 17,some 18,some 19,some 20] [[],[0],[],[1,2],[],[]] [.val _,.val _,.val _,.val _,.val _,.val _] [false,false,false,false,false,false] (by kernel_rfl) rfl rfl rfl (fun dk=>⟨H1 (aX sA),ey 3 qH rn,gW 1 km,ed fun L' an=>um (r:=bL) Tryz.underlying167 uT Ak (kD (ab rfl) c8) (ab rfl) (jJ (fun i e q=>an i e q rfl) (ep (n:=4) rfl (l0 dM) rfl)) (aK dS),gW 0 b8,dc,trivial⟩) fun dk=> ?_
 obtain⟨aH,cB,h⟩:=az h
 refine ah.h1 4 0 rfl W0 (Q9 cB) rfl rfl ⟨ab rfl,ab rfl,ab rfl,trivial⟩ rfl fun ax=> ?_
 refine ah.eo (L2:=(⟨some iO,.var (aB.2.1:aA)⟩ :: ⟨some bF,.var (aB.1:Vector aA 4)⟩ :: ⟨some a2,.var (aj:aw)⟩ :: ⟨some aW,.var (aa:gA)⟩ :: aV aH.2)) rfl ?_
 refine b5 ?_
 refine a4 (aX sA) ?_
 refine ct 3 qH rn ?_
 refine cR 1 km ?_
 obtain⟨cg,e4,h⟩:=az h
 obtain⟨dF,hR,h⟩:=az h
 refine bp (um (r:=dF) Tryz.underlying167 uT Ak (kD (ab rfl) c8) (ab rfl) (ep (n:=4) rfl (l0 e4) rfl) (aK hR)) ?_
 obtain⟨bn,fF,h⟩:=az h
 refine ah.iN (fS.jF 4 rfl W1 (Ru fF) ⟨ab rfl,trivial⟩) rfl rfl rfl ?_
 refine bs gI ?_
 refine aM ?_
 obtain⟨bB,cV,h⟩:=az h
 refine ai.dd (γ:=Unit) (fun av=> [(0,I.of (aa)),(1,I.of (aj)),(2,I.eq (.pointer (some ⟨aW,0,none⟩))),(3,I.eq (.pointer (some ⟨a2,0,none⟩))),(4,I.eq (.pointer (some ⟨bF,0,none⟩))),(5,I.eq (.pointer (some ⟨iO,0,none⟩))),(6,I.of (aB.2.2)),(27,I.of (bn ==0))]) (fun av=>(⟨some iO,.var (aB.2.1:aA)⟩ :: ⟨some bF,.var (aB.1:Vector aA 4)⟩ :: ⟨some a2,.var (aj:aw)⟩ :: ⟨some aW,.var (aa:gA)⟩ :: aV bB)) (ab rfl) (fun av=> ?_) (fun hm ak=> ?_) (fun hm ak=> ?_)
 ·clear cV
  refine ae.nU ?_
  obtain rfl:=aK h
  exact ae.lA () (.cons _ (.cons _ (.cons _ (.cons _ (.refl _))))) rfl rfl
 ·have h:=hY ak cV
  refine ai.cE ?_
  refine a4 (aX sA) ?_
  refine ct 3 qH rn ?_
  refine cR 1 km ?_
  obtain⟨cw,iG,h⟩:=az h
  refine ah.HO (k':=Cell.k7 (hj cg aB.1)) 4 rfl Tryz.underlying167 uT (kD (ab rfl) c8) (ab rfl) (l0 e4) rfl rfl rfl (aK iG) ?_
  refine ah.nil ?_
  obtain rfl:=aK h
  exact dT 0 (hm ())
 ·have h:=hZ ak cV
  refine ai.skip ?_
  obtain rfl:=aK h
  exact dT 0 (hm ())
theorem Ra {hp:aN Cell} {aa:jj} {aj:aw} {Q:(aN Cell)→Prop} (h:yT hp aa aj Q):bO Tryz.prog 262 [I.of (aa),I.of (aj)] ([] ++ aV hp) (δ:= {r:(aN Cell) // Q r} × Unit) (fun d=>I.eD []) (fun d=> [] ++ aV d.1.1):=by
 unfold yT at h
 refine bO.of Tryz.func262 rfl Tryz.ntmps262 rfl fun W A=> ?_
 refine aE ?_
 refine cz fun aW=> ?_
 refine cz fun a2=> ?_
 refine aM ?_
 refine ai.cE ?_
 refine a4 (aX G5) ?_
 refine ct 1 CJ Ea ?_
 refine cR 0 cI ?_
 obtain⟨b6,c8,h⟩:=aq.cf h
 obtain⟨bq,dM,h⟩:=aq.cf h
 obtain⟨aB,bu,h⟩:=aq.cf h
 refine ah.vU (eN.obj 2 (fun q:Option Nat × Nat=>Cell.qj aB.2 q.1 q.2) rfl (uy dM) W2 (Qx bu) rfl (fun _=>rfl) ⟨dZ (ab rfl) c8,ab rfl,trivial⟩) rfl rfl rfl fun ax=> ?_
 replace h:=aq.any_bind h ax
 obtain⟨cw,iG,h⟩:=aq.cf h
 refine ah.eo (L2:=(⟨some a2,.var (aj:aw)⟩ :: ⟨some aW,.var (aa:jj)⟩ :: aV cw)) (by rw [← aK iG]; rfl) ?_
 refine ah.nil ?_
 refine ae.nU ?_
 exact ae.lA (⟨⟨cw,h⟩,()⟩: {r // _} × _) (.cons _ (.cons _ (.refl _))) rfl rfl
theorem Rw {aa:List aw} {aj:List aw} {r:Bool} (h:wz aa aj=some r):bW Tryz.prog 52 [I.of (aa),I.of (aj)] (I.of (r)):=by
 unfold wz at h
 refine bW.of Tryz.func52 rfl Tryz.ntmps52 rfl fun W A=> ?_
 refine aE ?_
 refine aO ?_
 refine bY ?_
 refine aE ?_
 refine aC ?_
 refine a4 (eT Tryz.underlying38) ?_
 refine aC ?_
 refine a4 (eT Tryz.underlying38) ?_
 refine bs pd ?_
 refine aM ?_
 refine cA h (fun h=>?_) fun h=>?_
 ·refine aE ?_
  refine aO ?_
  refine aM ?_
  refine ai.ret ?_
  refine ae.ret ?_
  obtain rfl:=aK h
  exact c7
 ·refine c4 ?_
  refine ai.seq ?_
  refine aE ?_
  refine aC ?_
  refine a4 (eT Tryz.underlying38) ?_
  refine aC ?_
  refine aM ?_
  refine ai.block ?_
  obtain⟨aF,ao,h⟩:=az h
  refine h5 (γ:=Unit) (δ:=Unit) ao [0,1,4,10,12] (fun s1 av=> [(13,I.of (s1))]) (fun s1 av=> []) (fun ax=>Sum.elim (fun ax=>Exit.exit 0) (fun ax=>Exit.ret) ax) (fun ax av=>Sum.elim (fun ax=> [(13,I.of (ax.1)),(14,I.of (ax.2))]) (fun ax=> [(5,I.of (ax.1)),(13,I.of (ax.2.1)),(14,I.of (ax.2.2.1)),(25,I.of (ax.2.2.2))]) ax) (fun ax av=>Sum.elim (fun ax=> []) (fun ax=> []) ax) () (fun s1 r h av=> ?_) fun av=> ?_
  ·clear ao
   refine aE ?_
   refine bs e1 ?_
   refine bY ?_
   refine cA h (fun h=>?_) fun h=>?_
   ·refine c4 ?_
    refine ai.seq ?_
    refine ai.block ?_
    refine aE ?_
    refine aC ?_
    refine aO ?_
    refine bY ?_
    obtain⟨bj,cQ,h⟩:=az h
    obtain⟨bI,cS,h⟩:=az h
    obtain⟨aB,bu,h⟩:=az h
    refine ai.draw mixed 10 [some 16,some 17,some 18,some 19,some 20,some 21,some 22,some 23,some 24,some 25] [[],[],[0,1],[2],[],[],[4,5],[6],[3,7],[8]] [.val _,.val _,.val _,.val _,.val _,.val _,.val _,.val _,.val _,.val _] [false,false,false,false,false,false,false,false,false,false] (by kernel_rfl) rfl rfl rfl (fun dk=>⟨dc,dc,nk cQ Tryz.underlying38 cI,H1 (eh cI),dc,dc,nk cS Tryz.underlying38 cI,H1 (eh cI),fv Yr (RV bu),H1 k6,trivial⟩) fun dk=> ?_
    refine aM ?_
    refine cA h (fun h=>?_) fun h=>?_
    ·refine aE ?_
     refine aO ?_
     refine aM ?_
     refine ai.ret ?_
     refine ae.dR ?_
     refine ae.ret ?_
     obtain rfl:=aK h
     exact eX () 0
    ·refine ai.skip ?_
     refine ae.eC ?_
     refine ae.next ?_
     refine ai.cE ?_
     refine bs dX ?_
     refine aC ?_
     refine ah.nil ?_
     obtain rfl:=aK h
     exact hD () 0
   ·refine ai.exit ?_
    refine ae.exit ?_
    obtain rfl:=aK h
    exact eX () 0
  ·clear ao
   rcases aF with aF | aF
   ·simp only [Sum.elim_inl] at h
    refine ae.gE ?_
    refine ae.next ?_
    refine aE ?_
    refine aO ?_
    refine aM ?_
    refine ai.ret ?_
    obtain rfl:=aK h
    exact c7
   ·simp only [Sum.elim_inr] at h
    refine ae.dR ?_
    refine ae.ret ?_
    obtain rfl:=aK h
    exact c7
theorem Kg {hp:aN Cell} {aa:Ref} {aj:bh} {r:aw × Bool} (h:wk hp aa aj=some r):bO Tryz.prog 40 [I.of (aa),I.of (aj)] ([] ++ aV hp) (δ:=Unit) (fun _=>I.eD [I.of (r.1),I.of (r.2)]) (fun _=> [] ++ aV hp):=by
 unfold wk at h
 refine bO.of Tryz.func40 rfl Tryz.ntmps40 rfl fun W A=> ?_
 refine aE ?_
 refine cz fun aW=> ?_
 refine dJ h3 fun a2=> ?_
 refine aO ?_
 refine bY ?_
 refine aE ?_
 refine aC ?_
 refine bp (mo Tryz.underlying37 (ab rfl)) ?_
 refine aM ?_
 refine cA h (fun h=>?_) fun h=>?_
 ·refine aE ?_
  refine hl AT h3 (default:aw) .nil ?_
  refine cY 0 cI ?_
  refine aO ?_
  refine aM ?_
  refine ai.ret ?_
  refine ae.ret ?_
  obtain rfl:=aK h
  exact ae.kl () (.cons _ (.cons _ (.refl _))) rfl rfl (kk (i:=0) cI rfl rfl) (dH rfl)
 ·refine c4 ?_
  refine ai.seq ?_
  obtain⟨b6,c8,h⟩:=az h
  obtain⟨bq,dM,h⟩:=az h
  obtain⟨aB,bu,h⟩:=az h
  refine j8 [0,1,3,4,5,8,9] ?_
  refine ai.uR 2 mixed (bk 12 [] [] _ :: bk 13 (0 :: []) [] _ :: bk 14 (1 :: []) [] _ :: ⟨some 15,(2 :: []),[],[],fun _=>I.of (bq.iB),fun _ _=>⟨none,.dead⟩⟩ :: bk 16 [] (1 :: []) _ :: ⟨some 17,(3 :: 4 :: []),[],[],fun _=>I.eD [I.of (aB.1),I.of (aB.2)],fun _ _=>⟨none,.dead⟩⟩ :: bk 11 (5 :: []) [] _ :: bk 18 (6 :: []) [] _ :: bk 19 (6 :: []) [] _ :: bk 6 (7 :: []) [] _ :: bk 7 (8 :: []) [] _ :: []) _ (0 :: 1 :: 3 :: 4 :: 5 :: 8 :: 9 :: []) rfl rfl (by kernel_rfl) (by kernel_rfl) ⟨c3.q (fg),c3.q (cm fun hd E' L' aD an=>dx (dZ (ab (aD _ _ rfl)) c8)),c3.q (fx (aX uo)),?_,c3.q (pz 1 fP),?_,c3.q (fg),c3.q (cm fun hd E' L' aD an=>m9 (ab (aD _ _ rfl)) rfl),c3.q (cm fun hd E' L' aD an=>m9 (ab (aD _ _ rfl)) rfl),c3.q (cm fun hd E' L' aD an=>eH (ab (aD _ _ rfl))),c3.q (cm fun hd E' L' aD an=>eH (ab (aD _ _ rfl))),trivial⟩ fun eZ=> ?_
  ·intro hd E' L' aD an dK
   refine bp (fi ((aQ.id gx).comp tE) (r:=bq.iB) sP (ab (aD _ _ rfl)) (ep (n:=2) (dK.trans rfl) (lY dM) rfl) rfl rfl) ?_
   refine ah.nil ?_
   exact ae.fin (eP []) rfl rfl
  ·intro hd E' L' aD an dK
   refine ah.iN (fS.AU 2 (dK.trans rfl) (Kb bu) ⟨ab (aD _ _ rfl),ab (aD _ _ rfl),trivial⟩) rfl rfl rfl ?_
   refine ah.nil ?_
   exact ae.fin (eP []) rfl rfl
  refine ae.eo (L2:=(⟨some a2,.var ((default:aw):aw)⟩ :: ⟨some aW,.var (aj:bh)⟩ :: aV hp)) rfl ?_
  refine kP [0,1,3,4,5,6,7,8,9,11,12,13,14,15,16,17,18,19] ?_
  refine ae.next ?_
  refine aE ?_
  refine aC ?_
  refine aC ?_
  refine aC ?_
  obtain⟨aH,cB,h⟩:=az h
  refine ah.iN (fS.jF 2 rfl Ys (QZ cB) ⟨ab rfl,ab rfl,ab rfl,trivial⟩) rfl rfl rfl ?_
  refine hc ?_
  refine hc ?_
  refine cY 0 cI ?_
  refine aO ?_
  refine aM ?_
  refine ai.ret ?_
  obtain rfl:=aK h
  exact ae.kl () (.cons _ (.cons _ (.refl _))) rfl rfl (kk (i:=0) cI rfl rfl) (dH rfl)
theorem Rx {hp:aN Cell} {aa:Ref} {aj:aA} {aT:Int} {cG:Int} {Q:Bool × (aN Cell)→Prop} (h:wA hp aa aj aT cG Q):bO Tryz.prog 244 [I.of (aa),I.of (aj),I.of (aT),I.of (cG)] ([] ++ aV hp) (δ:= {r:Bool × (aN Cell) // Q r} × Unit) (fun d=>I.of (d.1.1.1)) (fun d=> [] ++ aV d.1.1.2):=by
 unfold wA at h
 refine bO.ofM Tryz.func244 rfl Tryz.ntmps244 rfl fun W A=> ?_
 refine aE ?_
 refine cz fun aW=> ?_
 refine aO ?_
 refine bY ?_
 refine aE ?_
 refine aC ?_
 refine cR 0 b8 ?_
 refine aC ?_
 obtain⟨aB,bu,h⟩:=aq.cf h
 refine ah.iN (fS.jF 1 rfl Nw (Kf bu) ⟨ab rfl,ab rfl,ab rfl,trivial⟩) rfl rfl rfl ?_
 refine a4 k6 ?_
 refine aM ?_
 refine ai.cond (ab rfl) (fun ak=> ?_) (fun ak=> ?_)
 ·replace h:=kE ak h
  refine aE ?_
  refine aO ?_
  refine aM ?_
  refine ai.ret ?_
  refine ae.ret ?_
  refine ae.Er ?_
  exact ae.eW (⟨⟨(false,hp),h⟩,()⟩: {r // _} × _) (.cons _ (.refl _)) rfl rfl (dH rfl)
 ·replace h:=kF ak h
  refine c4 ?_
  refine ai.seq ?_
  refine aE ?_
  refine aC ?_
  refine cR 0 b8 ?_
  refine aC ?_
  obtain⟨aH,cB,h⟩:=aq.cf h
  refine ah.iN (fS.jF 1 rfl Ny (Kk cB) ⟨ab rfl,ab rfl,ab rfl,trivial⟩) rfl rfl rfl ?_
  refine aO ?_
  refine b5 ?_
  refine aC ?_
  refine bp (Gq Tryz.underlying331 (ab rfl)) ?_
  refine aC ?_
  refine dB ch ?_
  obtain⟨b6,c8,h⟩:=aq.cf h
  refine eQ (fun hb=>dx (dZ (cq rfl hb) (ga c8 hb))) ?_
  refine dB (aX q0) ?_
  obtain⟨bq,dM,h⟩:=aq.cf h
  refine eQ (fun hb=>fi ((aQ.id dz).comp qO) (r:=bq.dG) hE (cq rfl hb) (ep (n:=1) rfl (jn (ga dM hb)) rfl) rfl rfl) ?_
  refine k9 ?_
  refine aM ?_
  refine ai.cond (ab rfl) (fun ak=> ?_) (fun ak=> ?_)
  ·replace h:=kE ak h
   refine aE ?_
   refine aO ?_
   refine aM ?_
   refine ai.ret ?_
   refine ae.ret ?_
   refine ae.Er ?_
   exact ae.eW (⟨⟨(false,hp),h⟩,()⟩: {r // _} × _) (.cons _ (.refl _)) rfl rfl (dH rfl)
  ·replace h:=kF ak h
   refine c4 ?_
   refine ai.seq ?_
   refine aE ?_
   refine aC ?_
   obtain⟨bZ,eY,h⟩:=aq.cf h
   refine bp (dx (dZ (ab rfl) eY)) ?_
   refine a4 (aX sy) ?_
   obtain⟨cg,e4,h⟩:=aq.cf h
   refine bp (fi ((aQ.id fm).comp sm) (r:=cg.cD) ek (ab rfl) (ep (n:=1) rfl (m6 e4) rfl) rfl rfl) ?_
   refine bp (mo Tryz.underlying331 (ab rfl)) ?_
   refine aM ?_
   refine ai.uv (γ:=Unit) h (fun bB av=> [(0,I.of (aa)),(1,I.of (aj)),(2,I.of (aT)),(3,I.of (cG)),(5,I.eq (.pointer (some ⟨aW,0,none⟩))),(8,I.of (false)),(9,I.of (aH)),(16,I.of (!aB)),(28,I.of (aH.isSome && bq.dG)),(33,I.of (cg.cD.isNone))]) (fun bB av=>(⟨some aW,.var (aj:aA)⟩ :: aV bB)) (ab rfl) (fun bB av h=> ?_) (fun hm ak h=> ?_) (fun hm ak h=> ?_)
   ·refine ae.next ?_
    refine aE ?_
    refine aC ?_
    refine bp (dx (dZ (ab rfl) eY)) ?_
    refine a4 (aX sy) ?_
    obtain⟨fc,lK,h⟩:=aq.cf h
    refine bp (fi ((aQ.id fm).comp sm) (r:=fc.cD) ek (ab rfl) (ep (n:=1) rfl (m6 lK) rfl) rfl rfl) ?_
    refine dJ xk fun a2=> ?_
    refine cY 0 ek ?_
    refine bY ?_
    refine aE ?_
    refine aC ?_
    refine cR 1 b8 ?_
    refine aC ?_
    obtain⟨bn,fF,h⟩:=aq.cf h
    refine fQ HR (F4 fF) ?_
    refine aM ?_
    refine ai.block ?_
    refine SQ (σ:=Ref × (aN Cell)) (ε:=Empty) (γ:=Unit) (g0:=()) (Ls:=fun s2 bS=>(⟨some a2,.var (s2.1:Ref)⟩ :: ⟨some aW,.var (aj:aA)⟩ :: aV s2.2)) (Lx:=fun et bS=>Empty.elim et) (hq:=fun s2=>s2.2) (fun s2 bS=> [⟨some a2,.var (s2.1:Ref)⟩,⟨some aW,.var (aj:aA)⟩]) (fun et=>Empty.elim et) rfl HS rfl QO h (fun _ _=>rfl) rfl rfl (fun xM s2 R h bS nm nv nn l D rec Bi=> ?_) (fun s2 h bS D=> ?_) (fun et h bS D=> ?_)
    ·refine ai.cE ?_
     refine aO ?_
     refine ah.nil ?_
     refine ae.begin 0 rfl Bi ?_
     refine ai.block ?_
     refine ai.seq ?_
     refine aE ?_
     refine cR 2 ek ?_
     refine aC ?_
     obtain⟨mi,tf,h⟩:=aq.cf h
     refine bp (dx (dZ (ab rfl) tf)) ?_
     refine a4 (aX q1) ?_
     obtain⟨bj,cQ,h⟩:=aq.cf h
     refine bp (jH (k:=bj) sT (ab rfl) (ab rfl) (da cQ)) ?_
     obtain⟨jR,vn,h⟩:=aq.cf h
     refine bp (fi (((aQ.id dz).comp qJ).comp (aQ.idx (α:=Ref) 2 bj (da cQ).1)) (r:=b7 jR.c1 bj) ek (ab rfl) (ep (n:=4) rfl (jn vn) rfl) rfl rfl) ?_
     refine bp (mo Tryz.underlying331 (ab rfl)) ?_
     refine aM ?_
     refine ai.uv (γ:=Unit) h (fun cL dq=> [(0,I.of (aa)),(1,I.of (aj)),(2,I.of (aT)),(3,I.of (cG)),(5,I.eq (.pointer (some ⟨aW,0,none⟩))),(8,I.of (false)),(9,I.of (aH)),(10,I.eq (.pointer (some ⟨a2,0,none⟩))),(11,I.of (xM)),(16,I.of (!aB)),(28,I.of (aH.isSome && bq.dG)),(33,I.of (cg.cD.isNone)),(46,I.gy 255 [I.ptr bn.1,I.ptr bn.2.1,I.ptr bn.2.2]),(47,I.of (xM)),(54,I.of ((b7 jR.c1 bj).isNone))]) (fun cL dq=>(⟨some l,.is (.loop { rec with state:= .busy })⟩ :: ⟨some D,.dC⟩ :: ⟨some a2,.var (s2.1:Ref)⟩ :: ⟨some aW,.var (aj:aA)⟩ :: aV cL)) (ab rfl) (fun cL dq h=> ?_) (fun hm ak h=> ?_) (fun hm ak h=> ?_)
     ·refine ae.next ?_
      refine ai.cE ?_
      refine cR 2 ek ?_
      refine aC ?_
      refine bp (dx (dZ (ab rfl) tf)) ?_
      refine a4 (aX q1) ?_
      obtain⟨bI,cS,h⟩:=aq.cf h
      refine bp (jH (k:=bI) sT (ab rfl) (ab rfl) (da cS)) ?_
      obtain⟨lT,vo,h⟩:=aq.cf h
      refine bp (fi (((aQ.id dz).comp qJ).comp (aQ.idx (α:=Ref) 2 bI (da cS).1)) (r:=b7 lT.c1 bI) ek (ab rfl) (ep (n:=4) rfl (jn vo) rfl) rfl rfl) ?_
      refine cY 2 ek ?_
      refine ah.nil ?_
      refine ae.eC ?_
      exact ae.Yt h () 0 rfl
     ·refine ai.cE ?_
      refine cR 2 ek ?_
      refine aC ?_
      refine hl ND NF (default:dz) .nil ?_
      refine ah.xq 4 rfl (Cell.fC (default:dz)) (fun _=>rfl) (ab rfl) rfl fun cN rK=> ?_
      replace h:=aq.p4 h cN rK
      refine bp (dx (dZ (ab rfl) tf)) ?_
      refine a4 (aX q1) ?_
      obtain⟨dv,iI,h⟩:=aq.cf h
      refine bp (jH (k:=dv) sT (ab rfl) (ab rfl) (da iI)) ?_
      obtain⟨k0,xL,h⟩:=aq.cf h
      obtain⟨cw,iG,h⟩:=aq.cf h
      refine ah.mw (k':=Cell.fC ({ k0 with c1:=h2 k0.c1 dv (some cN.1:Ref) } :dz)) 4 rfl (((aQ.id dz).comp qJ).comp (aQ.idx (α:=Ref) 2 dv (da iI).1)) (v:=((some cN.1:Ref):Ref)) ek (ab rfl) (ab rfl) (jn xL) rfl rfl rfl rfl (aK iG) ?_
      refine ah.nil ?_
      exact dT 0 (hm cw () h)
     ·refine ai.skip ?_
      exact dT 0 (hm s2.2 () h)
    ·simp only [Sum.elim_inl] at h
     refine ae.eo (L2:=(⟨some D,.dC⟩ :: ⟨some a2,.var (s2.1:Ref)⟩ :: ⟨some aW,.var (aj:aA)⟩ :: aV s2.2)) rfl ?_
     refine ae.eC ?_
     refine ae.next ?_
     refine ai.seq ?_
     obtain⟨jy,EO,h⟩:=aq.cf h
     obtain⟨x4,EP,h⟩:=aq.cf h
     obtain⟨cJ,sZ,h⟩:=aq.cf h
     refine ai.NG mixed 9 (Array.mk (false :: false :: false :: false :: false :: false :: false :: false :: false :: [])) rfl rfl ?_
     refine bx.cut (γ:=Unit) 3 (Array.mk (true :: true :: true :: true :: true :: true :: false :: false :: false :: [])) (fun zQ=> [(0,I.of (aa)),(1,I.of (aj)),(2,I.of (aT)),(3,I.of (cG)),(5,I.eq (.pointer (some ⟨aW,0,none⟩))),(8,I.of (false)),(9,I.of (aH)),(10,I.eq (.pointer (some ⟨a2,0,none⟩))),(16,I.of (!aB)),(28,I.of (aH.isSome && bq.dG)),(33,I.of (cg.cD.isNone)),(39,I.of (aa)),(40,I.eq (.pointer (some ⟨bZ,0,none⟩))),(41,I.eq (.pointer (some ⟨bZ,0 + 1,none⟩))),(42,I.of (fc.cD)),(43,I.of (aa)),(44,I.of (aj)),(45,I.of (aT)),(46,I.gy 255 [I.ptr bn.1,I.ptr bn.2.1,I.ptr bn.2.2]),(68,I.of (s2.1)),(69,I.of (s2.1)),(70,I.of (cG)),(71,I.eq (.pointer (some ⟨jy,0,none⟩))),(72,I.eq (.pointer (some ⟨jy,0 + 2,none⟩)))]) (fun zQ=>(⟨some D,.dC⟩ :: ⟨some a2,.var (s2.1:Ref)⟩ :: ⟨some aW,.var (aj:aA)⟩ :: aV cJ)) (fun zQ=> ?_) (fun Al=> ?_)
     ·refine bx.tail 6 rfl (by kernel_rfl) ?_
      obtain⟨JI,Zj,h⟩:=aq.cf h
      refine bp (dx (dZ (ab rfl) Zj)) ?_
      refine a4 (aX Ds) ?_
      obtain⟨JJ,Zk,h⟩:=aq.cf h
      obtain⟨gM,AJ,h⟩:=aq.cf h
      refine ah.mw (k':=Cell.fC ({ JJ with ih:=cG } :dz)) 3 rfl ((aQ.id dz).comp CT) (v:=(cG:Int)) bK (ab rfl) (ab rfl) (jn Zk) rfl rfl rfl rfl (aK AJ) ?_
      refine b5 ?_
      refine aO ?_
      refine aM ?_
      refine ai.ret ?_
      refine ae.Es 0 rfl rfl ?_
      exact ae.eW (⟨⟨(true,gM),h⟩,()⟩: {r // _} × _) (.cons _ (.cons _ (.cons _ (.refl _)))) rfl rfl (dH rfl)
     refine bx.cut (γ:=Unit) 4 (Array.mk (true :: false :: true :: true :: true :: true :: false :: false :: false :: [])) (fun zR=> [(0,I.of (aa)),(1,I.of (aj)),(2,I.of (aT)),(3,I.of (cG)),(5,I.eq (.pointer (some ⟨aW,0,none⟩))),(8,I.of (false)),(9,I.of (aH)),(10,I.eq (.pointer (some ⟨a2,0,none⟩))),(16,I.of (!aB)),(28,I.of (aH.isSome && bq.dG)),(33,I.of (cg.cD.isNone)),(39,I.of (aa)),(40,I.eq (.pointer (some ⟨bZ,0,none⟩))),(41,I.eq (.pointer (some ⟨bZ,0 + 1,none⟩))),(42,I.of (fc.cD)),(43,I.of (aa)),(44,I.of (aj)),(45,I.of (aT)),(46,I.gy 255 [I.ptr bn.1,I.ptr bn.2.1,I.ptr bn.2.2]),(68,I.of (s2.1)),(70,I.of (cG)),(71,I.eq (.pointer (some ⟨jy,0,none⟩))),(72,I.eq (.pointer (some ⟨jy,0 + 2,none⟩)))]) (fun zR=>(⟨some D,.dC⟩ :: ⟨some a2,.var (s2.1:Ref)⟩ :: ⟨some aW,.var (aj:aA)⟩ :: aV cJ)) (fun zR=> ?_) (fun Am=> ?_)
     ·clear h
      refine bx.step [1] (by kernel_rfl) rfl ⟨⟨_,rfl,?_⟩,trivial⟩
      ·refine cR 1 ek ?_
       refine ah.nil ?_
       exact ae.any rfl (bx.le (.same rfl (.same rfl (.same rfl (.same rfl (.same rfl (.same rfl (.same rfl (.same rfl (.same rfl (.same rfl (.same rfl (.same rfl (.same rfl (.same rfl (.same rfl (.same rfl (.same rfl (.same rfl (.same rfl (.same rfl (.same rfl (.same rfl (.same rfl (.same rfl .nil)))))))))))))))))))))))) (Al ()))
     refine bx.cut (γ:=Unit) 4 (Array.mk (true :: true :: false :: true :: true :: true :: false :: false :: false :: [])) (fun zS=> [(0,I.of (aa)),(1,I.of (aj)),(2,I.of (aT)),(3,I.of (cG)),(5,I.eq (.pointer (some ⟨aW,0,none⟩))),(8,I.of (false)),(9,I.of (aH)),(10,I.eq (.pointer (some ⟨a2,0,none⟩))),(16,I.of (!aB)),(28,I.of (aH.isSome && bq.dG)),(33,I.of (cg.cD.isNone)),(39,I.of (aa)),(40,I.eq (.pointer (some ⟨bZ,0,none⟩))),(41,I.eq (.pointer (some ⟨bZ,0 + 1,none⟩))),(42,I.of (fc.cD)),(43,I.of (aa)),(44,I.of (aj)),(45,I.of (aT)),(46,I.gy 255 [I.ptr bn.1,I.ptr bn.2.1,I.ptr bn.2.2]),(68,I.of (s2.1)),(69,I.of (s2.1)),(71,I.eq (.pointer (some ⟨jy,0,none⟩))),(72,I.eq (.pointer (some ⟨jy,0 + 2,none⟩)))]) (fun zS=>(⟨some D,.dC⟩ :: ⟨some a2,.var (s2.1:Ref)⟩ :: ⟨some aW,.var (aj:aA)⟩ :: aV cJ)) (fun zS=> ?_) (fun An=> ?_)
     ·clear h
      refine bx.step [2] (by kernel_rfl) rfl ⟨⟨_,rfl,?_⟩,trivial⟩
      ·refine aC ?_
       refine ah.nil ?_
       exact ae.any rfl (bx.le (.same rfl (.same rfl (.same rfl (.same rfl (.same rfl (.same rfl (.same rfl (.same rfl (.same rfl (.same rfl (.same rfl (.same rfl (.same rfl (.same rfl (.same rfl (.same rfl (.same rfl (.same rfl (.same rfl (.same rfl (.same rfl (.same rfl (.same rfl (.same rfl .nil)))))))))))))))))))))))) (Al ()))
     refine bx.cut (γ:=Unit) 4 (Array.mk (true :: true :: true :: true :: true :: false :: false :: false :: false :: [])) (fun zT=> [(0,I.of (aa)),(1,I.of (aj)),(2,I.of (aT)),(3,I.of (cG)),(5,I.eq (.pointer (some ⟨aW,0,none⟩))),(8,I.of (false)),(9,I.of (aH)),(10,I.eq (.pointer (some ⟨a2,0,none⟩))),(16,I.of (!aB)),(28,I.of (aH.isSome && bq.dG)),(33,I.of (cg.cD.isNone)),(39,I.of (aa)),(40,I.eq (.pointer (some ⟨bZ,0,none⟩))),(41,I.eq (.pointer (some ⟨bZ,0 + 1,none⟩))),(42,I.of (fc.cD)),(43,I.of (aa)),(44,I.of (aj)),(45,I.of (aT)),(46,I.gy 255 [I.ptr bn.1,I.ptr bn.2.1,I.ptr bn.2.2]),(68,I.of (s2.1)),(69,I.of (s2.1)),(70,I.of (cG)),(71,I.eq (.pointer (some ⟨jy,0,none⟩))),(72,I.eq (.pointer (some ⟨jy,0 + 2,none⟩)))]) (fun zT=>(⟨some D,.dC⟩ :: ⟨some a2,.var (s2.1:Ref)⟩ :: ⟨some aW,.var (aj:aA)⟩ :: aV s2.2)) (fun zT=> ?_) (fun uV=> ?_)
     ·clear h
      refine bx.step [5] (by kernel_rfl) rfl ⟨⟨_,rfl,?_⟩,trivial⟩
      ·refine ah.mw (k':=Cell.fC ({ x4 with dG:=true } :dz)) 3 rfl ((aQ.id dz).comp qO) (v:=(true:Bool)) hE (ab rfl) (fG true) (jn EP) rfl rfl rfl rfl (aK sZ) ?_
       refine ah.nil ?_
       exact ae.any rfl (bx.le (.same rfl (.same rfl (.same rfl (.same rfl (.same rfl (.same rfl (.same rfl (.same rfl (.same rfl (.same rfl (.same rfl (.same rfl (.same rfl (.same rfl (.same rfl (.same rfl (.same rfl (.same rfl (.same rfl (.same rfl (.same rfl (.same rfl (.same rfl (.same rfl .nil)))))))))))))))))))))))) (Al ()))
     refine bx.cut (γ:=Unit) 5 (Array.mk (true :: false :: false :: true :: true :: true :: false :: false :: false :: [])) (fun sJ=> [(0,I.of (aa)),(1,I.of (aj)),(2,I.of (aT)),(3,I.of (cG)),(5,I.eq (.pointer (some ⟨aW,0,none⟩))),(8,I.of (false)),(9,I.of (aH)),(10,I.eq (.pointer (some ⟨a2,0,none⟩))),(16,I.of (!aB)),(28,I.of (aH.isSome && bq.dG)),(33,I.of (cg.cD.isNone)),(39,I.of (aa)),(40,I.eq (.pointer (some ⟨bZ,0,none⟩))),(41,I.eq (.pointer (some ⟨bZ,0 + 1,none⟩))),(42,I.of (fc.cD)),(43,I.of (aa)),(44,I.of (aj)),(45,I.of (aT)),(46,I.gy 255 [I.ptr bn.1,I.ptr bn.2.1,I.ptr bn.2.2]),(68,I.of (s2.1)),(71,I.eq (.pointer (some ⟨jy,0,none⟩))),(72,I.eq (.pointer (some ⟨jy,0 + 2,none⟩)))]) (fun sJ=>(⟨some D,.dC⟩ :: ⟨some a2,.var (s2.1:Ref)⟩ :: ⟨some aW,.var (aj:aA)⟩ :: aV cJ)) (fun sJ=> ?_) (fun HU=> ?_)
     ·clear h
      refine bx.step [1,2] (by kernel_rfl) rfl ⟨⟨_,rfl,?_⟩,⟨_,rfl,?_⟩,trivial⟩
      ·refine cR 1 ek ?_
       refine ah.nil ?_
       exact ae.any rfl (bx.le (.same rfl (.same rfl (.same rfl (.same rfl (.same rfl (.same rfl (.same rfl (.same rfl (.same rfl (.same rfl (.same rfl (.same rfl (.same rfl (.same rfl (.same rfl (.same rfl (.same rfl (.same rfl (.same rfl (.same rfl (.same rfl (.same rfl (.same rfl .nil))))))))))))))))))))))) (An ()))
      ·refine aC ?_
       refine ah.nil ?_
       exact ae.any rfl (bx.le (.same rfl (.same rfl (.same rfl (.same rfl (.same rfl (.same rfl (.same rfl (.same rfl (.same rfl (.same rfl (.same rfl (.same rfl (.same rfl (.same rfl (.same rfl (.same rfl (.same rfl (.same rfl (.same rfl (.same rfl (.same rfl (.same rfl (.same rfl .nil))))))))))))))))))))))) (Am ()))
     refine bx.cut (γ:=Unit) 5 (Array.mk (true :: false :: true :: true :: true :: false :: false :: false :: false :: [])) (fun zU=> [(0,I.of (aa)),(1,I.of (aj)),(2,I.of (aT)),(3,I.of (cG)),(5,I.eq (.pointer (some ⟨aW,0,none⟩))),(8,I.of (false)),(9,I.of (aH)),(10,I.eq (.pointer (some ⟨a2,0,none⟩))),(16,I.of (!aB)),(28,I.of (aH.isSome && bq.dG)),(33,I.of (cg.cD.isNone)),(39,I.of (aa)),(40,I.eq (.pointer (some ⟨bZ,0,none⟩))),(41,I.eq (.pointer (some ⟨bZ,0 + 1,none⟩))),(42,I.of (fc.cD)),(43,I.of (aa)),(44,I.of (aj)),(45,I.of (aT)),(46,I.gy 255 [I.ptr bn.1,I.ptr bn.2.1,I.ptr bn.2.2]),(68,I.of (s2.1)),(70,I.of (cG)),(71,I.eq (.pointer (some ⟨jy,0,none⟩))),(72,I.eq (.pointer (some ⟨jy,0 + 2,none⟩)))]) (fun zU=>(⟨some D,.dC⟩ :: ⟨some a2,.var (s2.1:Ref)⟩ :: ⟨some aW,.var (aj:aA)⟩ :: aV s2.2)) (fun zU=> ?_) (fun Ec=> ?_)
     ·clear h
      refine bx.step [1,5] (by kernel_rfl) rfl ⟨⟨_,rfl,?_⟩,⟨_,rfl,?_⟩,trivial⟩
      ·refine cR 1 ek ?_
       refine ah.nil ?_
       exact ae.any rfl (bx.le (.same rfl (.same rfl (.same rfl (.same rfl (.same rfl (.same rfl (.same rfl (.same rfl (.same rfl (.same rfl (.same rfl (.same rfl (.same rfl (.same rfl (.same rfl (.same rfl (.same rfl (.same rfl (.same rfl (.same rfl (.same rfl (.same rfl (.same rfl (.same rfl .nil)))))))))))))))))))))))) (uV ()))
      ·refine ah.mw (k':=Cell.fC ({ x4 with dG:=true } :dz)) 3 rfl ((aQ.id dz).comp qO) (v:=(true:Bool)) hE (ab rfl) (fG true) (jn EP) rfl rfl rfl rfl (aK sZ) ?_
       refine ah.nil ?_
       exact ae.any rfl (bx.le (.same rfl (.same rfl (.same rfl (.same rfl (.same rfl (.same rfl (.same rfl (.same rfl (.same rfl (.same rfl (.same rfl (.same rfl (.same rfl (.same rfl (.same rfl (.same rfl (.same rfl (.same rfl (.same rfl (.same rfl (.same rfl (.same rfl (.same rfl .nil))))))))))))))))))))))) (Am ()))
     refine bx.cut (γ:=Unit) 5 (Array.mk (true :: true :: false :: true :: true :: false :: false :: false :: false :: [])) (fun zV=> [(0,I.of (aa)),(1,I.of (aj)),(2,I.of (aT)),(3,I.of (cG)),(5,I.eq (.pointer (some ⟨aW,0,none⟩))),(8,I.of (false)),(9,I.of (aH)),(10,I.eq (.pointer (some ⟨a2,0,none⟩))),(16,I.of (!aB)),(28,I.of (aH.isSome && bq.dG)),(33,I.of (cg.cD.isNone)),(39,I.of (aa)),(40,I.eq (.pointer (some ⟨bZ,0,none⟩))),(41,I.eq (.pointer (some ⟨bZ,0 + 1,none⟩))),(42,I.of (fc.cD)),(43,I.of (aa)),(44,I.of (aj)),(45,I.of (aT)),(46,I.gy 255 [I.ptr bn.1,I.ptr bn.2.1,I.ptr bn.2.2]),(68,I.of (s2.1)),(69,I.of (s2.1)),(71,I.eq (.pointer (some ⟨jy,0,none⟩))),(72,I.eq (.pointer (some ⟨jy,0 + 2,none⟩)))]) (fun zV=>(⟨some D,.dC⟩ :: ⟨some a2,.var (s2.1:Ref)⟩ :: ⟨some aW,.var (aj:aA)⟩ :: aV s2.2)) (fun zV=> ?_) (fun Ao=> ?_)
     ·clear h
      refine bx.step [2,5] (by kernel_rfl) rfl ⟨⟨_,rfl,?_⟩,⟨_,rfl,?_⟩,trivial⟩
      ·refine aC ?_
       refine ah.nil ?_
       exact ae.any rfl (bx.le (.same rfl (.same rfl (.same rfl (.same rfl (.same rfl (.same rfl (.same rfl (.same rfl (.same rfl (.same rfl (.same rfl (.same rfl (.same rfl (.same rfl (.same rfl (.same rfl (.same rfl (.same rfl (.same rfl (.same rfl (.same rfl (.same rfl (.same rfl (.same rfl .nil)))))))))))))))))))))))) (uV ()))
      ·refine ah.mw (k':=Cell.fC ({ x4 with dG:=true } :dz)) 3 rfl ((aQ.id dz).comp qO) (v:=(true:Bool)) hE (ab rfl) (fG true) (jn EP) rfl rfl rfl rfl (aK sZ) ?_
       refine ah.nil ?_
       exact ae.any rfl (bx.le (.same rfl (.same rfl (.same rfl (.same rfl (.same rfl (.same rfl (.same rfl (.same rfl (.same rfl (.same rfl (.same rfl (.same rfl (.same rfl (.same rfl (.same rfl (.same rfl (.same rfl (.same rfl (.same rfl (.same rfl (.same rfl (.same rfl (.same rfl .nil))))))))))))))))))))))) (An ()))
     refine bx.cut (γ:=Unit) 5 (Array.mk (true :: true :: true :: true :: false :: false :: false :: false :: false :: [])) (fun zW=> [(0,I.of (aa)),(1,I.of (aj)),(2,I.of (aT)),(3,I.of (cG)),(5,I.eq (.pointer (some ⟨aW,0,none⟩))),(8,I.of (false)),(9,I.of (aH)),(10,I.eq (.pointer (some ⟨a2,0,none⟩))),(16,I.of (!aB)),(28,I.of (aH.isSome && bq.dG)),(33,I.of (cg.cD.isNone)),(39,I.of (aa)),(40,I.eq (.pointer (some ⟨bZ,0,none⟩))),(41,I.eq (.pointer (some ⟨bZ,0 + 1,none⟩))),(42,I.of (fc.cD)),(43,I.of (aa)),(44,I.of (aj)),(45,I.of (aT)),(46,I.gy 255 [I.ptr bn.1,I.ptr bn.2.1,I.ptr bn.2.2]),(68,I.of (s2.1)),(69,I.of (s2.1)),(70,I.of (cG)),(71,I.eq (.pointer (some ⟨jy,0,none⟩)))]) (fun zW=>(⟨some D,.dC⟩ :: ⟨some a2,.var (s2.1:Ref)⟩ :: ⟨some aW,.var (aj:aA)⟩ :: aV s2.2)) (fun zW=> ?_) (fun xn=> ?_)
     ·clear h
      refine bx.step [4] (by kernel_rfl) rfl ⟨⟨_,rfl,?_⟩,trivial⟩
      ·refine a4 (aX q0) ?_
       refine ah.nil ?_
       exact ae.any rfl (bx.le (.same rfl (.same rfl (.same rfl (.same rfl (.same rfl (.same rfl (.same rfl (.same rfl (.same rfl (.same rfl (.same rfl (.same rfl (.same rfl (.same rfl (.same rfl (.same rfl (.same rfl (.same rfl (.same rfl (.same rfl (.same rfl (.same rfl (.same rfl (.same rfl .nil)))))))))))))))))))))))) (uV ()))
     refine bx.cut (γ:=Unit) 6 (Array.mk (true :: false :: false :: true :: true :: false :: false :: false :: false :: [])) (fun zX=> [(0,I.of (aa)),(1,I.of (aj)),(2,I.of (aT)),(3,I.of (cG)),(5,I.eq (.pointer (some ⟨aW,0,none⟩))),(8,I.of (false)),(9,I.of (aH)),(10,I.eq (.pointer (some ⟨a2,0,none⟩))),(16,I.of (!aB)),(28,I.of (aH.isSome && bq.dG)),(33,I.of (cg.cD.isNone)),(39,I.of (aa)),(40,I.eq (.pointer (some ⟨bZ,0,none⟩))),(41,I.eq (.pointer (some ⟨bZ,0 + 1,none⟩))),(42,I.of (fc.cD)),(43,I.of (aa)),(44,I.of (aj)),(45,I.of (aT)),(46,I.gy 255 [I.ptr bn.1,I.ptr bn.2.1,I.ptr bn.2.2]),(68,I.of (s2.1)),(71,I.eq (.pointer (some ⟨jy,0,none⟩))),(72,I.eq (.pointer (some ⟨jy,0 + 2,none⟩)))]) (fun zX=>(⟨some D,.dC⟩ :: ⟨some a2,.var (s2.1:Ref)⟩ :: ⟨some aW,.var (aj:aA)⟩ :: aV s2.2)) (fun zX=> ?_) (fun Ed=> ?_)
     ·clear h
      refine bx.step [1,2,5] (by kernel_rfl) rfl ⟨⟨_,rfl,?_⟩,⟨_,rfl,?_⟩,⟨_,rfl,?_⟩,trivial⟩
      ·refine cR 1 ek ?_
       refine ah.nil ?_
       exact ae.any rfl (bx.le (.same rfl (.same rfl (.same rfl (.same rfl (.same rfl (.same rfl (.same rfl (.same rfl (.same rfl (.same rfl (.same rfl (.same rfl (.same rfl (.same rfl (.same rfl (.same rfl (.same rfl (.same rfl (.same rfl (.same rfl (.same rfl (.same rfl (.same rfl .nil))))))))))))))))))))))) (Ao ()))
      ·refine aC ?_
       refine ah.nil ?_
       exact ae.any rfl (bx.le (.same rfl (.same rfl (.same rfl (.same rfl (.same rfl (.same rfl (.same rfl (.same rfl (.same rfl (.same rfl (.same rfl (.same rfl (.same rfl (.same rfl (.same rfl (.same rfl (.same rfl (.same rfl (.same rfl (.same rfl (.same rfl (.same rfl (.same rfl .nil))))))))))))))))))))))) (Ec ()))
      ·refine ah.mw (k':=Cell.fC ({ x4 with dG:=true } :dz)) 3 rfl ((aQ.id dz).comp qO) (v:=(true:Bool)) hE (ab rfl) (fG true) (jn EP) rfl rfl rfl rfl (aK sZ) ?_
       refine ah.nil ?_
       exact ae.any rfl (bx.le (.same rfl (.same rfl (.same rfl (.same rfl (.same rfl (.same rfl (.same rfl (.same rfl (.same rfl (.same rfl (.same rfl (.same rfl (.same rfl (.same rfl (.same rfl (.same rfl (.same rfl (.same rfl (.same rfl (.same rfl (.same rfl (.same rfl .nil)))))))))))))))))))))) (HU ()))
     refine bx.cut (γ:=Unit) 6 (Array.mk (true :: false :: true :: true :: false :: false :: false :: false :: false :: [])) (fun zY=> [(0,I.of (aa)),(1,I.of (aj)),(2,I.of (aT)),(3,I.of (cG)),(5,I.eq (.pointer (some ⟨aW,0,none⟩))),(8,I.of (false)),(9,I.of (aH)),(10,I.eq (.pointer (some ⟨a2,0,none⟩))),(16,I.of (!aB)),(28,I.of (aH.isSome && bq.dG)),(33,I.of (cg.cD.isNone)),(39,I.of (aa)),(40,I.eq (.pointer (some ⟨bZ,0,none⟩))),(41,I.eq (.pointer (some ⟨bZ,0 + 1,none⟩))),(42,I.of (fc.cD)),(43,I.of (aa)),(44,I.of (aj)),(45,I.of (aT)),(46,I.gy 255 [I.ptr bn.1,I.ptr bn.2.1,I.ptr bn.2.2]),(68,I.of (s2.1)),(70,I.of (cG)),(71,I.eq (.pointer (some ⟨jy,0,none⟩)))]) (fun zY=>(⟨some D,.dC⟩ :: ⟨some a2,.var (s2.1:Ref)⟩ :: ⟨some aW,.var (aj:aA)⟩ :: aV s2.2)) (fun zY=> ?_) (fun Ee=> ?_)
     ·clear h
      refine bx.step [1,4] (by kernel_rfl) rfl ⟨⟨_,rfl,?_⟩,⟨_,rfl,?_⟩,trivial⟩
      ·refine cR 1 ek ?_
       refine ah.nil ?_
       exact ae.any rfl (bx.le (.same rfl (.same rfl (.same rfl (.same rfl (.same rfl (.same rfl (.same rfl (.same rfl (.same rfl (.same rfl (.same rfl (.same rfl (.same rfl (.same rfl (.same rfl (.same rfl (.same rfl (.same rfl (.same rfl (.same rfl (.same rfl (.same rfl (.same rfl .nil))))))))))))))))))))))) (xn ()))
      ·refine a4 (aX q0) ?_
       refine ah.nil ?_
       exact ae.any rfl (bx.le (.same rfl (.same rfl (.same rfl (.same rfl (.same rfl (.same rfl (.same rfl (.same rfl (.same rfl (.same rfl (.same rfl (.same rfl (.same rfl (.same rfl (.same rfl (.same rfl (.same rfl (.same rfl (.same rfl (.same rfl (.same rfl (.same rfl (.same rfl .nil))))))))))))))))))))))) (Ec ()))
     refine bx.cut (γ:=Unit) 6 (Array.mk (true :: true :: false :: true :: false :: false :: false :: false :: false :: [])) (fun Ap=> [(0,I.of (aa)),(1,I.of (aj)),(2,I.of (aT)),(3,I.of (cG)),(5,I.eq (.pointer (some ⟨aW,0,none⟩))),(8,I.of (false)),(9,I.of (aH)),(10,I.eq (.pointer (some ⟨a2,0,none⟩))),(16,I.of (!aB)),(28,I.of (aH.isSome && bq.dG)),(33,I.of (cg.cD.isNone)),(39,I.of (aa)),(40,I.eq (.pointer (some ⟨bZ,0,none⟩))),(41,I.eq (.pointer (some ⟨bZ,0 + 1,none⟩))),(42,I.of (fc.cD)),(43,I.of (aa)),(44,I.of (aj)),(45,I.of (aT)),(46,I.gy 255 [I.ptr bn.1,I.ptr bn.2.1,I.ptr bn.2.2]),(68,I.of (s2.1)),(69,I.of (s2.1)),(71,I.eq (.pointer (some ⟨jy,0,none⟩)))]) (fun Ap=>(⟨some D,.dC⟩ :: ⟨some a2,.var (s2.1:Ref)⟩ :: ⟨some aW,.var (aj:aA)⟩ :: aV s2.2)) (fun Ap=> ?_) (fun Et=> ?_)
     ·clear h
      refine bx.step [2,4] (by kernel_rfl) rfl ⟨⟨_,rfl,?_⟩,⟨_,rfl,?_⟩,trivial⟩
      ·refine aC ?_
       refine ah.nil ?_
       exact ae.any rfl (bx.le (.same rfl (.same rfl (.same rfl (.same rfl (.same rfl (.same rfl (.same rfl (.same rfl (.same rfl (.same rfl (.same rfl (.same rfl (.same rfl (.same rfl (.same rfl (.same rfl (.same rfl (.same rfl (.same rfl (.same rfl (.same rfl (.same rfl (.same rfl .nil))))))))))))))))))))))) (xn ()))
      ·refine a4 (aX q0) ?_
       refine ah.nil ?_
       exact ae.any rfl (bx.le (.same rfl (.same rfl (.same rfl (.same rfl (.same rfl (.same rfl (.same rfl (.same rfl (.same rfl (.same rfl (.same rfl (.same rfl (.same rfl (.same rfl (.same rfl (.same rfl (.same rfl (.same rfl (.same rfl (.same rfl (.same rfl (.same rfl (.same rfl .nil))))))))))))))))))))))) (Ao ()))
     refine bx.cut (γ:=Unit) 6 (Array.mk (true :: true :: true :: false :: false :: false :: false :: false :: false :: [])) (fun Aq=> [(0,I.of (aa)),(1,I.of (aj)),(2,I.of (aT)),(3,I.of (cG)),(5,I.eq (.pointer (some ⟨aW,0,none⟩))),(8,I.of (false)),(9,I.of (aH)),(10,I.eq (.pointer (some ⟨a2,0,none⟩))),(16,I.of (!aB)),(28,I.of (aH.isSome && bq.dG)),(33,I.of (cg.cD.isNone)),(39,I.of (aa)),(40,I.eq (.pointer (some ⟨bZ,0,none⟩))),(41,I.eq (.pointer (some ⟨bZ,0 + 1,none⟩))),(42,I.of (fc.cD)),(43,I.of (aa)),(44,I.of (aj)),(45,I.of (aT)),(46,I.gy 255 [I.ptr bn.1,I.ptr bn.2.1,I.ptr bn.2.2]),(68,I.of (s2.1)),(69,I.of (s2.1)),(70,I.of (cG))]) (fun Aq=>(⟨some D,.dC⟩ :: ⟨some a2,.var (s2.1:Ref)⟩ :: ⟨some aW,.var (aj:aA)⟩ :: aV s2.2)) (fun Aq=> ?_) (fun AV=> ?_)
     ·clear h
      refine bx.step [3] (by kernel_rfl) rfl ⟨⟨_,rfl,?_⟩,trivial⟩
      ·refine bp (dx (dZ (ab rfl) EO)) ?_
       refine ah.nil ?_
       exact ae.any rfl (bx.le (.same rfl (.same rfl (.same rfl (.same rfl (.same rfl (.same rfl (.same rfl (.same rfl (.same rfl (.same rfl (.same rfl (.same rfl (.same rfl (.same rfl (.same rfl (.same rfl (.same rfl (.same rfl (.same rfl (.same rfl (.same rfl (.same rfl (.same rfl .nil))))))))))))))))))))))) (xn ()))
     refine bx.cut (γ:=Unit) 7 (Array.mk (false :: true :: true :: false :: false :: false :: false :: false :: false :: [])) (fun Ar=> [(0,I.of (aa)),(1,I.of (aj)),(2,I.of (aT)),(3,I.of (cG)),(5,I.eq (.pointer (some ⟨aW,0,none⟩))),(8,I.of (false)),(9,I.of (aH)),(10,I.eq (.pointer (some ⟨a2,0,none⟩))),(16,I.of (!aB)),(28,I.of (aH.isSome && bq.dG)),(33,I.of (cg.cD.isNone)),(39,I.of (aa)),(40,I.eq (.pointer (some ⟨bZ,0,none⟩))),(41,I.eq (.pointer (some ⟨bZ,0 + 1,none⟩))),(42,I.of (fc.cD)),(43,I.of (aa)),(44,I.of (aj)),(45,I.of (aT)),(46,I.gy 255 [I.ptr bn.1,I.ptr bn.2.1,I.ptr bn.2.2]),(69,I.of (s2.1)),(70,I.of (cG))]) (fun Ar=>(⟨some D,.dC⟩ :: ⟨some a2,.var (s2.1:Ref)⟩ :: ⟨some aW,.var (aj:aA)⟩ :: aV s2.2)) (fun Ar=> ?_) (fun Eu=> ?_)
     ·clear h
      refine bx.step [0] (by kernel_rfl) rfl ⟨⟨_,rfl,?_⟩,trivial⟩
      ·refine cR 1 ek ?_
       refine ah.nil ?_
       exact ae.any rfl (bx.le (.same rfl (.same rfl (.same rfl (.same rfl (.same rfl (.same rfl (.same rfl (.same rfl (.same rfl (.same rfl (.same rfl (.same rfl (.same rfl (.same rfl (.same rfl (.same rfl (.same rfl (.same rfl (.same rfl (.same rfl (.same rfl (.same rfl .nil)))))))))))))))))))))) (AV ()))
     refine bx.cut (γ:=Unit) 7 (Array.mk (true :: false :: false :: true :: false :: false :: false :: false :: false :: [])) (fun As=> [(0,I.of (aa)),(1,I.of (aj)),(2,I.of (aT)),(3,I.of (cG)),(5,I.eq (.pointer (some ⟨aW,0,none⟩))),(8,I.of (false)),(9,I.of (aH)),(10,I.eq (.pointer (some ⟨a2,0,none⟩))),(16,I.of (!aB)),(28,I.of (aH.isSome && bq.dG)),(33,I.of (cg.cD.isNone)),(39,I.of (aa)),(40,I.eq (.pointer (some ⟨bZ,0,none⟩))),(41,I.eq (.pointer (some ⟨bZ,0 + 1,none⟩))),(42,I.of (fc.cD)),(43,I.of (aa)),(44,I.of (aj)),(45,I.of (aT)),(46,I.gy 255 [I.ptr bn.1,I.ptr bn.2.1,I.ptr bn.2.2]),(68,I.of (s2.1)),(71,I.eq (.pointer (some ⟨jy,0,none⟩)))]) (fun As=>(⟨some D,.dC⟩ :: ⟨some a2,.var (s2.1:Ref)⟩ :: ⟨some aW,.var (aj:aA)⟩ :: aV s2.2)) (fun As=> ?_) (fun Ik=> ?_)
     ·clear h
      refine bx.step [1,2,4] (by kernel_rfl) rfl ⟨⟨_,rfl,?_⟩,⟨_,rfl,?_⟩,⟨_,rfl,?_⟩,trivial⟩
      ·refine cR 1 ek ?_
       refine ah.nil ?_
       exact ae.any rfl (bx.le (.same rfl (.same rfl (.same rfl (.same rfl (.same rfl (.same rfl (.same rfl (.same rfl (.same rfl (.same rfl (.same rfl (.same rfl (.same rfl (.same rfl (.same rfl (.same rfl (.same rfl (.same rfl (.same rfl (.same rfl (.same rfl (.same rfl .nil)))))))))))))))))))))) (Et ()))
      ·refine aC ?_
       refine ah.nil ?_
       exact ae.any rfl (bx.le (.same rfl (.same rfl (.same rfl (.same rfl (.same rfl (.same rfl (.same rfl (.same rfl (.same rfl (.same rfl (.same rfl (.same rfl (.same rfl (.same rfl (.same rfl (.same rfl (.same rfl (.same rfl (.same rfl (.same rfl (.same rfl (.same rfl .nil)))))))))))))))))))))) (Ee ()))
      ·refine a4 (aX q0) ?_
       refine ah.nil ?_
       exact ae.any rfl (bx.le (.same rfl (.same rfl (.same rfl (.same rfl (.same rfl (.same rfl (.same rfl (.same rfl (.same rfl (.same rfl (.same rfl (.same rfl (.same rfl (.same rfl (.same rfl (.same rfl (.same rfl (.same rfl (.same rfl (.same rfl (.same rfl (.same rfl .nil)))))))))))))))))))))) (Ed ()))
     refine bx.cut (γ:=Unit) 7 (Array.mk (true :: false :: true :: false :: false :: false :: false :: false :: false :: [])) (fun At=> [(0,I.of (aa)),(1,I.of (aj)),(2,I.of (aT)),(3,I.of (cG)),(5,I.eq (.pointer (some ⟨aW,0,none⟩))),(8,I.of (false)),(9,I.of (aH)),(10,I.eq (.pointer (some ⟨a2,0,none⟩))),(16,I.of (!aB)),(28,I.of (aH.isSome && bq.dG)),(33,I.of (cg.cD.isNone)),(39,I.of (aa)),(40,I.eq (.pointer (some ⟨bZ,0,none⟩))),(41,I.eq (.pointer (some ⟨bZ,0 + 1,none⟩))),(42,I.of (fc.cD)),(43,I.of (aa)),(44,I.of (aj)),(45,I.of (aT)),(46,I.gy 255 [I.ptr bn.1,I.ptr bn.2.1,I.ptr bn.2.2]),(68,I.of (s2.1)),(70,I.of (cG))]) (fun At=>(⟨some D,.dC⟩ :: ⟨some a2,.var (s2.1:Ref)⟩ :: ⟨some aW,.var (aj:aA)⟩ :: aV s2.2)) (fun At=> ?_) (fun AW=> ?_)
     ·clear h
      refine bx.step [1,3] (by kernel_rfl) rfl ⟨⟨_,rfl,?_⟩,⟨_,rfl,?_⟩,trivial⟩
      ·refine cR 1 ek ?_
       refine ah.nil ?_
       exact ae.any rfl (bx.le (.same rfl (.same rfl (.same rfl (.same rfl (.same rfl (.same rfl (.same rfl (.same rfl (.same rfl (.same rfl (.same rfl (.same rfl (.same rfl (.same rfl (.same rfl (.same rfl (.same rfl (.same rfl (.same rfl (.same rfl (.same rfl (.same rfl .nil)))))))))))))))))))))) (AV ()))
      ·refine bp (dx (dZ (ab rfl) EO)) ?_
       refine ah.nil ?_
       exact ae.any rfl (bx.le (.same rfl (.same rfl (.same rfl (.same rfl (.same rfl (.same rfl (.same rfl (.same rfl (.same rfl (.same rfl (.same rfl (.same rfl (.same rfl (.same rfl (.same rfl (.same rfl (.same rfl (.same rfl (.same rfl (.same rfl (.same rfl (.same rfl .nil)))))))))))))))))))))) (Ee ()))
     refine bx.cut (γ:=Unit) 7 (Array.mk (true :: true :: false :: false :: false :: false :: false :: false :: false :: [])) (fun Au=> [(0,I.of (aa)),(1,I.of (aj)),(2,I.of (aT)),(3,I.of (cG)),(5,I.eq (.pointer (some ⟨aW,0,none⟩))),(8,I.of (false)),(9,I.of (aH)),(10,I.eq (.pointer (some ⟨a2,0,none⟩))),(16,I.of (!aB)),(28,I.of (aH.isSome && bq.dG)),(33,I.of (cg.cD.isNone)),(39,I.of (aa)),(40,I.eq (.pointer (some ⟨bZ,0,none⟩))),(41,I.eq (.pointer (some ⟨bZ,0 + 1,none⟩))),(42,I.of (fc.cD)),(43,I.of (aa)),(44,I.of (aj)),(45,I.of (aT)),(46,I.gy 255 [I.ptr bn.1,I.ptr bn.2.1,I.ptr bn.2.2]),(68,I.of (s2.1)),(69,I.of (s2.1))]) (fun Au=>(⟨some D,.dC⟩ :: ⟨some a2,.var (s2.1:Ref)⟩ :: ⟨some aW,.var (aj:aA)⟩ :: aV s2.2)) (fun Au=> ?_) (fun Ev=> ?_)
     ·clear h
      refine bx.step [2,3] (by kernel_rfl) rfl ⟨⟨_,rfl,?_⟩,⟨_,rfl,?_⟩,trivial⟩
      ·refine aC ?_
       refine ah.nil ?_
       exact ae.any rfl (bx.le (.same rfl (.same rfl (.same rfl (.same rfl (.same rfl (.same rfl (.same rfl (.same rfl (.same rfl (.same rfl (.same rfl (.same rfl (.same rfl (.same rfl (.same rfl (.same rfl (.same rfl (.same rfl (.same rfl (.same rfl (.same rfl (.same rfl .nil)))))))))))))))))))))) (AV ()))
      ·refine bp (dx (dZ (ab rfl) EO)) ?_
       refine ah.nil ?_
       exact ae.any rfl (bx.le (.same rfl (.same rfl (.same rfl (.same rfl (.same rfl (.same rfl (.same rfl (.same rfl (.same rfl (.same rfl (.same rfl (.same rfl (.same rfl (.same rfl (.same rfl (.same rfl (.same rfl (.same rfl (.same rfl (.same rfl (.same rfl (.same rfl .nil)))))))))))))))))))))) (Et ()))
     refine bx.cut (γ:=Unit) 8 (Array.mk (false :: false :: true :: false :: false :: false :: false :: false :: false :: [])) (fun Av=> [(0,I.of (aa)),(1,I.of (aj)),(2,I.of (aT)),(3,I.of (cG)),(5,I.eq (.pointer (some ⟨aW,0,none⟩))),(8,I.of (false)),(9,I.of (aH)),(10,I.eq (.pointer (some ⟨a2,0,none⟩))),(16,I.of (!aB)),(28,I.of (aH.isSome && bq.dG)),(33,I.of (cg.cD.isNone)),(39,I.of (aa)),(40,I.eq (.pointer (some ⟨bZ,0,none⟩))),(41,I.eq (.pointer (some ⟨bZ,0 + 1,none⟩))),(42,I.of (fc.cD)),(43,I.of (aa)),(44,I.of (aj)),(45,I.of (aT)),(46,I.gy 255 [I.ptr bn.1,I.ptr bn.2.1,I.ptr bn.2.2]),(70,I.of (cG))]) (fun Av=>(⟨some D,.dC⟩ :: ⟨some a2,.var (s2.1:Ref)⟩ :: ⟨some aW,.var (aj:aA)⟩ :: aV s2.2)) (fun Av=> ?_) (fun Ew=> ?_)
     ·clear h
      refine bx.step [0,1] (by kernel_rfl) rfl ⟨⟨_,rfl,?_⟩,⟨_,rfl,?_⟩,trivial⟩
      ·refine cR 1 ek ?_
       refine ah.nil ?_
       exact ae.any rfl (bx.le (.same rfl (.same rfl (.same rfl (.same rfl (.same rfl (.same rfl (.same rfl (.same rfl (.same rfl (.same rfl (.same rfl (.same rfl (.same rfl (.same rfl (.same rfl (.same rfl (.same rfl (.same rfl (.same rfl (.same rfl (.same rfl .nil))))))))))))))))))))) (AW ()))
      ·refine cR 1 ek ?_
       refine ah.nil ?_
       exact ae.any rfl (bx.le (.same rfl (.same rfl (.same rfl (.same rfl (.same rfl (.same rfl (.same rfl (.same rfl (.same rfl (.same rfl (.same rfl (.same rfl (.same rfl (.same rfl (.same rfl (.same rfl (.same rfl (.same rfl (.same rfl (.same rfl (.same rfl .nil))))))))))))))))))))) (Eu ()))
     refine bx.cut (γ:=Unit) 8 (Array.mk (false :: true :: false :: false :: false :: false :: false :: false :: false :: [])) (fun Aw=> [(0,I.of (aa)),(1,I.of (aj)),(2,I.of (aT)),(3,I.of (cG)),(5,I.eq (.pointer (some ⟨aW,0,none⟩))),(8,I.of (false)),(9,I.of (aH)),(10,I.eq (.pointer (some ⟨a2,0,none⟩))),(16,I.of (!aB)),(28,I.of (aH.isSome && bq.dG)),(33,I.of (cg.cD.isNone)),(39,I.of (aa)),(40,I.eq (.pointer (some ⟨bZ,0,none⟩))),(41,I.eq (.pointer (some ⟨bZ,0 + 1,none⟩))),(42,I.of (fc.cD)),(43,I.of (aa)),(44,I.of (aj)),(45,I.of (aT)),(46,I.gy 255 [I.ptr bn.1,I.ptr bn.2.1,I.ptr bn.2.2]),(69,I.of (s2.1))]) (fun Aw=>(⟨some D,.dC⟩ :: ⟨some a2,.var (s2.1:Ref)⟩ :: ⟨some aW,.var (aj:aA)⟩ :: aV s2.2)) (fun Aw=> ?_) (fun Il=> ?_)
     ·clear h
      refine bx.step [0,2] (by kernel_rfl) rfl ⟨⟨_,rfl,?_⟩,⟨_,rfl,?_⟩,trivial⟩
      ·refine cR 1 ek ?_
       refine ah.nil ?_
       exact ae.any rfl (bx.le (.same rfl (.same rfl (.same rfl (.same rfl (.same rfl (.same rfl (.same rfl (.same rfl (.same rfl (.same rfl (.same rfl (.same rfl (.same rfl (.same rfl (.same rfl (.same rfl (.same rfl (.same rfl (.same rfl (.same rfl (.same rfl .nil))))))))))))))))))))) (Ev ()))
      ·refine aC ?_
       refine ah.nil ?_
       exact ae.any rfl (bx.le (.same rfl (.same rfl (.same rfl (.same rfl (.same rfl (.same rfl (.same rfl (.same rfl (.same rfl (.same rfl (.same rfl (.same rfl (.same rfl (.same rfl (.same rfl (.same rfl (.same rfl (.same rfl (.same rfl (.same rfl (.same rfl .nil))))))))))))))))))))) (Eu ()))
     refine bx.cut (γ:=Unit) 8 (Array.mk (true :: false :: false :: false :: false :: false :: false :: false :: false :: [])) (fun Ax=> [(0,I.of (aa)),(1,I.of (aj)),(2,I.of (aT)),(3,I.of (cG)),(5,I.eq (.pointer (some ⟨aW,0,none⟩))),(8,I.of (false)),(9,I.of (aH)),(10,I.eq (.pointer (some ⟨a2,0,none⟩))),(16,I.of (!aB)),(28,I.of (aH.isSome && bq.dG)),(33,I.of (cg.cD.isNone)),(39,I.of (aa)),(40,I.eq (.pointer (some ⟨bZ,0,none⟩))),(41,I.eq (.pointer (some ⟨bZ,0 + 1,none⟩))),(42,I.of (fc.cD)),(43,I.of (aa)),(44,I.of (aj)),(45,I.of (aT)),(46,I.gy 255 [I.ptr bn.1,I.ptr bn.2.1,I.ptr bn.2.2]),(68,I.of (s2.1))]) (fun Ax=>(⟨some D,.dC⟩ :: ⟨some a2,.var (s2.1:Ref)⟩ :: ⟨some aW,.var (aj:aA)⟩ :: aV s2.2)) (fun Ax=> ?_) (fun Im=> ?_)
     ·clear h
      refine bx.step [1,2,3] (by kernel_rfl) rfl ⟨⟨_,rfl,?_⟩,⟨_,rfl,?_⟩,⟨_,rfl,?_⟩,trivial⟩
      ·refine cR 1 ek ?_
       refine ah.nil ?_
       exact ae.any rfl (bx.le (.same rfl (.same rfl (.same rfl (.same rfl (.same rfl (.same rfl (.same rfl (.same rfl (.same rfl (.same rfl (.same rfl (.same rfl (.same rfl (.same rfl (.same rfl (.same rfl (.same rfl (.same rfl (.same rfl (.same rfl (.same rfl .nil))))))))))))))))))))) (Ev ()))
      ·refine aC ?_
       refine ah.nil ?_
       exact ae.any rfl (bx.le (.same rfl (.same rfl (.same rfl (.same rfl (.same rfl (.same rfl (.same rfl (.same rfl (.same rfl (.same rfl (.same rfl (.same rfl (.same rfl (.same rfl (.same rfl (.same rfl (.same rfl (.same rfl (.same rfl (.same rfl (.same rfl .nil))))))))))))))))))))) (AW ()))
      ·refine bp (dx (dZ (ab rfl) EO)) ?_
       refine ah.nil ?_
       exact ae.any rfl (bx.le (.same rfl (.same rfl (.same rfl (.same rfl (.same rfl (.same rfl (.same rfl (.same rfl (.same rfl (.same rfl (.same rfl (.same rfl (.same rfl (.same rfl (.same rfl (.same rfl (.same rfl (.same rfl (.same rfl (.same rfl (.same rfl .nil))))))))))))))))))))) (Ik ()))
     refine bx.step [0,1,2] (by kernel_rfl) rfl ⟨⟨_,rfl,?_⟩,⟨_,rfl,?_⟩,⟨_,rfl,?_⟩,trivial⟩
     ·refine cR 1 ek ?_
      refine ah.nil ?_
      exact ae.any rfl (bx.le (.same rfl (.same rfl (.same rfl (.same rfl (.same rfl (.same rfl (.same rfl (.same rfl (.same rfl (.same rfl (.same rfl (.same rfl (.same rfl (.same rfl (.same rfl (.same rfl (.same rfl (.same rfl (.same rfl (.same rfl .nil)))))))))))))))))))) (Im ()))
     ·refine cR 1 ek ?_
      refine ah.nil ?_
      exact ae.any rfl (bx.le (.same rfl (.same rfl (.same rfl (.same rfl (.same rfl (.same rfl (.same rfl (.same rfl (.same rfl (.same rfl (.same rfl (.same rfl (.same rfl (.same rfl (.same rfl (.same rfl (.same rfl (.same rfl (.same rfl (.same rfl .nil)))))))))))))))))))) (Il ()))
     ·refine aC ?_
      refine ah.nil ?_
      exact ae.any rfl (bx.le (.same rfl (.same rfl (.same rfl (.same rfl (.same rfl (.same rfl (.same rfl (.same rfl (.same rfl (.same rfl (.same rfl (.same rfl (.same rfl (.same rfl (.same rfl (.same rfl (.same rfl (.same rfl (.same rfl (.same rfl .nil)))))))))))))))))))) (Ew ()))
    ·exact Empty.elim et
   ·refine ai.cE ?_
    refine aC ?_
    refine hl ND NF (default:dz) .nil ?_
    refine ah.xq 1 rfl (Cell.fC (default:dz)) (fun _=>rfl) (ab rfl) rfl fun cF vk=> ?_
    replace h:=aq.p4 h cF vk
    refine bp (dx (dZ (ab rfl) eY)) ?_
    refine a4 (aX sy) ?_
    obtain⟨B3,ER,h⟩:=aq.cf h
    obtain⟨tg,Ij,h⟩:=aq.cf h
    refine ah.mw (k':=Cell.iV ({ B3 with cD:=(some cF.1:Ref) } :fm)) 1 rfl ((aQ.id fm).comp sm) (v:=((some cF.1:Ref):Ref)) ek (ab rfl) (ab rfl) (m6 ER) rfl rfl rfl rfl (aK Ij) ?_
    refine ah.nil ?_
    exact dT 0 (hm tg () h)
   ·refine ai.skip ?_
    exact dT 0 (hm hp () h)
theorem QP {hp:aN Cell} {aa:gA} {aj:aw} {Q:(aN Cell)→Prop} (h:yE hp aa aj Q):bO Tryz.prog 237 [I.of (aa),I.of (aj)] ([] ++ aV hp) (δ:= {r:(aN Cell) // Q r} × Unit) (fun d=>I.eD []) (fun d=> [] ++ aV d.1.1):=by
 unfold yE at h
 refine bO.of Tryz.func237 rfl Tryz.ntmps237 rfl fun W A=> ?_
 refine aE ?_
 refine cz fun aW=> ?_
 refine cz fun a2=> ?_
 refine b5 ?_
 refine cR 1 D6 ?_
 refine a4 (aX lZ) ?_
 refine ct 0 lr fP ?_
 obtain⟨aB,bu,h⟩:=aq.cf h
 refine fQ HT (FF bu) ?_
 refine aC ?_
 refine hc ?_
 refine hc ?_
 refine hc ?_
 refine dJ xg fun bF=> ?_
 refine dJ eA fun iO=> ?_
 refine cY 1 km ?_
 refine cY 0 b8 ?_
 refine aO ?_
 refine bY ?_
 refine aE ?_
 refine a4 (aX sA) ?_
 refine ct 3 qH rn ?_
 refine cR 1 km ?_
 obtain⟨b6,c8,h⟩:=aq.cf h
 obtain⟨bq,dM,h⟩:=aq.cf h
 obtain⟨bL,dS,h⟩:=aq.cf h
 refine bp (um (r:=bL) Tryz.underlying167 uT Ak (kD (ab rfl) c8) (ab rfl) (ep (n:=4) rfl (l0 dM) rfl) (aK dS)) ?_
 refine bp (mo Tryz.underlying321 (ab rfl)) ?_
 refine aM ?_
 refine ai.uv (γ:=Unit) h (fun bB av=> [(0,I.of (aa)),(1,I.of (aj)),(2,I.eq (.pointer (some ⟨aW,0,none⟩))),(3,I.eq (.pointer (some ⟨a2,0,none⟩))),(4,I.eq (.pointer (some ⟨bF,0,none⟩))),(5,I.eq (.pointer (some ⟨iO,0,none⟩))),(6,I.of (aB.2.2)),(19,I.of (bL.isNone))]) (fun bB av=>(⟨some iO,.var (aB.2.1:aA)⟩ :: ⟨some bF,.var (aB.1:Vector aA 4)⟩ :: ⟨some a2,.var (aj:aw)⟩ :: ⟨some aW,.var (aa:gA)⟩ :: aV bB)) (ab rfl) (fun bB av h=> ?_) (fun hm ak h=> ?_) (fun hm ak h=> ?_)
 ·refine ae.next ?_
  obtain⟨cg,e4,h⟩:=aq.cf h
  obtain⟨dF,hR,h⟩:=aq.cf h
  refine ai.draw mixed 8 [some 26,some 27,some 28,some 29,some 30,some 31,some 32,some 33] [[],[0],[],[1,2],[],[],[],[6]] [.val _,.val _,.val _,.val _,.val _,.val _,.val _,.val _] [false,false,false,false,false,false,false,false] (by kernel_rfl) rfl rfl rfl (fun dk=>⟨H1 (aX sA),ey 3 qH rn,gW 1 km,ed fun L' an=>um (r:=dF) Tryz.underlying167 uT Ak (kD (ab rfl) c8) (ab rfl) (jJ (fun i e q=>an i e q rfl) (ep (n:=4) rfl (l0 e4) rfl)) (aK hR),gW 0 b8,dc,H1 (aX nL),ey 2 mU bK,trivial⟩) fun dk=> ?_
  refine ah.h1 4 0 rfl W3 (Rx h) rfl rfl ⟨ab rfl,ab rfl,ab rfl,ab rfl,trivial⟩ rfl fun⟨⟨aH,h⟩,ax⟩=> ?_
  refine ah.eo (L2:=(⟨some iO,.var (aB.2.1:aA)⟩ :: ⟨some bF,.var (aB.1:Vector aA 4)⟩ :: ⟨some a2,.var (aj:aw)⟩ :: ⟨some aW,.var (aa:gA)⟩ :: aV aH.2)) rfl ?_
  refine ah.nil ?_
  refine ae.nU ?_
  exact ae.lA (⟨⟨aH.2,h⟩,()⟩: {r // _} × _) (.cons _ (.cons _ (.cons _ (.cons _ (.refl _))))) rfl rfl
 ·obtain⟨Zl,Yu,Yv⟩:=aq.ex h
  refine MD mixed 6 5 25 _ (K:=Zl) [some (20,I.eq (.pointer (some ⟨aW,0 + 2,none⟩))),some (21,I.of (aa.nH)),some (22,I.of (aB.1)),some (23,I.eq (.pointer (some ⟨aW,0 + 1,none⟩))),some (24,I.of (aa.fA)),none] _ [[],[0],[],[],[3],[4]] _ (fun bn=>I.of (bn.1)) (fun bn=>(⟨some iO,.var (aB.2.1:aA)⟩ :: ⟨some bF,.var (aB.1:Vector aA 4)⟩ :: ⟨some a2,.var (aj:aw)⟩ :: ⟨some aW,.var (aa:gA)⟩ :: aV bn.2)) rfl rfl rfl rfl rfl rfl (by kernel_rfl) ⟨⟨aX sA (ab rfl),fun bn s5=>aX sA (ab rfl)⟩,⟨e9 (i:=3) ((aQ.id gA).comp qH) (r:=aa.nH) rn (ab rfl) rfl rfl rfl,fun bn s5=>e9 (i:=3) ((aQ.id gA).comp qH) (r:=aa.nH) rn (ab rfl) rfl rfl rfl⟩,⟨e9 (i:=1) (aQ.id (Vector aA 4)) (r:=aB.1) km (ab rfl) rfl rfl rfl,fun bn s5=>e9 (i:=1) (aQ.id (Vector aA 4)) (r:=aB.1) km (ab rfl) rfl rfl rfl⟩,⟨aX Md (ab rfl),fun bn s5=>aX Md (ab rfl)⟩,⟨e9 (i:=3) ((aQ.id gA).comp FD) (r:=aa.fA) bK (ab rfl) rfl rfl rfl,fun bn s5=>e9 (i:=3) ((aQ.id gA).comp FD) (r:=aa.fA) bK (ab rfl) rfl rfl rfl⟩,trivial⟩ (fun bs vT aD bI=> ?_) (fun bn s5=> ?_)
  ·refine ah.h1 4 0 rfl W4 (Sq Yu) rfl rfl ⟨ab (aD rfl),trivial⟩ rfl fun⟨⟨bn,s5⟩,_⟩=> ?_
   refine ah.eo (L2:=(⟨some iO,.var (aB.2.1:aA)⟩ :: ⟨some bF,.var (aB.1:Vector aA 4)⟩ :: ⟨some a2,.var (aj:aw)⟩ :: ⟨some aW,.var (aa:gA)⟩ :: aV bn.2)) rfl ?_
   refine ah.nil ?_
   exact bI bn s5
  have h:=Yv bn s5
  refine ah.le (E':= [(0,I.of (aa)),(1,I.of (aj)),(2,I.eq (.pointer (some ⟨aW,0,none⟩))),(3,I.eq (.pointer (some ⟨a2,0,none⟩))),(4,I.eq (.pointer (some ⟨bF,0,none⟩))),(5,I.eq (.pointer (some ⟨iO,0,none⟩))),(6,I.of (aB.2.2)),(7,I.eD [I.of (aB.1),I.of (aB.2.1),I.of (aB.2.2)]),(8,I.of (aa)),(9,I.eq (.pointer (some ⟨a2,0 + 0,none⟩))),(10,I.of (aj.bV)),(11,I.eD [I.of (aB.1),I.of (aB.2.1),I.of (aB.2.2)]),(12,I.of (aB.1)),(13,I.of (aB.2.1)),(14,I.of (aB.2.2)),(15,I.eq (.pointer (some ⟨aW,0 + 2,none⟩))),(16,I.of (aa.nH)),(17,I.of (aB.1)),(18,I.of (bL)),(19,I.of (bL.isNone)),(20,I.eq (.pointer (some ⟨aW,0 + 2,none⟩))),(21,I.of (aa.nH)),(22,I.of (aB.1)),(23,I.eq (.pointer (some ⟨aW,0 + 1,none⟩))),(24,I.of (aa.fA)),(25,I.of (bn.1))]) (.same rfl (.same rfl (.same rfl (.same rfl (.same rfl (.same rfl (.same rfl (.same rfl (.same rfl (.same rfl (.same rfl (.same rfl (.same rfl (.same rfl (.same rfl (.same rfl (.same rfl (.same rfl (.same rfl (.same rfl (.same rfl (.same rfl (.same rfl (.same rfl (.same rfl (.same rfl .nil)))))))))))))))))))))))))) ?_
  obtain⟨fc,lK,h⟩:=aq.cf h
  obtain⟨cw,iG,h⟩:=aq.cf h
  refine ah.DT (k':=Cell.k7 (fB fc aB.1 bn.1)) 4 rfl (by first | exact .inl rfl | exact .inr rfl) Tryz.underlying167 uT (kD (ab rfl) c8) (ab rfl) (ab rfl) (l0 lK) rfl rfl rfl (aK iG) ?_
  refine ah.nil ?_
  exact dT 0 (hm cw () h)
 ·refine ai.skip ?_
  exact dT 0 (hm hp () h)
theorem Qy {hp:aN Cell} {y:gw} {aa:aw} {Q:(aN Cell)→Prop} (h:FJ hp y aa Q):lz Tryz.prog "matchguard/index.remove" (I.of y) [I.of (aa)] ([] ++ aV hp) (δ:= {r:(aN Cell) // Q r} × Unit) (fun d=>I.eD []) (fun d=> [] ++ aV d.1.1):=by
 cases y with
 | nil=>exact h.elim
 | mB z=>
   obtain⟨r,J,ad⟩:=h
   exact lz.of SR (fun A W u hu=>Gs hu) (bO.map (fun d=>(⟨r,ad⟩,d)) (fun _=>rfl) (fun _=>rfl) (QD J))
 | mC z=>
   obtain⟨r,J,ad⟩:=h
   exact lz.of SS (fun A W u hu=>Gt hu) (bO.map (fun d=>(⟨r,ad⟩,d)) (fun _=>rfl) (fun _=>rfl) (Qn J))
 | mD z=>exact lz.of SU (fun A W u hu=>Gu hu) (QE h)
theorem Q1 {hp:aN Cell} {y:gw} {aa:aw} {Q:(aN Cell)→Prop} (h:FW hp y aa Q):lz Tryz.prog "matchguard/index.put" (I.of y) [I.of (aa)] ([] ++ aV hp) (δ:= {r:(aN Cell) // Q r} × Unit) (fun d=>I.eD []) (fun d=> [] ++ aV d.1.1):=by
 cases y with
 | nil=>exact h.elim
 | mB z=>
   obtain⟨r,J,ad⟩:=h
   exact lz.of SV (fun A W u hu=>Gs hu) (bO.map (fun d=>(⟨r,ad⟩,d)) (fun _=>rfl) (fun _=>rfl) (Q6 J))
 | mC z=>exact lz.of SW (fun A W u hu=>Gt hu) (QP h)
 | mD z=>exact lz.of SX (fun A W u hu=>Gu hu) (Ra h)
theorem QQ {hp:aN Cell} {aa:Ref} {aj:bh} {Q:aw × Bool × (aN Cell)→Prop} (h:yF hp aa aj Q):bO Tryz.prog 41 [I.of (aa),I.of (aj)] ([] ++ aV hp) (δ:= {r:aw × Bool × (aN Cell) // Q r} × Unit) (fun d=>I.eD [I.of (d.1.1.1),I.of (d.1.1.2.1)]) (fun d=> [] ++ aV d.1.1.2.2):=by
 unfold yF at h
 refine bO.of Tryz.func41 rfl Tryz.ntmps41 rfl fun W A=> ?_
 refine aE ?_
 refine cz fun aW=> ?_
 refine dJ h3 fun a2=> ?_
 refine aO ?_
 refine b5 ?_
 refine aC ?_
 refine cR 1 fP ?_
 obtain⟨aB,bu,h⟩:=aq.cf h
 refine ah.iN (fS.jF 2 rfl Oq (Kg bu) ⟨ab rfl,ab rfl,trivial⟩) rfl rfl rfl ?_
 refine aC ?_
 refine hc ?_
 refine hc ?_
 refine dJ h3 fun bF=> ?_
 refine cY 0 cI ?_
 refine aO ?_
 refine bY ?_
 refine aE ?_
 refine aC ?_
 refine aM ?_
 refine ai.uv (γ:=Unit) h (fun bB av=> [(0,I.of (aa)),(1,I.of (aj)),(3,I.eq (.pointer (some ⟨aW,0,none⟩))),(4,I.eq (.pointer (some ⟨a2,0,none⟩))),(5,I.of (false)),(6,I.eq (.pointer (some ⟨bF,0,none⟩))),(7,I.of (aB.2)),(14,I.of (aB.2))]) (fun bB av=>(⟨some bF,.var (aB.1:aw)⟩ :: ⟨some a2,.var ((default:aw):aw)⟩ :: ⟨some aW,.var (aj:bh)⟩ :: aV bB)) (ab rfl) (fun bB av h=> ?_) (fun hm ak h=> ?_) (fun hm ak h=> ?_)
 ·refine ae.next ?_
  refine aE ?_
  refine cR 0 cI ?_
  refine aC ?_
  refine cY 1 cI ?_
  refine aO ?_
  refine aM ?_
  refine ai.ret ?_
  exact ae.kl (⟨⟨(aB.1,aB.2,bB),h⟩,()⟩: {r // _} × _) (.cons _ (.cons _ (.cons _ (.refl _)))) rfl rfl (kk (i:=1) cI rfl rfl) (dH rfl)
 ·refine ai.seq ?_
  obtain⟨b6,c8,h⟩:=aq.cf h
  obtain⟨bq,dM,h⟩:=aq.cf h
  refine ai.draw mixed 5 [some 15,some 16,some 17,some 18,some 19] [[],[0],[1],[2],[]] [.val _,.val _,.val _,.val _,.val _] [false,false,false,false,false] (by kernel_rfl) rfl rfl rfl (fun dk=>⟨dc,ed fun L' an=>dx (dZ (ab rfl) c8),H1 (aX uo),ed fun L' an=>fi ((aQ.id gx).comp tE) (r:=bq.iB) sP (ab rfl) (jJ (fun i e q=>an i e q rfl) (ep (n:=3) rfl (lY dM) rfl)) rfl rfl,gW 0 cI,trivial⟩) fun dk=> ?_
  refine ah.AU 3 0 rfl (Qy h) rfl rfl ⟨ab rfl,ab rfl,trivial⟩ rfl fun⟨⟨aH,h⟩,ax⟩=> ?_
  refine ah.eo (L2:=(⟨some bF,.var (aB.1:aw)⟩ :: ⟨some a2,.var ((default:aw):aw)⟩ :: ⟨some aW,.var (aj:bh)⟩ :: aV aH)) rfl ?_
  refine aM ?_
  obtain⟨cg,e4,h⟩:=aq.cf h
  refine ai.draw mixed 6 [some 21,some 22,some 23,some 24,some 25,some 26] [[],[0],[1],[2],[],[4]] [.val _,.val _,.val _,.val _,.val _,.val _] [false,false,false,false,false,false] (by kernel_rfl) rfl rfl rfl (fun mH=>⟨dc,ed fun L' an=>dx (dZ (ab rfl) c8),H1 (aX wV),ed fun L' an=>fi ((aQ.id gx).comp tD) (r:=cg.jl) uK (ab rfl) (jJ (fun i e q=>an i e q rfl) (ep (n:=3) rfl (lY e4) rfl)) rfl rfl,H1 (aX nL),ey 0 mU bK,trivial⟩) fun mH=> ?_
  obtain⟨bZ,eY,h⟩:=aq.cf h
  obtain⟨fc,lK,h⟩:=aq.cf h
  obtain⟨cw,iG,h⟩:=aq.cf h
  refine ah.HO (k':=Cell.jI (hj fc aB.1.cu)) 3 rfl Tryz.underlying133 xG (kD (ab rfl) eY) (ab rfl) (o8 lK) rfl rfl rfl (aK iG) ?_
  refine ah.nil ?_
  exact dT 0 (hm cw () h)
 ·refine ai.skip ?_
  exact dT 0 (hm hp () h)
theorem Rh {hp:aN Cell} {aa:Ref} {aj:aw} {Q:Bool × (aN Cell)→Prop} (h:yV hp aa aj Q):bO Tryz.prog 44 [I.of (aa),I.of (aj)] ([] ++ aV hp) (δ:= {r:Bool × (aN Cell) // Q r} × Unit) (fun d=>I.of (d.1.1.1)) (fun d=> [] ++ aV d.1.1.2):=by
 unfold yV at h
 refine bO.of Tryz.func44 rfl Tryz.ntmps44 rfl fun W A=> ?_
 refine aE ?_
 refine cz fun aW=> ?_
 refine aO ?_
 refine bY ?_
 refine aE ?_
 refine aC ?_
 refine bp (mo Tryz.underlying37 (ab rfl)) ?_
 refine aM ?_
 refine ai.cond (ab rfl) (fun ak=> ?_) (fun ak=> ?_)
 ·replace h:=kE ak h
  refine aE ?_
  refine aO ?_
  refine aM ?_
  refine ai.ret ?_
  refine ae.ret ?_
  exact ae.eW (⟨⟨(false,hp),h⟩,()⟩: {r // _} × _) (.cons _ (.refl _)) rfl rfl (dH rfl)
 ·replace h:=kF ak h
  refine c4 ?_
  refine ai.seq ?_
  obtain⟨b6,c8,h⟩:=aq.cf h
  obtain⟨bq,dM,h⟩:=aq.cf h
  obtain⟨bZ,eY,h⟩:=aq.cf h
  obtain⟨cg,e4,h⟩:=aq.cf h
  obtain⟨bL,dS,h⟩:=aq.cf h
  refine ai.W5 1 1 ?_
  refine j8 [0,1,3,4,9,10] ?_
  refine ai.uR 2 mixed (bk 12 [] [] _ :: bk 13 (0 :: []) [] _ :: bk 14 (1 :: []) [] _ :: ⟨some 15,(2 :: []),[],[],fun _=>I.of (bq.jl),fun _ _=>⟨none,.dead⟩⟩ :: bk 16 [] [] _ :: bk 17 (4 :: []) (0 :: []) _ :: ⟨some 18,(3 :: 5 :: []),[],[],fun _=>I.eD [I.of (bL.getD default),I.of (bL.isSome)],fun _ _=>⟨none,.dead⟩⟩ :: bk 11 (6 :: []) [] _ :: bk 19 (7 :: []) [] _ :: bk 20 (7 :: []) [] _ :: ⟨some 5,[],(1 :: []),(1 :: []),fun hd=>I.eq (.pointer (some ⟨((hd 10 0).getD 0),0,none⟩)),fun hd _=>⟨some ((hd 10 0).getD 0),.var ((default:aw):aw)⟩⟩ :: ⟨none,(8 :: 10 :: []),(1 :: []),(1 :: []),fun _=>I.any,fun hd _=>⟨some ((hd 10 0).getD 0),.var (bL.getD default:aw)⟩⟩ :: bk 6 (9 :: []) [] _ :: []) _ (0 :: 1 :: 3 :: 4 :: 9 :: 10 :: []) rfl rfl (by kernel_rfl) (by kernel_rfl) ⟨c3.q (fg),c3.q (cm fun hd E' L' aD an=>dx (dZ (ab (aD _ _ rfl)) c8)),c3.q (fx (aX wV)),?_,c3.q (fx (aX nL)),c3.q (py 0 mU bK),?_,c3.q (fg),c3.q (cm fun hd E' L' aD an=>m9 (ab (aD _ _ rfl)) rfl),c3.q (cm fun hd E' L' aD an=>m9 (ab (aD _ _ rfl)) rfl),?_,?_,c3.q (cm fun hd E' L' aD an=>eH (ab (aD _ _ rfl))),trivial⟩ fun eZ=> ?_
  ·intro hd E' L' aD an dK
   refine bp (fi ((aQ.id gx).comp tD) (r:=bq.jl) uK (ab (aD _ _ rfl)) (ep (n:=2) (dK.trans rfl) (lY dM) rfl) rfl rfl) ?_
   refine ah.nil ?_
   exact ae.fin (eP []) rfl rfl
  ·intro hd E' L' aD an dK
   refine bp (GD (r:=bL) Tryz.underlying133 xG h3 (kD (ab (aD _ _ rfl)) eY) (ab (aD _ _ rfl)) (ep (n:=2) (dK.trans rfl) (o8 e4) rfl) (aK dS)) ?_
   refine ah.nil ?_
   exact ae.fin (eP []) rfl rfl
  ·intro hd E' L' aD an dK
   refine dJ h3 fun a2=> ?_
   refine ah.nil ?_
   refine ae.place 1 (an 1 _ rfl rfl) ?_
   exact ae.fin (eP [some a2]) rfl rfl
  ·intro hd E' L' aD an dK
   refine ah.store (i:=1) (aQ.id aw) (v:=(bL.getD default:aw)) (b':=(bL.getD default:aw)) cI (ab (aD _ _ rfl)) (ab (aD _ _ rfl)) (an 1 _ rfl rfl) rfl rfl ?_
   refine ah.nil ?_
   exact ae.fin (eP []) rfl rfl
  refine ae.eo (L2:=(⟨some aW,.var (aj:aw)⟩ :: ⟨some ((eZ 10 0).getD 0),.var (bL.getD default:aw)⟩ :: aV hp)) rfl ?_
  refine kP [0,1,3,4,5,6,9,10,11,12,13,14,15,16,17,18,19,20] ?_
  refine ae.bU 1 rfl ?_
  refine ae.next ?_
  refine ai.seq ?_
  refine ai.seq ?_
  obtain⟨mi,tf,h⟩:=aq.cf h
  obtain⟨fc,lK,h⟩:=aq.cf h
  obtain⟨aB,bu,h⟩:=aq.cf h
  refine j8 [0,1,3,4,5,6,9,10,11,12,13,14,15,16,17,18,19,20] ?_
  refine ai.uR 2 mixed (bk 22 [] [] _ :: bk 23 (0 :: []) [] _ :: bk 24 (1 :: []) [] _ :: ⟨some 25,(2 :: []),[],[],fun _=>I.of (fc.iB),fun _ _=>⟨none,.dead⟩⟩ :: bk 26 [] [] _ :: bk 27 (4 :: []) (1 :: []) _ :: ⟨some 28,(3 :: 5 :: []),[],[],fun _=>I.eD [I.of (aB.1),I.of (aB.2)],fun _ _=>⟨none,.dead⟩⟩ :: bk 21 (6 :: []) [] _ :: bk 29 (7 :: []) [] _ :: bk 30 (7 :: []) [] _ :: bk 7 (8 :: []) [] _ :: bk 8 (9 :: []) [] _ :: []) _ (0 :: 1 :: 3 :: 4 :: 5 :: 6 :: 9 :: 10 :: 11 :: 12 :: 13 :: 14 :: 15 :: 16 :: 17 :: 18 :: 19 :: 20 :: []) rfl rfl (by kernel_rfl) (by kernel_rfl) ⟨c3.q (fg),c3.q (cm fun hd E' L' aD an=>dx (dZ (ab (aD _ _ rfl)) tf)),c3.q (fx (aX uo)),?_,c3.q (fx (aX lZ)),c3.q (py 1 lr fP),?_,c3.q (fg),c3.q (cm fun hd E' L' aD an=>m9 (ab (aD _ _ rfl)) rfl),c3.q (cm fun hd E' L' aD an=>m9 (ab (aD _ _ rfl)) rfl),c3.q (cm fun hd E' L' aD an=>eH (ab (aD _ _ rfl))),c3.q (cm fun hd E' L' aD an=>eH (ab (aD _ _ rfl))),trivial⟩ fun iJ=> ?_
  ·intro hd E' L' aD an dK
   refine bp (fi ((aQ.id gx).comp tE) (r:=fc.iB) sP (ab (aD _ _ rfl)) (ep (n:=2) (dK.trans rfl) (lY lK) rfl) rfl rfl) ?_
   refine ah.nil ?_
   exact ae.fin (eP []) rfl rfl
  ·intro hd E' L' aD an dK
   refine ah.iN (fS.AU 2 (dK.trans rfl) (Kb bu) ⟨ab (aD _ _ rfl),ab (aD _ _ rfl),trivial⟩) rfl rfl rfl ?_
   refine ah.nil ?_
   exact ae.fin (eP []) rfl rfl
  refine ae.eo (L2:=(⟨some ((eZ 10 0).getD 0),.var (bL.getD default:aw)⟩ :: ⟨some aW,.var (aj:aw)⟩ :: aV hp)) rfl ?_
  refine kP [0,1,3,4,5,6,7,8,9,10,11,12,13,14,15,16,17,18,19,20,21,22,23,24,25,26,27,28,29,30] ?_
  refine ae.next ?_
  refine aE ?_
  refine aC ?_
  refine aC ?_
  refine dB ch ?_
  refine Bf ?_
  refine aM ?_
  refine ai.cond (ab rfl) (fun ak=> ?_) (fun ak=> ?_)
  ·replace h:=kE ak h
   refine aE ?_
   refine aO ?_
   refine aM ?_
   refine ai.ret ?_
   refine ae.ret ?_
   exact ae.eW (⟨⟨(false,hp),h⟩,()⟩: {r // _} × _) (.cons _ (.cons _ (.refl _))) rfl rfl (dH rfl)
  ·replace h:=kF ak h
   refine c4 ?_
   refine ai.seq ?_
   obtain⟨Fi,O4,h⟩:=aq.cf h
   obtain⟨jR,vn,h⟩:=aq.cf h
   obtain⟨aH,cB,h⟩:=aq.cf h
   refine ai.draw mixed 8 [some 35,some 36,some 37,some 38,some 39,some 40,some 41,some 42] [[],[0],[1],[2],[],[4],[],[6]] [.val _,.val _,.val _,.val _,.val _,.val _,.val _,.val _] [false,false,false,false,false,false,false,false] (by kernel_rfl) rfl rfl rfl (fun dk=>⟨dc,ed fun L' an=>dx (dZ (ab rfl) O4),H1 (aX wV),ed fun L' an=>fi ((aQ.id gx).comp tD) (r:=jR.jl) uK (ab rfl) (jJ (fun i e q=>an i e q rfl) (ep (n:=2) rfl (lY vn) rfl)) rfl rfl,H1 (aX nL),ey 1 mU bK,gW 1 cI,fv AS (y2 cB),trivial⟩) fun dk=> ?_
   obtain⟨pQ,IK,h⟩:=aq.cf h
   obtain⟨lT,vo,h⟩:=aq.cf h
   obtain⟨cw,iG,h⟩:=aq.cf h
   refine ah.DT (k':=Cell.jI (fB lT aj.cu aH)) 2 rfl (by first | exact .inl rfl | exact .inr rfl) Tryz.underlying133 xG (kD (ab rfl) IK) (ab rfl) (ab rfl) (o8 vo) rfl rfl rfl (aK iG) ?_
   refine bY ?_
   obtain⟨k0,xL,h⟩:=aq.cf h
   refine ai.draw mixed 5 [some 43,some 44,some 45,some 46,some 47] [[],[0],[1],[2],[]] [.val _,.val _,.val _,.val _,.val _] [false,false,false,false,false] (by kernel_rfl) rfl rfl rfl (fun mH=>⟨dc,ed fun L' an=>dx (dZ (ab rfl) O4),H1 (aX uo),ed fun L' an=>fi ((aQ.id gx).comp tE) (r:=k0.iB) sP (ab rfl) (jJ (fun i e q=>an i e q rfl) (ep (n:=2) rfl (lY xL) rfl)) rfl rfl,gW 1 cI,trivial⟩) fun mH=> ?_
   refine ah.AU 2 0 rfl (Q1 h) rfl rfl ⟨ab rfl,ab rfl,trivial⟩ rfl fun⟨⟨bn,h⟩,ax⟩=> ?_
   refine ah.eo (L2:=(⟨some ((eZ 10 0).getD 0),.var (bL.getD default:aw)⟩ :: ⟨some aW,.var (aj:aw)⟩ :: aV bn)) rfl ?_
   refine b5 ?_
   refine aO ?_
   refine aM ?_
   refine ai.ret ?_
   exact ae.eW (⟨⟨(true,bn),h⟩,()⟩: {r // _} × _) (.cons _ (.cons _ (.refl _))) rfl rfl (dH rfl)
theorem Kc {hp:aN Cell} {aa:Ref} {aj:bh} {Q:aw × Int × (aN Cell)→Prop} (h:tI hp aa aj Q):bO Tryz.prog 33 [I.of (aa),I.of (aj)] ([] ++ aV hp) (δ:= {r:aw × Int × (aN Cell) // Q r} × Unit) (fun d=>I.eD [I.of (d.1.1.1),I.of (d.1.1.2.1)]) (fun d=> [] ++ aV d.1.1.2.2):=by
 unfold tI at h
 refine bO.of Tryz.func33 rfl Tryz.ntmps33 rfl fun W A=> ?_
 refine aE ?_
 refine cz fun aW=> ?_
 refine dJ h3 fun a2=> ?_
 refine aO ?_
 refine b5 ?_
 refine aC ?_
 refine a4 (aX oz) ?_
 refine ct 1 mV bK ?_
 obtain⟨aB,bu,h⟩:=aq.cf h
 refine ah.iN (fS.jF 2 rfl Ii (FR bu) ⟨ab rfl,ab rfl,trivial⟩) rfl rfl rfl ?_
 refine aO ?_
 refine bY ?_
 refine aE ?_
 refine aC ?_
 refine bp (mo Tryz.underlying37 (ab rfl)) ?_
 refine aM ?_
 refine ai.cond (ab rfl) (fun ak=> ?_) (fun ak=> ?_)
 ·replace h:=kE ak h
  refine aE ?_
  refine hl AT h3 (default:aw) .nil ?_
  refine cY 0 cI ?_
  refine aO ?_
  refine aM ?_
  refine ai.ret ?_
  refine ae.ret ?_
  exact ae.kl (⟨⟨((default:aw),6,hp),h⟩,()⟩: {r // _} × _) (.cons _ (.cons _ (.refl _))) rfl rfl (kk (i:=0) cI rfl rfl) (dH rfl)
 ·replace h:=kF ak h
  refine c4 ?_
  refine aE ?_
  refine aC ?_
  refine cR 1 fP ?_
  refine ah.h1 2 0 rfl Yw (QQ h) rfl rfl ⟨ab rfl,ab rfl,trivial⟩ rfl fun⟨⟨aH,h⟩,ax⟩=> ?_
  refine ah.eo (L2:=(⟨some a2,.var ((default:aw):aw)⟩ :: ⟨some aW,.var (aj:bh)⟩ :: aV aH.2.2)) rfl ?_
  refine aC ?_
  refine hc ?_
  refine hc ?_
  refine dJ h3 fun bF=> ?_
  refine cY 0 cI ?_
  refine aO ?_
  refine bY ?_
  refine aE ?_
  refine aC ?_
  refine a4 k6 ?_
  refine aM ?_
  refine ai.cond (ab rfl) (fun ak=> ?_) (fun ak=> ?_)
  ·replace h:=kE ak h
   refine aE ?_
   refine hl AT h3 (default:aw) .nil ?_
   refine cY 1 cI ?_
   refine aO ?_
   refine aM ?_
   refine ai.ret ?_
   refine ae.ret ?_
   exact ae.kl (⟨⟨((default:aw),16,aH.2.2),h⟩,()⟩: {r // _} × _) (.cons _ (.cons _ (.cons _ (.refl _)))) rfl rfl (kk (i:=1) cI rfl rfl) (dH rfl)
  ·replace h:=kF ak h
   refine c4 ?_
   refine aE ?_
   refine cR 0 cI ?_
   refine cY 1 cI ?_
   refine aO ?_
   refine aM ?_
   refine ai.ret ?_
   exact ae.kl (⟨⟨(aH.1,0,aH.2.2),h⟩,()⟩: {r // _} × _) (.cons _ (.cons _ (.cons _ (.refl _)))) rfl rfl (kk (i:=1) cI rfl rfl) (dH rfl)
theorem FQ {hp:aN Cell} {aa:Ref} {aj:bh} {aT:Int} {Q:Int × Int × (aN Cell)→Prop} (h:qL hp aa aj aT Q):bO Tryz.prog 30 [I.of (aa),I.of (aj),I.of (aT)] ([] ++ aV hp) (δ:= {r:Int × Int × (aN Cell) // Q r} × Unit) (fun d=>I.eD [I.of (d.1.1.1),I.of (d.1.1.2.1)]) (fun d=> [] ++ aV d.1.1.2.2):=by
 unfold qL at h
 refine bO.of Tryz.func30 rfl Tryz.ntmps30 rfl fun W A=> ?_
 refine aE ?_
 refine cz fun aW=> ?_
 refine aO ?_
 refine aO ?_
 refine b5 ?_
 refine aC ?_
 refine a4 (aX oz) ?_
 refine ct 0 mV bK ?_
 obtain⟨aB,bu,h⟩:=aq.cf h
 refine ah.iN (fS.jF 1 rfl Ii (FR bu) ⟨ab rfl,ab rfl,trivial⟩) rfl rfl rfl ?_
 refine aO ?_
 refine bY ?_
 refine aE ?_
 refine aC ?_
 refine bp (mo Tryz.underlying37 (ab rfl)) ?_
 refine aM ?_
 refine ai.cond (ab rfl) (fun ak=> ?_) (fun ak=> ?_)
 ·replace h:=kE ak h
  refine aE ?_
  refine aO ?_
  refine aO ?_
  refine aM ?_
  refine ai.ret ?_
  refine ae.ret ?_
  exact ae.kl (⟨⟨(0,6,hp),h⟩,()⟩: {r // _} × _) (.cons _ (.refl _)) rfl rfl (dH rfl) (dH rfl)
 ·replace h:=kF ak h
  refine c4 ?_
  refine ai.seq ?_
  refine aE ?_
  refine aC ?_
  refine cR 0 fP ?_
  obtain⟨aH,cB,h⟩:=aq.cf h
  refine ah.iN (fS.jF 1 rfl Oq (Kg cB) ⟨ab rfl,ab rfl,trivial⟩) rfl rfl rfl ?_
  refine aC ?_
  refine hc ?_
  refine hc ?_
  refine dJ h3 fun a2=> ?_
  refine cY 0 cI ?_
  refine aO ?_
  refine b5 ?_
  refine aC ?_
  refine aM ?_
  refine ai.cond (ab rfl) (fun ak=> ?_) (fun ak=> ?_)
  ·replace h:=kE ak h
   refine aE ?_
   refine aO ?_
   refine aO ?_
   refine aM ?_
   refine ai.ret ?_
   refine ae.ret ?_
   exact ae.kl (⟨⟨(0,17,hp),h⟩,()⟩: {r // _} × _) (.cons _ (.cons _ (.refl _))) rfl rfl (dH rfl) (dH rfl)
  ·replace h:=kF ak h
   refine c4 ?_
   refine ai.seq ?_
   refine ai.seq ?_
   obtain⟨bn,fF,h⟩:=aq.cf h
   obtain⟨bD,gL,h⟩:=aq.cf h
   refine j8 [0,1,2,4,6,7,8,9,10,12,13,14,15,16,17,18,19,20,21,22,23,24] ?_
   refine ai.uR 2 mixed (bk 25 [] [] _ :: ⟨some 26,(0 :: []),[],[],fun _=>I.of (bn),fun _ _=>⟨none,.dead⟩⟩ :: bk 27 [] [] _ :: bk 28 [] [] _ :: bk 29 (3 :: []) (1 :: []) _ :: ⟨some 30,(2 :: 4 :: []),[],[],fun _=>I.of (bD),fun _ _=>⟨none,.dead⟩⟩ :: bk 31 (1 :: 5 :: []) [] _ :: []) _ (0 :: 1 :: 2 :: 4 :: 6 :: 7 :: 8 :: 9 :: 10 :: 12 :: 13 :: 14 :: 15 :: 16 :: 17 :: 18 :: 19 :: 20 :: 21 :: 22 :: 23 :: 24 :: []) rfl rfl (by kernel_rfl) (by kernel_rfl) ⟨c3.q (fg),?_,c3.q (fg),c3.q (fx (aX oz)),c3.q (py 1 mV bK),?_,c3.q (tt mx),trivial⟩ fun eZ=> ?_
   ·intro hd E' L' aD an dK
    refine ah.iN (fS.jF 2 (dK.trans rfl) Yx (Re fF) ⟨ab (aD _ _ rfl),trivial⟩) rfl rfl rfl ?_
    refine ah.nil ?_
    exact ae.fin (eP []) rfl rfl
   ·intro hd E' L' aD an dK
    refine ah.iN (fS.jF 2 (dK.trans rfl) Yy (Q8 gL) ⟨ab (aD _ _ rfl),ab (aD _ _ rfl),trivial⟩) rfl rfl rfl ?_
    refine ah.nil ?_
    exact ae.fin (eP []) rfl rfl
   refine ae.eo (L2:=(⟨some a2,.var (aH.1:aw)⟩ :: ⟨some aW,.var (aj:bh)⟩ :: aV hp)) rfl ?_
   refine kP [0,1,2,4,6,7,8,9,10,12,13,14,15,16,17,18,19,20,21,22,23,24,25,26,27,28,29,30,31] ?_
   refine ae.next ?_
   refine ai.cond (ab rfl) (fun ak=> ?_) (fun ak=> ?_)
   ·replace h:=kE ak h
    refine aE ?_
    refine aO ?_
    refine aO ?_
    refine aM ?_
    refine ai.ret ?_
    refine ae.ret ?_
    exact ae.kl (⟨⟨(0,18,hp),h⟩,()⟩: {r // _} × _) (.cons _ (.cons _ (.refl _))) rfl rfl (dH rfl) (dH rfl)
   ·replace h:=kF ak h
    refine c4 ?_
    refine aE ?_
    refine aC ?_
    obtain⟨b6,c8,h⟩:=aq.cf h
    refine bp (dx (dZ (ab rfl) c8)) ?_
    refine a4 (aX G7) ?_
    obtain⟨bq,dM,h⟩:=aq.cf h
    refine bp (fi ((aQ.id ib).comp Cx) (r:=bq.lx) bK (ab rfl) (ep (n:=2) rfl (nK dM) rfl) rfl rfl) ?_
    refine aO ?_
    refine b5 ?_
    refine aC ?_
    refine cR 1 fP ?_
    refine aC ?_
    refine aC ?_
    obtain⟨bL,dS,h⟩:=aq.cf h
    refine dD dS (cW (b:= { bV:=aj,cu:=bq.lx,mr:=aT:aw }) rfl AT h3 (.cons lr rfl (ab rfl) rfl (.cons mU rfl (ab rfl) rfl (.cons FE rfl (ab rfl) rfl (.nil))))) ?_
    refine ah.h1 2 0 rfl Yz (Rh h) rfl rfl ⟨ab rfl,ab rfl,trivial⟩ rfl fun⟨⟨b0,h⟩,ax⟩=> ?_
    refine ah.eo (L2:=(⟨some a2,.var (aH.1:aw)⟩ :: ⟨some aW,.var (aj:bh)⟩ :: aV b0.2)) rfl ?_
    refine b5 ?_
    refine aC ?_
    refine bp (dx (dZ (ab rfl) c8)) ?_
    refine a4 (aX G7) ?_
    obtain⟨cg,e4,h⟩:=aq.cf h
    refine bp (fi ((aQ.id ib).comp Cx) (r:=cg.lx) bK (ab rfl) (ep (n:=2) rfl (nK e4) rfl) rfl rfl) ?_
    refine bs dX ?_
    refine bp (dx (dZ (ab rfl) c8)) ?_
    refine a4 (aX G7) ?_
    obtain⟨cw,iG,h⟩:=aq.cf h
    refine ah.mw (k':=Cell.pj ({ cg with lx:=bA (cg.lx + 1) } :ib)) 2 rfl ((aQ.id ib).comp Cx) (v:=(bA (cg.lx + 1):Int)) bK (ab rfl) (ab rfl) (nK e4) rfl rfl rfl rfl (aK iG) ?_
    refine b5 ?_
    refine aC ?_
    refine aO ?_
    refine aO ?_
    refine aM ?_
    refine ai.ret ?_
    exact ae.kl (⟨⟨(bq.lx,0,cw),h⟩,()⟩: {r // _} × _) (.cons _ (.cons _ (.refl _))) rfl rfl (dH rfl) (dH rfl)
theorem RM {hp:aN Cell} {Q:Bool × (aN Cell)→Prop} (h:zd hp Q):bO Tryz.prog 31 [] ([] ++ aV hp) (δ:= {r:Bool × (aN Cell) // Q r} × Unit) (fun d=>I.of (d.1.1.1)) (fun d=> [] ++ aV d.1.1.2):=by
 unfold zd at h
 refine bO.of Tryz.func31 rfl Tryz.ntmps31 rfl fun W A=> ?_
 refine aE ?_
 refine aO ?_
 refine b5 ?_
 obtain⟨aB,bu,h⟩:=aq.cf h
 refine eE 0 Io (Ga bu) fun ax=> ?_
 refine ah.bU 0 rfl ?_
 obtain⟨aH,cB,h⟩:=aq.cf h
 refine eE 1 Ot (Ka cB) fun et=> ?_
 refine ah.h1 1 0 rfl Ou (KG h) rfl rfl ⟨ab rfl,trivial⟩ rfl fun⟨⟨bn,h⟩,cr⟩=> ?_
 refine ah.eo (L2:=(⟨some ax,.var (aH.2:bf)⟩ :: aV bn.2)) rfl ?_
 refine aO ?_
 refine b5 ?_
 refine hl s0 lE ({ (default:bR) with fO:=true } :bR) (iH nC .nil) ?_
 refine hF [({ (default:bR) with fO:=true } :bR)] Tryz.underlying47 fp lE ?_
 obtain⟨bL,dS,h⟩:=aq.cf h
 refine dD dS (cW (b:=({ (default:bh) with bo:=1,cZ:= [({ (default:bR) with fO:=true } :bR)],jm:=1 } :bh)) rfl Od u3 (.cons mV rfl (bN 1) rfl (.cons lu rfl (ab rfl) rfl (.cons tG rfl (bN 1) rfl (.nil))))) ?_
 refine dJ u3 fun aW=> ?_
 refine cY 0 fP ?_
 refine b5 ?_
 refine aC ?_
 refine cR 0 fP ?_
 refine ah.h1 2 0 rfl Ip (FQ h) rfl rfl ⟨ab rfl,ab rfl,bN 1,trivial⟩ rfl fun⟨⟨bD,h⟩,mh⟩=> ?_
 refine ah.eo (L2:=(⟨some aW,.var (bL:bh)⟩ :: ⟨some ax,.var (aH.2:bf)⟩ :: aV bD.2.2)) rfl ?_
 refine aC ?_
 refine hc ?_
 refine hc ?_
 refine aO ?_
 refine aO ?_
 refine b5 ?_
 refine aC ?_
 refine cR 0 fP ?_
 refine ah.h1 2 0 rfl Ov (Kc h) rfl rfl ⟨ab rfl,ab rfl,trivial⟩ rfl fun⟨⟨b0,h⟩,eu⟩=> ?_
 refine ah.eo (L2:=(⟨some aW,.var (bL:bh)⟩ :: ⟨some ax,.var (aH.2:bf)⟩ :: aV b0.2.2)) rfl ?_
 refine aC ?_
 refine hc ?_
 refine hc ?_
 refine dJ h3 fun a2=> ?_
 refine cY 0 cI ?_
 refine aO ?_
 refine b5 ?_
 refine aC ?_
 refine cR 1 fP ?_
 refine ah.h1 3 0 rfl Ip (FQ h) rfl rfl ⟨ab rfl,ab rfl,bN 1,trivial⟩ rfl fun⟨⟨cl,h⟩,lk⟩=> ?_
 refine ah.eo (L2:=(⟨some a2,.var (b0.1:aw)⟩ :: ⟨some aW,.var (bL:bh)⟩ :: ⟨some ax,.var (aH.2:bf)⟩ :: aV cl.2.2)) rfl ?_
 refine aC ?_
 refine hc ?_
 refine hc ?_
 refine aO ?_
 refine aO ?_
 refine b5 ?_
 refine aC ?_
 refine bs gI ?_
 refine aC ?_
 refine dB ch ?_
 refine kO gI ?_
 refine k9 ?_
 refine aC ?_
 refine dB ch ?_
 refine kO gI ?_
 refine k9 ?_
 refine aC ?_
 refine dB ch ?_
 refine kO gI ?_
 refine k9 ?_
 refine aC ?_
 refine dB ch ?_
 refine kO gI ?_
 obtain⟨dF,hR,h⟩:=aq.cf h
 refine dD hR (pc (ab rfl) (ab rfl) (fun h=>h)) ?_
 refine aO ?_
 refine aM ?_
 refine ai.ret ?_
 exact ae.eW (⟨⟨(dF,cl.2.2),h⟩,()⟩: {r // _} × _) (.cons _ (.cons _ (.cons _ (.refl _)))) rfl rfl (dH rfl)
end Go.Proofs.YtmnggbjcnoffeaaGreat
