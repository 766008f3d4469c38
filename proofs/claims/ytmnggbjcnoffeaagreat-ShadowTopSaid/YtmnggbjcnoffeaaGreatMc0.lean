/-
  Each function meets its functional program. Conditions: none.
-/
import Derived.Test.YtmnggbjcnoffeaaGreatMd
namespace Go.Proofs.YtmnggbjcnoffeaaGreat
open Go Gv
set_option linter.unusedVariables false
set_option linter.unusedSimpArgs false
set_option maxRecDepth 100000
set_option maxHeartbeats 2000000
theorem C8 {aa:List (BitVec 8)} {aj:Int} {r:bw} (h:sa aa aj=some r):cz Tryz.prog 15 [I.of (aa),I.of (aj)] [] (δ:=Nat) (fun d=>I.eq (.pointer (some ⟨d,0,none⟩))) (fun d=> [⟨some d,.var (r:bw)⟩]):=by
 unfold sa at h
 refine cz.of Tryz.func15 rfl Tryz.ntmps15 rfl fun W A=> ?_
 refine aD ?_
 refine bp (eG (D8 (.pointer none))) ?_
 refine bS ?_
 refine aB ?_
 refine aB ?_
 refine aW (eJ Tryz.underlying22) ?_
 refine aB ?_
 refine bj xQ ?_
 obtain⟨ak,bB,h⟩:=aw h
 refine bp (Ju Tryz.underlying22 FK (ae rfl) .none (.some (ae rfl)) bB) ?_
 refine g2 Sc Sd ({ (default:bw) with dE:=ak } :bw) (ij Ap .nil) ?_
 refine cd fun aT=> ?_
 refine aQ ?_
 refine aN ?_
 refine ai.ret ?_
 refine ag.b6 0 rfl ?_
 obtain rfl:=aI h
 exact kj aT
theorem NY {aa:bw} {cv:Nat} {r:Bool} (h:Aq aa=some r):cz Tryz.prog 26 [I.eq (.pointer (some ⟨cv,0,none⟩))] [⟨some cv,.var (aa:bw)⟩] (δ:=Unit) (fun d=>I.of (r)) (fun d=> [⟨some cv,.var (aa:bw)⟩]):=by
 unfold Aq at h
 refine cz.of Tryz.func26 rfl Tryz.ntmps26 rfl fun W A=> ?_
 refine aD ?_
 refine aQ ?_
 refine bM ?_
 refine ai.draw mixed 10 [some 3,some 4,some 5,some 6,some 7,some 8,some 9,some 10,some 11,some 12] [[],[0],[1],[2],[],[4],[5],[6],[7],[3,8]] [.val _,.val _,.val _,.val _,.val _,.val _,.val _,.val _,.val _,.val _] [false,false,false,false,false,false,false,false,false,false] (by kernel_rfl) rfl rfl rfl (fun dx=>⟨cW,H1 fw,H1 (a0 xm),ee 0 wk bG,cW,H1 fw,H1 (a0 DK),ee 0 Ap BH,H1 (eJ Tryz.underlying22),mZ dZ,trivial⟩) fun dx=> ?_
 refine aQ ?_
 refine aN ?_
 refine ai.ret ?_
 refine ag.b6 0 rfl ?_
 obtain rfl:=aI h
 exact kj ()
theorem H9 {aa:Int} {aj:Int} {r:Int} (h:qF aa aj=some r):bx Tryz.prog 25 [I.of (aa),I.of (aj)] (I.of (r)):=by
 unfold qF at h
 refine bx.of Tryz.func25 rfl Tryz.ntmps25 rfl fun W A=> ?_
 refine aD ?_
 refine aQ ?_
 refine bM ?_
 refine aD ?_
 refine aB ?_
 refine bj dZ ?_
 refine aN ?_
 refine ck h (fun h=>?_) fun h=>?_
 ·refine aD ?_
  refine aQ ?_
  refine aN ?_
  refine ai.ret ?_
  refine ag.ret ?_
  obtain rfl:=aI h
  exact c9
 ·refine cO ?_
  refine aD ?_
  refine aB ?_
  refine aB ?_
  obtain⟨ak,bB,h⟩:=aw h
  refine bp (xR (ae rfl) (ae rfl) (w6 bB)) ?_
  refine aB ?_
  refine bj dg ?_
  refine aB ?_
  obtain⟨aP,cg,h⟩:=aw h
  refine bp (xR (ae rfl) (ae rfl) (w6 cg)) ?_
  refine aQ ?_
  refine aN ?_
  refine ai.ret ?_
  obtain rfl:=aI h
  exact c9
theorem NM {aa:bN} {aj:Int} {r:Bool} (h:Ag aa aj=some r):bx Tryz.prog 119 [I.of (aa),I.ptr aj] (I.of (r)):=by
 unfold Ag at h
 refine bx.of Tryz.func119 rfl Tryz.ntmps119 rfl fun W A=> ?_
 refine aD ?_
 refine cd fun aT=> ?_
 refine aQ ?_
 refine bS ?_
 refine aW (a0 sr) ?_
 refine b3 0 nO bG ?_
 refine aW (cL bG) ?_
 refine bj gb ?_
 refine aQ ?_
 refine aN ?_
 refine ai.ret ?_
 obtain rfl:=aI h
 exact c9
theorem Nd {aa:List bN} {aj:bN→Option Bool} {r:Int} (h:vV aa aj=some r):bx Tryz.prog 118 [I.of (aa),I.n9 Tryz.prog aj] (I.of (r)):=by
 unfold vV at h
 refine bx.of Tryz.func118 rfl Tryz.ntmps118 rfl fun W A=> ?_
 refine aD ?_
 refine aQ ?_
 refine bM ?_
 refine aD ?_
 refine aB ?_
 refine aW (eJ Tryz.underlying28) ?_
 refine aB ?_
 refine aN ?_
 refine ai.block ?_
 obtain⟨az,aq,h⟩:=aw h
 refine gB (γ:=Unit) (δ:=Unit) aq [0,1,7] (fun s1 ax=> [(4,I.of (0:Int)),(8,I.of (s1))]) (fun s1 ax=> []) (fun aE=>Sum.elim (fun aE=>Exit.exit 0) (fun aE=>Exit.ret) aE) (fun aE ax=>Sum.elim (fun aE=> [(4,I.of (0:Int)),(8,I.of (aE.1)),(9,I.of (aE.2))]) (fun aE=> [(4,I.of (aE.1)),(5,I.of (aE.2.1)),(8,I.of (aE.2.2.1)),(9,I.of (aE.2.2.2.1)),(16,I.of (aE.2.2.2.2))]) aE) (fun aE ax=>Sum.elim (fun aE=> []) (fun aE=> []) aE) () (fun s1 r h ax=> ?_) fun ax=> ?_
 ·clear aq
  refine aD ?_
  refine bj dZ ?_
  refine bM ?_
  refine ck h (fun h=>?_) fun h=>?_
  ·refine cO ?_
   refine ai.seq ?_
   refine ai.block ?_
   refine aD ?_
   refine aB ?_
   refine aQ ?_
   refine bS ?_
   refine aB ?_
   refine aB ?_
   refine aB ?_
   obtain⟨a4,cw,h⟩:=aw h
   refine fL cw Tryz.underlying28 fQ ?_
   refine aW (cL fQ) ?_
   obtain⟨ak,bB,h⟩:=aw h
   refine bp (ux (ae rfl) (ae rfl) bB) ?_
   refine aN ?_
   refine ck h (fun h=>?_) fun h=>?_
   ·refine aD ?_
    refine aB ?_
    refine aQ ?_
    refine aN ?_
    refine ai.ret ?_
    refine ag.eC ?_
    refine ag.ret ?_
    obtain rfl:=aI h
    exact eh () 0
   ·refine ai.skip ?_
    refine ag.ea ?_
    refine ag.next ?_
    refine ai.cl ?_
    refine bj dg ?_
    refine aB ?_
    refine ah.nil ?_
    obtain rfl:=aI h
    exact fo () 0
  ·refine ai.exit ?_
   refine ag.exit ?_
   obtain rfl:=aI h
   exact eh () 0
 ·clear aq
  rcases az with az | az
  ·simp only [Sum.elim_inl] at h
   refine ag.fe ?_
   refine ag.next ?_
   refine aD ?_
   refine aQ ?_
   refine aN ?_
   refine ai.ret ?_
   obtain rfl:=aI h
   exact c9
  ·simp only [Sum.elim_inr] at h
   refine ag.eC ?_
   refine ag.ret ?_
   obtain rfl:=aI h
   exact c9
theorem Oq {aa:bN} {r:Int × Int} (h:ub aa=some r):bx Tryz.prog 83 [I.of (aa)] (I.cF [I.of (r.1),I.of (r.2)]):=by
 unfold ub at h
 refine bx.of Tryz.func83 rfl Tryz.ntmps83 rfl fun W A=> ?_
 refine aD ?_
 refine cd fun aT=> ?_
 refine aQ ?_
 refine aQ ?_
 refine bS ?_
 refine aQ ?_
 refine aQ ?_
 refine bM ?_
 refine aD ?_
 refine aW (a0 kc) ?_
 refine b3 0 iM jT ?_
 refine aW (eJ Tryz.underlying62) ?_
 refine aB ?_
 refine aN ?_
 refine ai.block ?_
 obtain⟨az,aq,h⟩:=aw h
 refine gB (γ:=Unit) (δ:=Unit) aq [0,1,2,3,9,10] (fun s1 ax=> [(4,I.of (s1.1)),(5,I.of (s1.2.1)),(11,I.of (s1.2.2))]) (fun s1 ax=> []) (fun aE=>Exit.exit 0) (fun aE ax=> [(4,I.of (aE.1)),(5,I.of (aE.2.1)),(11,I.of (aE.2.2.1)),(12,I.of (aE.2.2.2))]) (fun aE ax=> []) () (fun s1 r h ax=> ?_) fun ax=> ?_
 ·clear aq
  refine aD ?_
  refine bj dZ ?_
  refine bM ?_
  refine ck h (fun h=>?_) fun h=>?_
  ·refine cO ?_
   refine ai.seq ?_
   refine ai.block ?_
   refine aD ?_
   refine aB ?_
   obtain⟨a4,cw,h⟩:=aw h
   refine fL cw Tryz.underlying62 hS ?_
   refine aW (cL hS) ?_
   refine cG iB fun a7=> ?_
   refine aQ ?_
   refine ca 0 hS ?_
   refine bS ?_
   refine aW (a0 pB) ?_
   refine b3 0 ka bG ?_
   refine aN ?_
   refine ai.block ?_
   refine aD ?_
   refine bj gb ?_
   refine aQ ?_
   refine aN ?_
   obtain⟨bO,cM,h⟩:=aw h
   refine jd (γ:=Unit) [0,1,2,3,6,7,9,10,11,12,17,18] (fun a1=> [(4,I.of (bO.1)),(5,I.of (bO.2))]) (fun a1=> []) (fun a1=> ?_) (fun hm ar=> ?_) fun hm ar=> ?_
   ·clear cM
    refine ag.ea ?_
    refine ag.ea ?_
    refine ag.next ?_
    refine ai.cl ?_
    refine bj dg ?_
    refine aB ?_
    refine ah.nil ?_
    obtain rfl:=aI h
    exact fo () 1
   ·have h:=ht ar cM
    refine ai.skip ?_
    obtain rfl:=aI h
    exact dI 0 (hm ())
   ·have h:=hv ar cM
    refine aD ?_
    refine bj gb ?_
    refine aQ ?_
    refine aN ?_
    obtain⟨cD,dS,h⟩:=aw h
    refine jd (γ:=Unit) [0,1,2,3,6,7,9,10,11,12,17,18,20] (fun br=> [(4,I.of (cD.1)),(5,I.of (cD.2))]) (fun br=> []) (fun br=> ?_) (fun hm ar=> ?_) fun hm ar=> ?_
    ·clear dS
     obtain rfl:=aI h
     exact dI 0 (hm ())
    ·have h:=ht ar dS
     refine ai.cl ?_
     refine aB ?_
     refine bj Bk ?_
     refine aB ?_
     refine aQ ?_
     refine aQ ?_
     refine ah.nil ?_
     obtain rfl:=aI h
     exact dI 0 (hm ())
    ·have h:=hv ar dS
     refine ai.cl ?_
     refine aQ ?_
     refine ah.nil ?_
     obtain rfl:=aI h
     exact dI 0 (hm ())
  ·refine ai.exit ?_
   refine ag.exit ?_
   obtain rfl:=aI h
   exact eh () 0
 ·clear aq
  refine ag.fe ?_
  refine ag.next ?_
  refine aD ?_
  refine aB ?_
  refine aB ?_
  refine aQ ?_
  refine aQ ?_
  refine aN ?_
  refine ai.ret ?_
  obtain rfl:=aI h
  exact s3
theorem OV {hp:bb Cell} {Q:Ref × (bb Cell)→Prop} (h:AG hp Q):cz Tryz.prog 84 [] ([] ++ bd hp) (δ:= {r:Ref × (bb Cell) // Q r} × Unit) (fun d=>I.of (d.1.1.1)) (fun d=> [] ++ bd d.1.1.2):=by
 unfold AG at h
 refine cz.of Tryz.func84 rfl Tryz.ntmps84 rfl fun W A=> ?_
 refine aD ?_
 refine bp (eG (qG)) ?_
 refine bS ?_
 refine ah.D9 (α:=Vector ao 4) (β:=Int) 0 rfl (Cell.n5 ([]:List ((Vector ao 4) × Int))) (fun _=>rfl) rfl fun eg s4=> ?_
 replace h:=aG.qT h eg s4
 refine g2 Se Sf { nY:=(⟨some eg.1⟩:fR):lU } (ij Ac .nil) ?_
 refine ah.yl 0 rfl (Cell.ve ({ nY:=(⟨some eg.1⟩:fR):lU })) (fun _=>rfl) (ae rfl) rfl fun ei yV=> ?_
 replace h:=aG.qT h ei yV
 refine aQ ?_
 refine aN ?_
 refine ai.ret ?_
 exact ag.gR (⟨⟨((some ei.1:Ref),ei.2),h⟩,()⟩: {r // _} × _) (.refl _) rfl rfl (fP rfl)
theorem NN {aa:eS} {aj:Int} {r:Bool} (h:Ah aa aj=some r):bx Tryz.prog 121 [I.of (aa),I.ptr aj] (I.of (r)):=by
 unfold Ah at h
 refine bx.of Tryz.func121 rfl Tryz.ntmps121 rfl fun W A=> ?_
 refine aD ?_
 refine cd fun aT=> ?_
 refine aQ ?_
 refine bS ?_
 refine aW (a0 DL) ?_
 refine b3 0 m9 bG ?_
 refine aW (cL bG) ?_
 refine bj gb ?_
 refine aQ ?_
 refine aN ?_
 refine ai.ret ?_
 obtain rfl:=aI h
 exact c9
end Go.Proofs.YtmnggbjcnoffeaaGreat
namespace Go.Proofs.YtmnggbjcnoffeaaGreat
open Go Gv
set_option linter.unusedVariables false
set_option linter.unusedSimpArgs false
set_option maxRecDepth 100000
set_option maxHeartbeats 2000000
theorem AH {aa:ao} {aj:ao} {r:ao} (h:qH aa aj=some r):bx Tryz.prog 193 [I.of (aa),I.of (aj)] (I.of (r)):=by
 unfold qH at h
 refine bx.of Tryz.func193 rfl Tryz.ntmps193 rfl fun W A=> ?_
 refine aD ?_
 refine cd fun aT=> ?_
 refine cd fun a7=> ?_
 refine cG dP fun bU=> ?_
 refine bS ?_
 refine aW (a0 nh) ?_
 refine b3 2 ia fH ?_
 refine aW (a0 nh) ?_
 refine b3 1 ia fH ?_
 refine bj Jv ?_
 refine aW (a0 jP) ?_
 refine b3 2 ev fH ?_
 refine aW (a0 jP) ?_
 refine b3 1 ev fH ?_
 refine bj Jv ?_
 obtain⟨bk,dc,h⟩:=aw h
 refine cZ dc (cC (b:= { dD:=aa.dD ^^^ aj.dD,bY:=aa.bY ^^^ aj.bY:ao }) rfl gS dP (.cons ia rfl (ae rfl) rfl (.cons ev rfl (ae rfl) rfl (.nil)))) ?_
 refine ca 0 bT ?_
 refine aN ?_
 refine ai.ret ?_
 obtain rfl:=aI h
 exact ag.gG rfl (eL 0 bT)
theorem pr {aa:ao} {aj:ao} {r:ao} (h:my aa aj=some r):bx Tryz.prog 148 [I.of (aa),I.of (aj)] (I.of (r)):=by
 unfold my at h
 refine bx.of Tryz.func148 rfl Tryz.ntmps148 rfl fun W A=> ?_
 refine aD ?_
 refine cd fun aT=> ?_
 refine cd fun a7=> ?_
 refine cG dP fun bU=> ?_
 refine bS ?_
 refine aW (a0 nh) ?_
 refine b3 2 ia fH ?_
 refine aW (a0 nh) ?_
 refine b3 1 ia fH ?_
 refine bj si ?_
 refine aW (a0 jP) ?_
 refine b3 2 ev fH ?_
 refine aW (a0 jP) ?_
 refine b3 1 ev fH ?_
 refine bj si ?_
 obtain⟨bk,dc,h⟩:=aw h
 refine cZ dc (cC (b:= { dD:=aa.dD &&& aj.dD,bY:=aa.bY &&& aj.bY:ao }) rfl gS dP (.cons ia rfl (ae rfl) rfl (.cons ev rfl (ae rfl) rfl (.nil)))) ?_
 refine ca 0 bT ?_
 refine aN ?_
 refine ai.ret ?_
 obtain rfl:=aI h
 exact ag.gG rfl (eL 0 bT)
theorem HG {aa:Ref} {aj:ao} {aR:Int} {r:Int × ao × Ref} (h:Ay aa aj aR=some r):bx Tryz.prog 250 [I.of (aa),I.of (aj),I.of (aR)] (I.gT 255 [I.ptr r.1,I.ptr r.2.1,I.ptr r.2.2]):=by
 unfold Ay at h
 refine bx.of Tryz.func250 rfl Tryz.ntmps250 rfl fun W A=> ?_
 refine aD ?_
 refine cd fun aT=> ?_
 refine cd fun a7=> ?_
 refine cd fun bU=> ?_
 refine bp (eG (D8 .nilFunc)) ?_
 refine bS ?_
 refine ah.share (α:=Int) 0 5 rfl rfl ?_
 refine ah.share (α:=ao) 1 4 rfl rfl ?_
 refine ah.share (α:=Ref) 2 3 rfl rfl ?_
 refine bp (KF (f:=255) (τs:= [I.ptr aR,I.ptr aj,I.ptr aa]) ⟨ae rfl,ae rfl,ae rfl,trivial⟩) ?_
 refine aQ ?_
 refine aN ?_
 refine ai.ret ?_
 obtain rfl:=aI h
 exact c9
theorem Nj {aa:List ch} {r:(List ch)} (h:z1 aa=some r):bx Tryz.prog 161 [I.of (aa)] (I.of (r)):=by
 unfold z1 at h
 refine bx.of Tryz.func161 rfl Tryz.ntmps161 rfl fun W A=> ?_
 refine aD ?_
 refine bp (eG (look_nil (α:=ch))) ?_
 refine bM ?_
 refine aD ?_
 refine aB ?_
 refine bp (Ex Tryz.underlying47 (ae rfl)) ?_
 refine aN ?_
 refine ai.Ey (ae rfl) (fun an=> ?_) ?_
 ·subst an; replace h:=Dk h; subst h
  have h:some ([]:List ch)=some []:=rfl
  refine aD ?_
  refine bp (eG (look_nil (α:=ch))) ?_
  refine aN ?_
  refine ai.ret ?_
  refine ag.ret ?_
  replace h:=aI h
  clear h
  exact c9
 ·refine cO ?_
  refine aD ?_
  refine ah.oT (α:=ch) (r:=([]:List ch)) Tryz.underlying47 gA lx rfl rfl (.nil) rfl fun gH=> ?_
  refine aB ?_
  obtain⟨ak,bB,h⟩:=aw h
  refine je 0 Tryz.underlying47 gA lx bB fun jx eU=> ?_
  refine aQ ?_
  refine aN ?_
  refine ai.ret ?_
  refine ag.kV (α:=ch) 0 [2,7] ⟨rfl,rfl,trivial⟩ rfl ?_
  obtain rfl:=aI h
  exact c9
theorem Nk {aa:List ao} {r:(List ao)} (h:z2 aa=some r):bx Tryz.prog 162 [I.of (aa)] (I.of (r)):=by
 unfold z2 at h
 refine bx.of Tryz.func162 rfl Tryz.ntmps162 rfl fun W A=> ?_
 refine aD ?_
 refine bp (eG (look_nil (α:=ao))) ?_
 refine bM ?_
 refine aD ?_
 refine aB ?_
 refine bp (Ex Tryz.underlying48 (ae rfl)) ?_
 refine aN ?_
 refine ai.Ey (ae rfl) (fun an=> ?_) ?_
 ·subst an; replace h:=Dk h; subst h
  have h:some ([]:List ao)=some []:=rfl
  refine aD ?_
  refine bp (eG (look_nil (α:=ao))) ?_
  refine aN ?_
  refine ai.ret ?_
  refine ag.ret ?_
  replace h:=aI h
  clear h
  exact c9
 ·refine cO ?_
  refine aD ?_
  refine ah.oT (α:=ao) (r:=([]:List ao)) Tryz.underlying48 bT dP rfl rfl (.nil) rfl fun gH=> ?_
  refine aB ?_
  obtain⟨ak,bB,h⟩:=aw h
  refine je 0 Tryz.underlying48 bT dP bB fun jx eU=> ?_
  refine aQ ?_
  refine aN ?_
  refine ai.ret ?_
  refine ag.kV (α:=ao) 0 [2,7] ⟨rfl,rfl,trivial⟩ rfl ?_
  obtain rfl:=aI h
  exact c9
theorem Nl {aa:List ch} {aj:List ch} {r:Bool} (h:vX aa aj=some r):bx Tryz.prog 270 [I.of (aa),I.of (aj)] (I.of (r)):=by
 unfold vX at h
 refine bx.of Tryz.func270 rfl Tryz.ntmps270 rfl fun W A=> ?_
 refine aD ?_
 refine aQ ?_
 refine bM ?_
 refine aD ?_
 refine aB ?_
 refine aW (eJ Tryz.underlying47) ?_
 refine aB ?_
 refine aW (eJ Tryz.underlying47) ?_
 refine bj sC ?_
 refine aN ?_
 refine ck h (fun h=>?_) fun h=>?_
 ·refine aD ?_
  refine aQ ?_
  refine aN ?_
  refine ai.ret ?_
  refine ag.ret ?_
  obtain rfl:=aI h
  exact c9
 ·refine cO ?_
  refine ai.seq ?_
  refine aD ?_
  refine aB ?_
  refine aW (eJ Tryz.underlying47) ?_
  refine aB ?_
  refine aN ?_
  refine ai.block ?_
  obtain⟨az,aq,h⟩:=aw h
  refine gB (γ:=Unit) (δ:=Unit) aq [0,1,4,10,12] (fun s1 ax=> [(13,I.of (s1))]) (fun s1 ax=> []) (fun aE=>Sum.elim (fun aE=>Exit.exit 0) (fun aE=>Exit.ret) aE) (fun aE ax=>Sum.elim (fun aE=> [(13,I.of (aE.1)),(14,I.of (aE.2))]) (fun aE=> [(5,I.of (aE.1)),(13,I.of (aE.2.1)),(14,I.of (aE.2.2.1)),(24,I.of (aE.2.2.2))]) aE) (fun aE ax=>Sum.elim (fun aE=> []) (fun aE=> []) aE) () (fun s1 r h ax=> ?_) fun ax=> ?_
  ·clear aq
   refine aD ?_
   refine bj dZ ?_
   refine bM ?_
   refine ck h (fun h=>?_) fun h=>?_
   ·refine cO ?_
    refine ai.seq ?_
    refine ai.block ?_
    refine aD ?_
    refine aB ?_
    refine aQ ?_
    refine bM ?_
    obtain⟨a4,cw,h⟩:=aw h
    obtain⟨bZ,c7,h⟩:=aw h
    refine ai.draw mixed 9 [some 16,some 17,some 18,some 19,some 20,some 21,some 22,some 23,some 24] [[],[],[0,1],[2],[],[],[4,5],[6],[3,7]] [.val _,.val _,.val _,.val _,.val _,.val _,.val _,.val _,.val _] [false,false,false,false,false,false,false,false,false] (by kernel_rfl) rfl rfl rfl (fun dx=>⟨cW,cW,mg cw Tryz.underlying47 gA,H1 (cL gA),cW,cW,mg c7 Tryz.underlying47 gA,H1 (cL gA),mZ (Ez Sg rfl Sh rfl),trivial⟩) fun dx=> ?_
    refine aN ?_
    refine ck h (fun h=>?_) fun h=>?_
    ·refine aD ?_
     refine aQ ?_
     refine aN ?_
     refine ai.ret ?_
     refine ag.eC ?_
     refine ag.ret ?_
     obtain rfl:=aI h
     exact eh () 0
    ·refine ai.skip ?_
     refine ag.ea ?_
     refine ag.next ?_
     refine ai.cl ?_
     refine bj dg ?_
     refine aB ?_
     refine ah.nil ?_
     obtain rfl:=aI h
     exact fo () 0
   ·refine ai.exit ?_
    refine ag.exit ?_
    obtain rfl:=aI h
    exact eh () 0
  ·clear aq
   rcases az with az | az
   ·simp only [Sum.elim_inl] at h
    refine ag.fe ?_
    refine ag.next ?_
    refine aD ?_
    refine aQ ?_
    refine aN ?_
    refine ai.ret ?_
    obtain rfl:=aI h
    exact c9
   ·simp only [Sum.elim_inr] at h
    refine ag.eC ?_
    refine ag.ret ?_
    obtain rfl:=aI h
    exact c9
theorem N2 {hp:bb Cell} {aa:Ref} {aj:Vector ao 4} {aR:Int} {r:Bool × (bb Cell)} (h:Av hp aa aj aR=some r):cz Tryz.prog 233 [I.of (aa),I.of (aj),I.of (aR)] ([] ++ bd hp) (δ:=Unit) (fun d=>I.of (r.1)) (fun d=> [] ++ bd r.2):=by
 unfold Av at h
 refine cz.of Tryz.func233 rfl Tryz.ntmps233 rfl fun W A=> ?_
 refine aD ?_
 refine cd fun aT=> ?_
 refine aQ ?_
 refine bM ?_
 refine aD ?_
 refine aB ?_
 refine bp (qN Tryz.underlying163 (ae rfl)) ?_
 refine aN ?_
 refine ck h (fun h=>?_) fun h=>?_
 ·refine aD ?_
  refine aQ ?_
  refine aN ?_
  refine ai.ret ?_
  refine ag.ret ?_
  obtain rfl:=aI h
  exact ag.gR () (.cons _ (.refl _)) rfl rfl (fP rfl)
 ·refine cO ?_
  refine ai.seq ?_
  refine ai.seq ?_
  obtain⟨dK,fz,h⟩:=aw h
  obtain⟨cK,hg,h⟩:=aw h
  obtain⟨cB,g3,h⟩:=aw h
  obtain⟨dL,ik,h⟩:=aw h
  obtain⟨bk,dc,h⟩:=aw h
  refine ai.draw mixed 10 [some 12,some 13,some 14,some 15,some 16,some 17,some 11,some 18,some 19,some 7] [[],[0],[1],[2],[],[3,4],[5],[6],[6],[7]] [.val _,.val _,.val _,.val _,.val _,.val _,.val _,.val _,.val _,.val _] [false,false,false,false,false,false,false,false,false,false] (by kernel_rfl) rfl rfl rfl (fun dx=>⟨cW,dT fun ay au=>fw (gQ (ae rfl) fz),H1 (a0 DM),dT fun ay au=>jt ((aL.id lU).comp Ac) (r:=cK.nY) Bl (ae rfl) (nw (fun i e q=>au i e q rfl) (h4 (n:=1) rfl (uH hg) rfl)) rfl rfl,fA 0 fI,dT fun ay au=>Du (r:=bk) Tryz.underlying222 EA hy (pv (ae rfl) g3) (ae rfl) (nw (fun i e q=>au i e q rfl) (h4 (n:=1) rfl (ss ik) rfl)) (aI dc),cW,rr,rr,GV,trivial⟩) fun dx=> ?_
  refine aQ ?_
  refine bS ?_
  refine aB ?_
  refine aN ?_
  refine ck h (fun h=>?_) fun h=>?_
  ·refine aD ?_
   refine aQ ?_
   refine aN ?_
   refine ai.ret ?_
   refine ag.ret ?_
   obtain rfl:=aI h
   exact ag.gR () (.cons _ (.refl _)) rfl rfl (fP rfl)
  ·refine cO ?_
   refine ai.seq ?_
   refine ai.draw mixed 6 [some 21,some 22,some 23,some 24,some 25,some 26] [[],[0],[1],[2],[],[]] [.val _,.val _,.val _,.val _,.val _,.val _] [false,false,false,false,false,false] (by kernel_rfl) rfl rfl rfl (fun il=>⟨cW,dT fun ay au=>fw (gQ (ae rfl) fz),H1 (a0 DM),dT fun ay au=>jt ((aL.id lU).comp Ac) (r:=cK.nY) Bl (ae rfl) (nw (fun i e q=>au i e q rfl) (h4 (n:=1) rfl (uH hg) rfl)) rfl rfl,fA 0 fI,cW,trivial⟩) fun il=> ?_
   obtain⟨dy,n6,h⟩:=aw h
   refine ah.EB (k':=Cell.n5 (fS dL aj aR)) 1 rfl (by first | exact .inl rfl | exact .inr rfl) Tryz.underlying222 EA (pv (ae rfl) g3) (ae rfl) (ae rfl) (ss ik) rfl rfl rfl (aI n6) ?_
   refine bS ?_
   refine aQ ?_
   refine aN ?_
   refine ai.ret ?_
   obtain rfl:=aI h
   exact ag.gR () (.cons _ (.refl _)) rfl rfl (fP rfl)
end Go.Proofs.YtmnggbjcnoffeaaGreat
namespace Go.Proofs.YtmnggbjcnoffeaaGreat
open Go Gv
set_option linter.unusedVariables false
set_option linter.unusedSimpArgs false
set_option maxRecDepth 100000
set_option maxHeartbeats 2000000
end Go.Proofs.YtmnggbjcnoffeaaGreat
namespace Go.Proofs.YtmnggbjcnoffeaaGreat
open Go Gv
set_option linter.unusedVariables false
set_option linter.unusedSimpArgs false
set_option maxRecDepth 100000
set_option maxHeartbeats 2000000
theorem N9 {aa:a3} {aj:Int} {r:dp} (h:wG aa aj=some r):bx Tryz.prog 76 [I.of (aa),I.of (aj)] (I.of (r)):=by
 unfold wG at h
 refine bx.of Tryz.func76 rfl Tryz.ntmps76 rfl fun W A=> ?_
 refine aD ?_
 refine cd fun aT=> ?_
 refine cG nZ fun a7=> ?_
 refine bM ?_
 refine aD ?_
 refine aW (a0 Ea) ?_
 refine b3 1 CF BI ?_
 refine aW (eJ Tryz.underlying27) ?_
 refine aB ?_
 refine aN ?_
 refine ai.block ?_
 obtain⟨az,aq,h⟩:=aw h
 refine gB (γ:=Unit) (δ:=Unit) aq [0,1,2,4,8,9] (fun s1 ax=> [(10,I.of (s1))]) (fun s1 ax=> []) (fun aE=>Sum.elim (fun aE=>Exit.exit 0) (fun aE=>Exit.ret) aE) (fun aE ax=>Sum.elim (fun aE=> [(10,I.of (aE.1)),(11,I.of (aE.2))]) (fun aE=> [(10,I.of (aE.1)),(11,I.of (aE.2.1)),(17,I.of (aE.2.2.1))]) aE) (fun aE ax=>Sum.elim (fun aE=> []) (fun aE=> [(0,⟨some a7,.var (aE.2.2.2:dp)⟩)]) aE) () (fun s1 r h ax=> ?_) fun ax=> ?_
 ·clear aq
  refine aD ?_
  refine bj dZ ?_
  refine bM ?_
  refine ck h (fun h=>?_) fun h=>?_
  ·refine cO ?_
   refine ai.seq ?_
   refine ai.block ?_
   refine aD ?_
   obtain⟨a4,cw,h⟩:=aw h
   refine fL cw Tryz.underlying27 l4 ?_
   refine aW (cL l4) ?_
   refine cG nZ fun bU=> ?_
   refine ca 0 l4 ?_
   refine bS ?_
   refine aW (a0 Jw) ?_
   refine b3 0 qA bG ?_
   refine aB ?_
   refine bj gb ?_
   refine aN ?_
   refine ck h (fun h=>?_) fun h=>?_
   ·refine aD ?_
    refine cc 0 l4 ?_
    refine ca 1 l4 ?_
    refine aN ?_
    refine ai.ret ?_
    refine ag.eC ?_
    refine ag.ret ?_
    obtain rfl:=aI h
    exact eh () 1
   ·refine ai.skip ?_
    refine ag.ea ?_
    refine ag.next ?_
    refine ai.cl ?_
    refine bj dg ?_
    refine aB ?_
    refine ah.nil ?_
    obtain rfl:=aI h
    exact fo () 1
  ·refine ai.exit ?_
   refine ag.exit ?_
   obtain rfl:=aI h
   exact eh () 0
 ·clear aq
  rcases az with az | az
  ·simp only [Sum.elim_inl] at h
   refine ag.fe ?_
   refine ag.next ?_
   refine aD ?_
   refine g2 sD nZ (default:dp) .nil ?_
   refine ca 0 l4 ?_
   refine aN ?_
   refine ai.ret ?_
   obtain rfl:=aI h
   exact ag.gG rfl (eL 0 l4)
  ·simp only [Sum.elim_inr] at h
   refine ag.eC ?_
   refine ag.ret ?_
   obtain rfl:=aI h
   exact ag.gG rfl (eL 0 l4)
theorem C5 {aa:bE} {r:(Vector ao 4)} (h:r6 aa=some r):bx Tryz.prog 232 [I.of (aa)] (I.of (r)):=by
 unfold r6 at h
 refine bx.of Tryz.func232 rfl Tryz.ntmps232 rfl fun W A=> ?_
 refine aD ?_
 refine cd fun aT=> ?_
 refine cG pW fun a7=> ?_
 refine bS ?_
 refine cG pW fun bU=> ?_
 refine bM ?_
 refine aD ?_
 refine aW (a0 kD) ?_
 refine b3 2 jM kg ?_
 refine aW (a0 kD) ?_
 refine b3 2 jM kg ?_
 refine aW (eJ Tryz.underlying47) ?_
 refine bj xQ ?_
 obtain⟨ak,bB,h⟩:=aw h
 refine bp (Ju Tryz.underlying47 gA (ae rfl) .none (.some (ae rfl)) bB) ?_
 refine aW (eJ Tryz.underlying47) ?_
 refine aB ?_
 refine aN ?_
 refine ai.block ?_
 obtain⟨az,aq,h⟩:=aw h
 refine gB (γ:=Unit) (δ:=Unit) aq [0,1,2,3,12,13] (fun s1 ax=> [(14,I.of (s1.1))]) (fun s1 ax=> [(0,⟨some bU,.var (s1.2:Vector ao 4)⟩)]) (fun aE=>Exit.exit 0) (fun aE ax=> [(14,I.of (aE.1)),(15,I.of (aE.2.1))]) (fun aE ax=> [(0,⟨some bU,.var (aE.2.2:Vector ao 4)⟩)]) () (fun s1 r h ax=> ?_) fun ax=> ?_
 ·clear aq
  refine aD ?_
  refine bj dZ ?_
  refine bM ?_
  refine ck h (fun h=>?_) fun h=>?_
  ·refine cO ?_
   refine ai.seq ?_
   refine ai.block ?_
   refine aD ?_
   refine aB ?_
   obtain⟨a4,cw,h⟩:=aw h
   refine fL cw Tryz.underlying47 gA ?_
   refine aW (cL gA) ?_
   refine cG lx fun cR=> ?_
   refine aQ ?_
   refine ca 0 gA ?_
   refine aN ?_
   refine ai.cl ?_
   refine aB ?_
   refine aW (a0 J6) ?_
   refine b3 0 qz bT ?_
   obtain⟨bZ,c7,h⟩:=aw h
   refine bp (eV (k:=bZ) g1 (ae rfl) (ae rfl) (cu c7)) ?_
   refine nB 1 ((aL.id (Vector ao 4)).comp (aL.idx (α:=ao) 4 bZ (cu c7).1)) bT ?_
   refine ah.nil ?_
   refine ag.ea ?_
   refine ag.next ?_
   refine ai.cl ?_
   refine bj dg ?_
   refine aB ?_
   refine ah.nil ?_
   obtain rfl:=aI h
   exact fo () 1
  ·refine ai.exit ?_
   refine ag.exit ?_
   obtain rfl:=aI h
   exact eh () 0
 ·clear aq
  refine ag.fe ?_
  refine ag.next ?_
  refine aD ?_
  refine cc 0 fI ?_
  refine ca 1 fI ?_
  refine aN ?_
  refine ai.ret ?_
  obtain rfl:=aI h
  exact ag.gG rfl (eL 1 fI)
theorem N3 {hp:bb Cell} {aa:Ref} {aj:Vector ao 4} {r:Int × Bool} (h:Aw hp aa aj=some r):cz Tryz.prog 231 [I.of (aa),I.of (aj)] ([] ++ bd hp) (δ:=Unit) (fun _=>I.cF [I.of (r.1),I.of (r.2)]) (fun _=> [] ++ bd hp):=by
 unfold Aw at h
 refine cz.of Tryz.func231 rfl Tryz.ntmps231 rfl fun W A=> ?_
 refine aD ?_
 refine cd fun aT=> ?_
 refine aQ ?_
 refine aQ ?_
 refine bM ?_
 refine aD ?_
 refine aB ?_
 refine bp (qN Tryz.underlying163 (ae rfl)) ?_
 refine aN ?_
 refine ck h (fun h=>?_) fun h=>?_
 ·refine aD ?_
  refine aQ ?_
  refine aQ ?_
  refine aN ?_
  refine ai.ret ?_
  refine ag.ret ?_
  obtain rfl:=aI h
  exact ag.pM () (.cons _ (.refl _)) rfl rfl (fP rfl) (fP rfl)
 ·refine cO ?_
  refine ai.seq ?_
  obtain⟨dK,fz,h⟩:=aw h
  obtain⟨cK,hg,h⟩:=aw h
  obtain⟨cB,g3,h⟩:=aw h
  obtain⟨dL,ik,h⟩:=aw h
  obtain⟨bk,dc,h⟩:=aw h
  refine ai.draw mixed 10 [some 11,some 12,some 13,some 14,some 15,some 16,some 10,some 17,some 18,some 6] [[],[0],[1],[2],[],[3,4],[5],[6],[6],[7]] [.val _,.val _,.val _,.val _,.val _,.val _,.val _,.val _,.val _,.val _] [false,false,false,false,false,false,false,false,false,false] (by kernel_rfl) rfl rfl rfl (fun dx=>⟨cW,dT fun ay au=>fw (gQ (ae rfl) fz),H1 (a0 DM),dT fun ay au=>jt ((aL.id lU).comp Ac) (r:=cK.nY) Bl (ae rfl) (nw (fun i e q=>au i e q rfl) (h4 (n:=1) rfl (uH hg) rfl)) rfl rfl,fA 0 fI,dT fun ay au=>Du (r:=bk) Tryz.underlying222 EA hy (pv (ae rfl) g3) (ae rfl) (nw (fun i e q=>au i e q rfl) (h4 (n:=1) rfl (ss ik) rfl)) (aI dc),cW,rr,rr,GV,trivial⟩) fun dx=> ?_
  refine aQ ?_
  refine bS ?_
  refine aB ?_
  refine aB ?_
  refine aQ ?_
  refine aQ ?_
  refine aN ?_
  refine ai.ret ?_
  obtain rfl:=aI h
  exact ag.pM () (.cons _ (.refl _)) rfl rfl (fP rfl) (fP rfl)
theorem No {aa:ef} {aj:Vector ao 4} {r:(Vector ao 4) × ao} (h:z5 aa aj=some r):bx Tryz.prog 241 [I.of (aa),I.of (aj)] (I.cF [I.of (r.1),I.of (r.2)]):=by
 unfold z5 at h
 refine bx.of Tryz.func241 rfl Tryz.ntmps241 rfl fun W A=> ?_
 refine aD ?_
 refine cd fun aT=> ?_
 refine cd fun a7=> ?_
 refine cG xS fun bU=> ?_
 refine cG dP fun cR=> ?_
 refine bS ?_
 refine aW (a0 AZ) ?_
 refine b3 3 vZ bG ?_
 obtain⟨a4,cw,h⟩:=aw h
 refine bp (eV (k:=a4) g1 (ae rfl) (ae rfl) (cu cw)) ?_
 refine b3 2 ((aL.id (Vector ao 4)).comp (aL.idx (α:=ao) 4 a4 (cu cw).1)) bT ?_
 refine cG dP fun ts=> ?_
 refine ca 0 bT ?_
 refine bS ?_
 refine aW (a0 AZ) ?_
 refine b3 4 vZ bG ?_
 refine g2 gS dP (default:ao) .nil ?_
 obtain⟨bZ,c7,h⟩:=aw h
 refine bp (eV (k:=bZ) g1 (ae rfl) (ae rfl) (cu c7)) ?_
 refine nB 3 ((aL.id (Vector ao 4)).comp (aL.idx (α:=ao) 4 bZ (cu c7).1)) bT ?_
 refine bM ?_
 refine ai.draw mixed 3 [some 15,some 16,none] [[],[],[0]] [.val _,.val _,.jB 2 (.var ((c1 aj bZ (default:ao)):Vector ao 4))] [false,false,true] (by kernel_rfl) rfl rfl rfl (fun dx=>⟨fA 3 fI,fA 0 bT,⟨_,_,rfl,fun ay au=>q0 (i:=2) (aL.id (Vector ao 4)) (v:=((c1 aj bZ (default:ao)):Vector ao 4)) (b':=((c1 aj bZ (default:ao)):Vector ao 4)) hR (ae rfl) (ae rfl) (au _ _ rfl) rfl rfl⟩,trivial⟩) fun dx=> ?_
 refine ca 1 bT ?_
 refine aN ?_
 refine ai.ret ?_
 obtain rfl:=aI h
 exact ag.oU rfl (eL 2 hR) (eL 1 bT)
theorem HO {aa:Int} {r:Int} (h:uc aa=some r):bx Tryz.prog 205 [I.of (aa)] (I.of (r)):=by
 unfold uc at h
 refine bx.of Tryz.func205 rfl Tryz.ntmps205 rfl fun W A=> ?_
 refine aD ?_
 refine aQ ?_
 refine bS ?_
 refine aB ?_
 refine bj Bk ?_
 refine bj xQ ?_
 refine aQ ?_
 refine aN ?_
 refine ai.ret ?_
 obtain rfl:=aI h
 exact c9
theorem HV {aa:ao} {aj:Int} {r:ao} (h:uf aa aj=some r):bx Tryz.prog 204 [I.of (aa),I.of (aj)] (I.of (r)):=by
 unfold uf at h
 refine bx.of Tryz.func204 rfl Tryz.ntmps204 rfl fun W A=> ?_
 refine aD ?_
 refine cd fun aT=> ?_
 refine cG dP fun a7=> ?_
 refine bM ?_
 refine ai.block ?_
 refine aD ?_
 refine aB ?_
 refine bj Bm ?_
 refine aQ ?_
 refine aN ?_
 refine ck h (fun h=>?_) fun h=>?_
 ·refine aD ?_
  refine cc 1 bT ?_
  refine ca 0 bT ?_
  refine aN ?_
  refine ai.ret ?_
  refine ag.eC ?_
  refine ag.ret ?_
  obtain rfl:=aI h
  exact ag.gG rfl (eL 0 bT)
 ·refine aD ?_
  refine aB ?_
  refine bj kX ?_
  refine aQ ?_
  refine aN ?_
  refine ck h (fun h=>?_) fun h=>?_
  ·refine aD ?_
   refine aW (a0 nh) ?_
   refine b3 1 ia fH ?_
   refine aB ?_
   refine bj kY ?_
   refine aW (iy Tryz.underlying3 Tryz.underlying130) ?_
   refine bj xn ?_
   obtain⟨bk,dc,h⟩:=aw h
   refine cZ dc (cC (b:=({ (default:ao) with bY:=aa.dD >>> (BitVec.ofInt 64 (bD (aj - 64))).toNat } :ao)) rfl gS dP (.cons ev rfl (ae rfl) rfl (.nil))) ?_
   refine ca 0 bT ?_
   refine aN ?_
   refine ai.ret ?_
   refine ag.eC ?_
   refine ag.ret ?_
   obtain rfl:=aI h
   exact ag.gG rfl (eL 0 bT)
  ·refine ai.skip ?_
   refine ag.ea ?_
   refine ag.next ?_
   refine aD ?_
   refine aW (a0 nh) ?_
   refine b3 1 ia fH ?_
   refine aB ?_
   refine aW (iy Tryz.underlying3 Tryz.underlying130) ?_
   refine bj xn ?_
   refine aW (a0 jP) ?_
   refine b3 1 ev fH ?_
   refine aB ?_
   refine aW (iy Tryz.underlying3 Tryz.underlying130) ?_
   refine bj xn ?_
   refine aW (a0 nh) ?_
   refine b3 1 ia fH ?_
   refine aB ?_
   refine bj kY ?_
   refine aW (iy Tryz.underlying3 Tryz.underlying130) ?_
   refine bj nd ?_
   obtain⟨c8,ho,h⟩:=aw h
   refine cZ ho (uI (ae rfl) (ae rfl)) ?_
   obtain⟨e8,jf,h⟩:=aw h
   refine cZ jf (cC (b:= { dD:=aa.dD >>> (BitVec.ofInt 64 aj).toNat,bY:=c8:ao }) rfl gS dP (.cons ia rfl (ae rfl) rfl (.cons ev rfl (ae rfl) rfl (.nil)))) ?_
   refine ca 0 bT ?_
   refine aN ?_
   refine ai.ret ?_
   obtain rfl:=aI h
   exact ag.gG rfl (eL 0 bT)
end Go.Proofs.YtmnggbjcnoffeaaGreat
namespace Go.Proofs.YtmnggbjcnoffeaaGreat
open Go Gv
set_option linter.unusedVariables false
set_option linter.unusedSimpArgs false
set_option maxRecDepth 100000
set_option maxHeartbeats 2000000
theorem NO {hp:bb Cell} {aa:kb} {aj:bE} {r:Int × Bool} (h:wm hp aa aj=some r):cz Tryz.prog 227 [I.of (aa),I.of (aj)] ([] ++ bd hp) (δ:=Unit) (fun _=>I.cF [I.of (r.1),I.of (r.2)]) (fun _=> [] ++ bd hp):=by
 unfold wm at h
 refine cz.of Tryz.func227 rfl Tryz.ntmps227 rfl fun W A=> ?_
 refine aD ?_
 refine cd fun aT=> ?_
 refine cd fun a7=> ?_
 refine aQ ?_
 refine aQ ?_
 refine bM ?_
 obtain⟨ak,bB,h⟩:=aw h
 obtain⟨aP,cg,h⟩:=aw h
 refine k5 [0,1,2,3] ?_
 refine ai.Bn 2 mixed (bq 6 [] [] _ :: bq 7 (0 :: []) (1 :: []) _ :: bq 8 [] (0 :: []) _ :: bq 9 (2 :: []) [] _ :: ⟨some 10,(1 :: 3 :: []),[],[],fun _=>I.cF [I.of (aP.1),I.of (aP.2)],fun _ _=>⟨none,.dead⟩⟩ :: bq 11 (4 :: []) [] _ :: bq 12 (4 :: []) [] _ :: bq 4 (5 :: []) [] _ :: bq 5 (6 :: []) [] _ :: []) _ (0 :: 1 :: 2 :: 3 :: []) rfl rfl (by kernel_rfl) (by kernel_rfl) ⟨eT.q (fD (a0 Jx)),eT.q (oZ 1 CQ EC),eT.q (o0 0 h5),eT.q (cS fun hd E' ay aK au=>hP ED (C5 bB) ⟨ae (aK _ _ rfl),trivial⟩),?_,eT.q (cS fun hd E' ay aK au=>nk (ae (aK _ _ rfl)) rfl),eT.q (cS fun hd E' ay aK au=>nk (ae (aK _ _ rfl)) rfl),eT.q (cS fun hd E' ay aK au=>eG (ae (aK _ _ rfl))),eT.q (cS fun hd E' ay aK au=>eG (ae (aK _ _ rfl))),trivial⟩ fun gp=> ?_
 ·intro hd E' ay aK au eX
  refine ah.pa (iF.q6 2 (eX.trans rfl) Si (N3 cg) ⟨ae (aK _ _ rfl),ae (aK _ _ rfl),trivial⟩) rfl rfl rfl ?_
  refine ah.nil ?_
  exact ag.fin (ft []) rfl rfl
 refine ag.fg (L2:=(⟨some a7,.var (aj:bE)⟩ :: ⟨some aT,.var (aa:kb)⟩ :: bd hp)) rfl ?_
 refine lD [0,1,2,3,4,5,6,7,8,9,10,11,12] ?_
 refine ag.next ?_
 refine ai.ret ?_
 obtain rfl:=aI h
 exact ag.pM () (.cons _ (.cons _ (.refl _))) rfl rfl (fP rfl) (fP rfl)
theorem Ht {aa:ef} {aj:bE} {r:(Vector ao 4) × ao × Int} (h:tI aa aj=some r):bx Tryz.prog 239 [I.of (aa),I.of (aj)] (I.cF [I.of (r.1),I.of (r.2.1),I.of (r.2.2)]):=by
 unfold tI at h
 refine bx.of Tryz.func239 rfl Tryz.ntmps239 rfl fun W A=> ?_
 refine aD ?_
 refine cd fun aT=> ?_
 refine cd fun a7=> ?_
 refine cG xS fun bU=> ?_
 refine cG dP fun cR=> ?_
 refine aQ ?_
 refine bM ?_
 obtain⟨ak,bB,h⟩:=aw h
 obtain⟨aP,cg,h⟩:=aw h
 refine ai.draw mixed 10 [some 10,some 11,some 12,some 13,some 9,some 14,some 15,some 7,some 8,none] [[],[],[1],[0,2],[3],[4],[4],[],[],[5,7]] [.val _,.val _,.val _,.val _,.val _,.val _,.val _,.new (.var (default:Vector ao 4)),.new (.var (default:ao)),.kJ 7 (.var (aP.1:Vector ao 4))] [false,false,false,false,false,false,false,false,false,true] (by kernel_rfl) rfl rfl rfl (fun dx=>⟨fA 3 EE,fA 2 h5,fb ED (C5 bB),fb Sj (No cg),cW,rr,rr,uy xS,uy dP,⟨rfl,_,rfl,fun ay q hq=>q0 (i:=q) (aL.id (Vector ao 4)) (v:=(aP.1:Vector ao 4)) (b':=(aP.1:Vector ao 4)) hR (ae rfl) (ae rfl) hq rfl rfl⟩,trivial⟩) fun dx=> ?_
 refine ca 1 bT ?_
 refine bM ?_
 refine aD ?_
 refine aW (a0 AZ) ?_
 refine b3 5 vZ bG ?_
 refine aW (a0 kD) ?_
 refine b3 4 jM kg ?_
 refine aW (eJ Tryz.underlying47) ?_
 refine bj kX ?_
 refine aN ?_
 refine ck h (fun h=>?_) fun h=>?_
 ·refine ai.seq ?_
  refine ai.draw mixed 3 [some 22,some 23,none] [[],[],[0]] [.val _,.val _,.jB 3 (.var (aP.1:Vector ao 4))] [false,false,true] (by kernel_rfl) rfl rfl rfl (fun il=>⟨fA 0 hR,fA 1 bT,⟨_,_,rfl,fun ay au=>q0 (i:=3) (aL.id (Vector ao 4)) (v:=(aP.1:Vector ao 4)) (b':=(aP.1:Vector ao 4)) hR (ae rfl) (ae rfl) (au _ _ rfl) rfl rfl⟩,trivial⟩) fun il=> ?_
  refine ca 2 bT ?_
  refine aQ ?_
  refine aN ?_
  refine ai.ret ?_
  refine ag.ret ?_
  obtain rfl:=aI h
  exact ag.ym rfl (eL 3 hR) (eL 2 bT) (kh rfl)
 ·refine cO ?_
  refine ai.seq ?_
  obtain⟨a4,cw,h⟩:=aw h
  refine ai.draw mixed 11 [some 24,some 25,some 26,some 27,some 28,some 29,some 30,some 31,some 32,none,none] [[],[],[],[2],[],[4],[3,5],[6],[7],[0],[1]] [.val _,.val _,.val _,.val _,.val _,.val _,.val _,.val _,.val _,.jB 3 (.var (aP.1:Vector ao 4)),.jB 2 (.var (aP.2:ao))] [false,false,false,false,false,false,false,false,false,true,true] (by kernel_rfl) rfl rfl rfl (fun s5=>⟨fA 0 hR,fA 1 bT,H1 (a0 kD),ee 4 jM kg,H1 (a0 AZ),ee 5 vZ bG,mg cw Tryz.underlying47 gA,nC rZ A8,H1 (cL bG),⟨_,_,rfl,fun ay au=>q0 (i:=3) (aL.id (Vector ao 4)) (v:=(aP.1:Vector ao 4)) (b':=(aP.1:Vector ao 4)) hR (ae rfl) (ae rfl) (au _ _ rfl) rfl rfl⟩,⟨_,_,rfl,fun ay au=>q0 (i:=2) (aL.id ao) (v:=(aP.2:ao)) (b':=(aP.2:ao)) bT (ae rfl) (ae rfl) (au _ _ rfl) rfl rfl⟩,trivial⟩) fun s5=> ?_
  refine aQ ?_
  refine aN ?_
  refine ai.ret ?_
  obtain rfl:=aI h
  exact ag.ym rfl (eL 3 hR) (eL 2 bT) (kh rfl)
theorem AE {aa:Int} {r:ao} (h:qE aa=some r):bx Tryz.prog 188 [I.of (aa)] (I.of (r)):=by
 unfold qE at h
 refine bx.of Tryz.func188 rfl Tryz.ntmps188 rfl fun W A=> ?_
 refine aD ?_
 refine cG dP fun aT=> ?_
 refine bS ?_
 obtain⟨bk,dc,h⟩:=aw h
 refine cZ dc (cC (b:= { dD:=18446744073709551615#64,bY:=18446744073709551615#64:ao }) rfl gS dP (.cons ia rfl (hc 18446744073709551615 rfl) rfl (.cons ev rfl (hc 18446744073709551615 rfl) rfl (.nil)))) ?_
 refine aB ?_
 obtain⟨ak,bB,h⟩:=aw h
 refine dF KG (HO bB) ?_
 refine bj kY ?_
 obtain⟨aP,cg,h⟩:=aw h
 refine dF KH (HV cg) ?_
 refine ca 0 bT ?_
 refine aN ?_
 refine ai.ret ?_
 obtain rfl:=aI h
 exact ag.gG rfl (eL 0 bT)
theorem AI {aa:ao} {aj:Int} {r:Bool} (h:ps aa aj=some r):bx Tryz.prog 196 [I.of (aa),I.of (aj)] (I.of (r)):=by
 unfold ps at h
 refine bx.of Tryz.func196 rfl Tryz.ntmps196 rfl fun W A=> ?_
 refine aD ?_
 refine cd fun aT=> ?_
 refine aQ ?_
 refine bS ?_
 refine aB ?_
 refine bj kX ?_
 refine aB ?_
 refine dU cQ ?_
 refine jX dZ ?_
 refine k6 ?_
 refine aB ?_
 refine eY (fun hb=>gx (i:=0) (aL.id ao) (r:=aa) bT (ae rfl) rfl rfl rfl) ?_
 refine dU cQ ?_
 obtain⟨ak,bB,h⟩:=aw h
 refine eY (fun hb=>hP KH (HV (ib bB hb)) ⟨cY rfl hb,cY rfl hb,trivial⟩) ?_
 refine eY (fun hb=>DN ev J7 fH rfl (cY rfl hb) rfl rfl) ?_
 refine eY (fun hb=>si (cY rfl hb) (hc 1 rfl)) ?_
 refine eY (fun hb=>DO (cY rfl hb) (hc 1 rfl)) ?_
 obtain⟨bk,dc,h⟩:=aw h
 refine cZ dc (oJ (ae rfl) (ae rfl) (fun h=>h)) ?_
 refine aQ ?_
 refine aN ?_
 refine ai.ret ?_
 obtain rfl:=aI h
 exact c9
theorem OW {aa:bE} {r:bE} (h:AJ aa=some r):bx Tryz.prog 122 [I.of (aa)] (I.of (r)):=by
 unfold AJ at h
 refine bx.of Tryz.func122 rfl Tryz.ntmps122 rfl fun W A=> ?_
 refine aD ?_
 refine cd fun aT=> ?_
 refine cG vf fun a7=> ?_
 refine bM ?_
 obtain⟨ak,bB,h⟩:=aw h
 obtain⟨aP,cg,h⟩:=aw h
 refine ai.draw mixed 7 [some 3,some 4,some 5,some 6,some 7,some 8,some 9] [[],[0],[1],[],[3],[4],[]] [.val _,.val _,.val _,.val _,.val _,.val _,.val _] [false,false,false,false,false,false,false] (by kernel_rfl) rfl rfl rfl (fun dx=>⟨H1 (a0 kD),ee 1 jM kg,fb Sk (Nj bB),H1 (a0 A9),ee 1 Ai yn,fb Sl (Nk cg),H1 (a0 kD),trivial⟩) fun dx=> ?_
 refine nB 1 jM kg ?_
 refine aW (a0 A9) ?_
 obtain⟨bk,dc,h⟩:=aw h
 refine B3 1 Ai yn (hb:=by exact dc) ?_
 refine bS ?_
 refine cc 1 h5 ?_
 refine ca 0 h5 ?_
 refine aN ?_
 refine ai.ret ?_
 obtain rfl:=aI h
 exact ag.gG rfl (eL 0 h5)
theorem Of {aa:bE} {aj:bE} {r:Bool} (h:wH aa aj=some r):bx Tryz.prog 265 [I.of (aa),I.of (aj)] (I.of (r)):=by
 unfold wH at h
 refine bx.of Tryz.func265 rfl Tryz.ntmps265 rfl fun W A=> ?_
 refine aD ?_
 refine cd fun aT=> ?_
 refine cd fun a7=> ?_
 refine aQ ?_
 refine bS ?_
 refine aW (a0 uJ) ?_
 refine b3 1 pg bG ?_
 refine aW (a0 uJ) ?_
 refine b3 0 pg bG ?_
 refine bj gb ?_
 refine aB ?_
 refine dU (a0 kD) ?_
 refine eY (fun hb=>gx (i:=1) ((aL.id bE).comp jM) (r:=aa.cA) kg (cY rfl hb) rfl rfl rfl) ?_
 refine dU (a0 kD) ?_
 refine eY (fun hb=>gx (i:=0) ((aL.id bE).comp jM) (r:=aj.cA) kg (cY rfl hb) rfl rfl rfl) ?_
 obtain⟨ak,bB,h⟩:=aw h
 refine eY (fun hb=>hP Sm (Nl (ib bB hb)) ⟨cY rfl hb,cY rfl hb,trivial⟩) ?_
 refine k6 ?_
 refine aB ?_
 refine dU (a0 pC) ?_
 refine eY (fun hb=>gx (i:=1) ((aL.id bE).comp nN) (r:=aa.gF) bG (cY rfl hb) rfl rfl rfl) ?_
 refine dU (a0 pC) ?_
 refine eY (fun hb=>gx (i:=0) ((aL.id bE).comp nN) (r:=aj.gF) bG (cY rfl hb) rfl rfl rfl) ?_
 refine jX gb ?_
 refine k6 ?_
 refine aQ ?_
 refine aN ?_
 refine ai.ret ?_
 obtain rfl:=aI h
 exact c9
theorem NZ {hp:bb Cell} {aa:kb} {aj:aM} {r:(bb Cell)} (h:wB hp aa aj=some r):cz Tryz.prog 229 [I.of (aa),I.of (aj)] ([] ++ bd hp) (δ:=Unit) (fun d=>I.cF []) (fun d=> [] ++ bd r):=by
 unfold wB at h
 refine cz.of Tryz.func229 rfl Tryz.ntmps229 rfl fun W A=> ?_
 refine aD ?_
 refine cd fun aT=> ?_
 refine cd fun a7=> ?_
 refine aN ?_
 obtain⟨ak,bB,h⟩:=aw h
 refine ai.draw mixed 7 [some 4,some 5,some 6,some 7,some 8,some 9,some 10] [[],[0],[],[2],[3],[],[5]] [.val _,.val _,.val _,.val _,.val _,.val _,.val _] [false,false,false,false,false,false,false] (by kernel_rfl) rfl rfl rfl (fun dx=>⟨H1 (a0 Jx),ee 1 CQ EC,H1 (a0 jQ),ee 0 iL h5,fb ED (C5 bB),H1 (a0 kW),ee 0 jL bG,trivial⟩) fun dx=> ?_
 obtain⟨aP,cg,h⟩:=aw h
 refine ah.mH 2 0 rfl Sn (N2 cg) rfl rfl ⟨ae rfl,ae rfl,ae rfl,trivial⟩ rfl fun aE=> ?_
 refine ah.fg (L2:=(⟨some a7,.var (aj:aM)⟩ :: ⟨some aT,.var (aa:kb)⟩ :: bd aP.2)) rfl ?_
 refine ah.nil ?_
 refine ag.vg ?_
 obtain rfl:=aI h
 exact ag.pN () (.cons _ (.cons _ (.refl _))) rfl rfl
end Go.Proofs.YtmnggbjcnoffeaaGreat
namespace Go.Proofs.YtmnggbjcnoffeaaGreat
open Go Gv
set_option linter.unusedVariables false
set_option linter.unusedSimpArgs false
set_option maxRecDepth 100000
set_option maxHeartbeats 2000000
theorem HK {aa:Int} {aj:Int} {r:ao} (h:tV aa aj=some r):bx Tryz.prog 189 [I.of (aa),I.of (aj)] (I.of (r)):=by
 unfold tV at h
 refine bx.of Tryz.func189 rfl Tryz.ntmps189 rfl fun W A=> ?_
 refine aD ?_
 refine cG dP fun aT=> ?_
 refine bS ?_
 refine aB ?_
 obtain⟨ak,bB,h⟩:=aw h
 refine dF KG (HO bB) ?_
 refine aQ ?_
 refine bS ?_
 refine aB ?_
 refine bj Bk ?_
 refine aB ?_
 refine bj xQ ?_
 refine aQ ?_
 refine bS ?_
 refine aB ?_
 obtain⟨aP,cg,h⟩:=aw h
 refine dF Bo (AE cg) ?_
 refine aB ?_
 refine aB ?_
 refine bj kY ?_
 obtain⟨bc,ek,h⟩:=aw h
 refine dF Bo (AE ek) ?_
 obtain⟨bf,fh,h⟩:=aw h
 refine dF Bp (AH fh) ?_
 refine ca 0 bT ?_
 refine aN ?_
 refine ai.ret ?_
 obtain rfl:=aI h
 exact ag.gG rfl (eL 0 bT)
theorem ND {aj:Int} {aR:ao} {c3:Ref} :xx Tryz.prog 255 [I.ptr aj,I.ptr aR,I.ptr c3] (fun v:Int=>I.of v) (fun {σ ε} hq step b2=>r2 (σ:=σ) (ε:=ε) aj aR c3 hq step b2):=by
 refine xx.of Tryz.func255 rfl Tryz.ntmps255 rfl ?_
 intro σ ε γ Ls Lx hq iG lE step b2 g0 R h W A u rN
 replace h:r2 aj aR c3 hq step b2 R:=h
 unfold r2 at h
 refine aD ?_
 refine aW (cL bG) ?_
 refine aB ?_
 refine aN ?_
 refine ai.block ?_
 refine ai.J8 (σ:=Int × (σ)) (ε:=(Int × Bool × (σ)) ⊕ (Int × Int × Int × Bool × Bool × Bool × (ε))) (γ:=γ) (δ:=γ) h (fun s1 ax=> [(0,I.eq u),(1,I.ptr aj),(2,I.ptr aR),(3,I.ptr c3),(7,I.of (aj)),(8,I.of (s1.1))]) (fun s1 ax=>(Ls s1.2 ax)) (fun aE=>Sum.elim (fun aE=>Exit.exit 0) (fun aE=>Exit.ret) aE) (fun aE ax=>Sum.elim (fun aE=> [(0,I.eq u),(1,I.ptr aj),(2,I.ptr aR),(3,I.ptr c3),(7,I.of (aj)),(8,I.of (aE.1)),(9,I.of (aE.2.1))]) (fun aE=> [(0,I.eq u),(1,I.ptr aj),(2,I.ptr aR),(3,I.ptr c3),(5,I.of (aE.1)),(6,I.of (aE.2.1)),(7,I.of (aj)),(8,I.of (aE.2.2.1)),(9,I.of (aE.2.2.2.1)),(19,I.of (aE.2.2.2.2.1)),(23,I.of (aE.2.2.2.2.2.1))]) aE) (fun aE ax=>Sum.elim (fun aE=>(Ls aE.2.2 ax)) (fun aE=>(Lx aE.2.2.2.2.2.2 ax)) aE) g0 rfl (.same rfl (.same rfl (.same rfl (.same rfl (.same rfl (.same rfl .nil)))))) (fun s1 R h ax=> ?_) (fun az h ax=> ?_)
 ·refine aD ?_
  refine bj dZ ?_
  refine bM ?_
  refine ai.cond (ae rfl) (fun ar=> ?_) (fun ar=> ?_)
  ·replace h:=qU ar h
   refine cO ?_
   refine ai.seq ?_
   refine ai.block ?_
   refine aD ?_
   refine aB ?_
   refine aQ ?_
   refine bS ?_
   refine aQ ?_
   refine bM ?_
   refine ai.seq ?_
   obtain⟨dK,fz,h⟩:=aG.cT h
   obtain⟨cK,hg,h⟩:=aG.cT h
   obtain⟨ak,bB,h⟩:=aG.cT h
   refine ai.draw mixed 9 [some 11,some 12,some 13,some 14,some 15,some 16,some 17,some 18,some 19] [[],[],[1],[2],[3],[4],[],[5,6],[0,7]] [.val _,.val _,.val _,.val _,.val _,.val _,.val _,.val _,.val _] [false,false,false,false,false,false,false,false,false] (by kernel_rfl) rfl rfl rfl (fun dx=>⟨H1 (cL bT),H1 (cL KI),dT fun ay au=>fw (gQ (ae rfl) fz),H1 (a0 A0),dT fun ay au=>jt ((aL.id fY).comp wo) (r:=cK.eN) bG (ae rfl) (nw (fun i e q=>au i e q rfl) (KJ (Ls:=Ls) (s:=s1.2) (g:=ax) 0 rfl lE (pD hg) rfl)) rfl rfl,mZ kY,cW,mZ kY,fb Bq (AI bB),trivial⟩) fun dx=> ?_
   refine aN ?_
   obtain⟨bO,cM,h⟩:=aG.cT h
   refine ai.dt (γ:=Unit) (fun a1=> [(0,I.eq u),(1,I.ptr aj),(2,I.ptr aR),(3,I.ptr c3),(5,I.of (s1.1)),(6,I.of (bO)),(7,I.of (aj)),(8,I.of (s1.1)),(9,I.of (decide (s1.1 < aj))),(19,I.of (ak))]) (fun a1=>(Ls s1.2 ax)) (ae rfl) (fun a1=> ?_) (fun hm ar=> ?_) (fun hm ar=> ?_)
   ·clear cM
    refine ag.next ?_
    refine aD ?_
    refine aB ?_
    refine aB ?_
    refine ah.Rz (Lin:= []) (Ls:=Ls) (Lx:=Lx) (step:=step) (s:=s1.2) (gg:=ax) rfl rN rfl (ae rfl) h rfl (fun s2 h br=> ?_) (fun da h br=> ?_)
    ·simp only [Sum.elim_inl] at h
     refine ah.fg (L2:=(Ls s2 br)) rfl ?_
     refine aW ju ?_
     refine aN ?_
     refine ai.uX (ae rfl) (by first | rfl | (rw [hb]; rfl)) ?_
     refine ai.skip ?_
     refine ag.ea ?_
     refine ag.next ?_
     refine ai.cl ?_
     refine bj dg ?_
     refine aB ?_
     refine ah.nil ?_
     exact ag.J9 h br 0 rfl (.same rfl (.same rfl (.same rfl (.same rfl (.same rfl (.same rfl .nil))))))
    ·simp only [Sum.elim_inr] at h
     refine ah.fg (L2:=(Lx da br)) rfl ?_
     refine aW ju ?_
     refine aN ?_
     refine ai.EF (ae rfl) (by first | rfl | (rw [hb]; rfl)) ?_
     refine ai.ret ?_
     refine ag.eC ?_
     refine ag.ret ?_
     exact ag.Eb h br 0 rfl (by simp) rfl (.same rfl (.same rfl (.same rfl (.same rfl (.same rfl (.same rfl (.same rfl (.same rfl (.same rfl (.same rfl (.same rfl .nil)))))))))))
   ·have h:=ht ar cM
    refine ai.cl ?_
    refine aQ ?_
    refine ah.nil ?_
    obtain rfl:=aI h
    exact dI 0 (hm ())
   ·have h:=hv ar cM
    refine ai.skip ?_
    obtain rfl:=aI h
    exact dI 0 (hm ())
  ·replace h:=qV ar h
   refine ai.exit ?_
   refine ag.exit ?_
   exact ag.Eb h ax 0 rfl (by simp) rfl (.same rfl (.same rfl (.same rfl (.same rfl (.same rfl (.same rfl (.same rfl .nil)))))))
 ·rcases az with az | az
  ·simp only [Sum.elim_inl] at h
   refine ag.fe ?_
   refine ag.vg ?_
   exact ag.pN (⟨⟨(.inl az.2.2:σ ⊕ ε),h⟩,ax⟩: {r // _} × _) (.refl _) rfl rfl
  ·simp only [Sum.elim_inr] at h
   refine ag.eC ?_
   exact ag.pN (⟨⟨(.inr az.2.2.2.2.2.2:σ ⊕ ε),h⟩,ax⟩: {r // _} × _) (.refl _) rfl rfl
theorem Nv {hp:bb Cell} {aj:Int} {aR:ao} {c3:Ref} :xy Tryz.prog 255 [I.ptr aj,I.ptr aR,I.ptr c3] hp (fun v:Int=>I.of v) (fun {σ ε} =>r1 (σ:=σ) (ε:=ε) hp aj aR c3):=by
 refine xy.of Tryz.func255 rfl Tryz.ntmps255 rfl ?_
 intro σ ε γ Ls Lx iG lE step b2 g0 r h W A u rN
 replace h:r1 hp aj aR c3 step b2=some r:=h
 unfold r1 at h
 refine aD ?_
 refine aW (cL bG) ?_
 refine aB ?_
 refine aN ?_
 refine ai.block ?_
 obtain⟨az,aq,h⟩:=aw h
 refine ai.uY (σ:=Int × (σ)) (ε:=(Int × Bool × (σ)) ⊕ (Int × Int × Int × Bool × Bool × Bool × (ε))) (γ:=γ) (δ:=γ) aq (fun s1 ax=> [(0,I.eq u),(1,I.ptr aj),(2,I.ptr aR),(3,I.ptr c3),(7,I.of (aj)),(8,I.of (s1.1))]) (fun s1 ax=>(Ls s1.2 ax)) (fun aE=>Sum.elim (fun aE=>Exit.exit 0) (fun aE=>Exit.ret) aE) (fun aE ax=>Sum.elim (fun aE=> [(0,I.eq u),(1,I.ptr aj),(2,I.ptr aR),(3,I.ptr c3),(7,I.of (aj)),(8,I.of (aE.1)),(9,I.of (aE.2.1))]) (fun aE=> [(0,I.eq u),(1,I.ptr aj),(2,I.ptr aR),(3,I.ptr c3),(5,I.of (aE.1)),(6,I.of (aE.2.1)),(7,I.of (aj)),(8,I.of (aE.2.2.1)),(9,I.of (aE.2.2.2.1)),(19,I.of (aE.2.2.2.2.1)),(23,I.of (aE.2.2.2.2.2.1))]) aE) (fun aE ax=>Sum.elim (fun aE=>(Ls aE.2.2 ax)) (fun aE=>(Lx aE.2.2.2.2.2.2 ax)) aE) g0 rfl (.same rfl (.same rfl (.same rfl (.same rfl (.same rfl (.same rfl .nil)))))) (fun s1 r h ax=> ?_) (fun ax=> ?_)
 ·clear aq
  refine aD ?_
  refine bj dZ ?_
  refine bM ?_
  refine ck h (fun h=>?_) fun h=>?_
  ·refine cO ?_
   refine ai.seq ?_
   refine ai.block ?_
   refine aD ?_
   refine aB ?_
   refine aQ ?_
   refine bS ?_
   refine aQ ?_
   refine bM ?_
   refine ai.seq ?_
   obtain⟨dK,fz,h⟩:=aw h
   obtain⟨cK,hg,h⟩:=aw h
   obtain⟨ak,bB,h⟩:=aw h
   refine ai.draw mixed 9 [some 11,some 12,some 13,some 14,some 15,some 16,some 17,some 18,some 19] [[],[],[1],[2],[3],[4],[],[5,6],[0,7]] [.val _,.val _,.val _,.val _,.val _,.val _,.val _,.val _,.val _] [false,false,false,false,false,false,false,false,false] (by kernel_rfl) rfl rfl rfl (fun dx=>⟨H1 (cL bT),H1 (cL KI),dT fun ay au=>fw (gQ (ae rfl) fz),H1 (a0 A0),dT fun ay au=>jt ((aL.id fY).comp wo) (r:=cK.eN) bG (ae rfl) (nw (fun i e q=>au i e q rfl) (So (Ls:=Ls) (s:=s1.2) (g:=ax) 0 rfl lE (pD hg) rfl)) rfl rfl,mZ kY,cW,mZ kY,fb Bq (AI bB),trivial⟩) fun dx=> ?_
   refine aN ?_
   obtain⟨bO,cM,h⟩:=aw h
   refine ai.dt (γ:=Unit) (fun a1=> [(0,I.eq u),(1,I.ptr aj),(2,I.ptr aR),(3,I.ptr c3),(5,I.of (s1.1)),(6,I.of (bO)),(7,I.of (aj)),(8,I.of (s1.1)),(9,I.of (decide (s1.1 < aj))),(19,I.of (ak))]) (fun a1=>(Ls s1.2 ax)) (ae rfl) (fun a1=> ?_) (fun hm ar=> ?_) (fun hm ar=> ?_)
   ·clear cM
    refine ag.next ?_
    refine aD ?_
    refine aB ?_
    refine aB ?_
    obtain⟨aP,cg,h⟩:=aw h
    refine ah.yield (Lin:= []) (Ls:=Ls) (Lx:=Lx) (step:=step) (s:=s1.2) (gg:=ax) rfl rN rfl (ae rfl) cg rfl (fun s2 aS br=> ?_) (fun da aS br=> ?_)
    ·subst aS; simp only [Sum.elim_inl] at h
     refine ah.fg (L2:=(Ls s2 br)) rfl ?_
     refine aW ju ?_
     refine aN ?_
     refine ai.uX (ae rfl) (by first | rfl | (rw [hb]; rfl)) ?_
     refine ai.skip ?_
     refine ag.ea ?_
     refine ag.next ?_
     refine ai.cl ?_
     refine bj dg ?_
     refine aB ?_
     refine ah.nil ?_
     obtain rfl:=aI h
     exact fo br 0
    ·subst aS; simp only [Sum.elim_inr] at h
     refine ah.fg (L2:=(Lx da br)) rfl ?_
     refine aW ju ?_
     refine aN ?_
     refine ai.EF (ae rfl) (by first | rfl | (rw [hb]; rfl)) ?_
     refine ai.ret ?_
     refine ag.eC ?_
     refine ag.ret ?_
     obtain rfl:=aI h
     exact eh br 0
   ·have h:=ht ar cM
    refine ai.cl ?_
    refine aQ ?_
    refine ah.nil ?_
    obtain rfl:=aI h
    exact dI 0 (hm ())
   ·have h:=hv ar cM
    refine ai.skip ?_
    obtain rfl:=aI h
    exact dI 0 (hm ())
  ·refine ai.exit ?_
   refine ag.exit ?_
   obtain rfl:=aI h
   exact eh ax 0
 ·clear aq
  rcases az with az | az
  ·simp only [Sum.elim_inl] at h
   refine ag.fe ?_
   refine ag.vg ?_
   obtain rfl:=aI h
   exact ag.pN ax (.refl _) rfl rfl
  ·simp only [Sum.elim_inr] at h
   refine ag.eC ?_
   obtain rfl:=aI h
   exact ag.pN ax (.refl _) rfl rfl
theorem C2 {aa:aM} {r:aM} (h:qB aa=some r):bx Tryz.prog 87 [I.of (aa)] (I.of (r)):=by
 unfold qB at h
 refine bx.of Tryz.func87 rfl Tryz.ntmps87 rfl fun W A=> ?_
 refine aD ?_
 refine cd fun aT=> ?_
 refine cG h6 fun a7=> ?_
 refine bS ?_
 refine aW (a0 jQ) ?_
 refine b3 1 iL h5 ?_
 obtain⟨ak,bB,h⟩:=aw h
 refine dF Sp (OW bB) ?_
 refine aW (a0 jQ) ?_
 refine nB 1 iL h5 ?_
 refine bS ?_
 refine cc 1 cV ?_
 refine ca 0 cV ?_
 refine aN ?_
 refine ai.ret ?_
 obtain rfl:=aI h
 exact ag.gG rfl (eL 0 cV)
end Go.Proofs.YtmnggbjcnoffeaaGreat
namespace Go.Proofs.YtmnggbjcnoffeaaGreat
open Go Gv
set_option linter.unusedVariables false
set_option linter.unusedSimpArgs false
set_option maxRecDepth 100000
set_option maxHeartbeats 2000000
theorem Nf {aa:List eS} {aj:eS→Option Bool} {r:Int} (h:vW aa aj=some r):bx Tryz.prog 120 [I.of (aa),I.n9 Tryz.prog aj] (I.of (r)):=by
 unfold vW at h
 refine bx.of Tryz.func120 rfl Tryz.ntmps120 rfl fun W A=> ?_
 refine aD ?_
 refine aQ ?_
 refine bM ?_
 refine aD ?_
 refine aB ?_
 refine aW (eJ Tryz.underlying24) ?_
 refine aB ?_
 refine aN ?_
 refine ai.block ?_
 obtain⟨az,aq,h⟩:=aw h
 refine gB (γ:=Unit) (δ:=Unit) aq [0,1,7] (fun s1 ax=> [(4,I.of (0:Int)),(8,I.of (s1))]) (fun s1 ax=> []) (fun aE=>Sum.elim (fun aE=>Exit.exit 0) (fun aE=>Exit.ret) aE) (fun aE ax=>Sum.elim (fun aE=> [(4,I.of (0:Int)),(8,I.of (aE.1)),(9,I.of (aE.2))]) (fun aE=> [(4,I.of (aE.1)),(5,I.of (aE.2.1)),(8,I.of (aE.2.2.1)),(9,I.of (aE.2.2.2.1)),(16,I.of (aE.2.2.2.2))]) aE) (fun aE ax=>Sum.elim (fun aE=> []) (fun aE=> []) aE) () (fun s1 r h ax=> ?_) fun ax=> ?_
 ·clear aq
  refine aD ?_
  refine bj dZ ?_
  refine bM ?_
  refine ck h (fun h=>?_) fun h=>?_
  ·refine cO ?_
   refine ai.seq ?_
   refine ai.block ?_
   refine aD ?_
   refine aB ?_
   refine aQ ?_
   refine bS ?_
   refine aB ?_
   refine aB ?_
   refine aB ?_
   obtain⟨a4,cw,h⟩:=aw h
   refine fL cw Tryz.underlying24 n0 ?_
   refine aW (cL n0) ?_
   obtain⟨ak,bB,h⟩:=aw h
   refine bp (ux (ae rfl) (ae rfl) bB) ?_
   refine aN ?_
   refine ck h (fun h=>?_) fun h=>?_
   ·refine aD ?_
    refine aB ?_
    refine aQ ?_
    refine aN ?_
    refine ai.ret ?_
    refine ag.eC ?_
    refine ag.ret ?_
    obtain rfl:=aI h
    exact eh () 0
   ·refine ai.skip ?_
    refine ag.ea ?_
    refine ag.next ?_
    refine ai.cl ?_
    refine bj dg ?_
    refine aB ?_
    refine ah.nil ?_
    obtain rfl:=aI h
    exact fo () 0
  ·refine ai.exit ?_
   refine ag.exit ?_
   obtain rfl:=aI h
   exact eh () 0
 ·clear aq
  rcases az with az | az
  ·simp only [Sum.elim_inl] at h
   refine ag.fe ?_
   refine ag.next ?_
   refine aD ?_
   refine aQ ?_
   refine aN ?_
   refine ai.ret ?_
   obtain rfl:=aI h
   exact c9
  ·simp only [Sum.elim_inr] at h
   refine ag.eC ?_
   refine ag.ret ?_
   obtain rfl:=aI h
   exact c9
theorem N4 {aa:a3} {r:dr} (h:CZ aa=some r):cz Tryz.prog 86 [I.of (aa)] [] (δ:=Nat × (Option Nat × Nat)) (fun d=>I.eq (.pointer (some ⟨d.1,0,none⟩))) (fun d=> [⟨some d.1,.cj (({ r with dE:= [] } :dr):dr) [(10,aV d.2.1 (r.dE).length d.2.2)]⟩,⟨d.2.1,.row 52 (r.dE:List aM) d.2.2⟩]):=by
 unfold CZ at h
 refine cz.of Tryz.func86 rfl Tryz.ntmps86 rfl fun W A=> ?_
 refine aD ?_
 refine cd fun aT=> ?_
 refine bp (eG (qG)) ?_
 refine bS ?_
 refine cc 0 fy ?_
 refine bp (oD (b:=({ (default:dr) with nQ:=aa } :dr)) [10] Qa rfl Sq Sr (.cons CD rfl (ae rfl) rfl (by rfl) (.nil))) ?_
 refine ah.own (α:=aM) 52 ?_
 refine ah.Uk (ae rfl) rfl fun a7=> ?_
 refine aQ ?_
 refine aN ?_
 refine ai.ret ?_
 refine ag.FL (γ:=aM) (b':=(({ ({ (default:dr) with nQ:=aa } :dr) with dE:= [] } :dr):dr)) ((aL.id dr).comp wq) 0 0 rfl rfl rfl ?_
 refine ag.b6 1 rfl ?_
 refine ag.b6 1 rfl ?_
 obtain rfl:=aI h
 exact kj (a7,(none,0))
theorem NF {aa:bw} {r:Bool} (h:wb aa=some r):bx Tryz.prog 26 [I.ptr aa] (I.of (r)):=by
 unfold wb at h
 refine bx.of Tryz.func26 rfl Tryz.ntmps26 rfl fun W A=> ?_
 refine aD ?_
 refine aQ ?_
 refine bM ?_
 refine ai.draw mixed 10 [some 3,some 4,some 5,some 6,some 7,some 8,some 9,some 10,some 11,some 12] [[],[0],[1],[2],[],[4],[5],[6],[7],[3,8]] [.val _,.val _,.val _,.val _,.val _,.val _,.val _,.val _,.val _,.val _] [false,false,false,false,false,false,false,false,false,false] (by kernel_rfl) rfl rfl rfl (fun dx=>⟨cW,H1 xz,nC wk xm,H1 (cL bG),cW,H1 xz,nC Ap DK,H1 (cL BH),H1 (eJ Tryz.underlying22),mZ dZ,trivial⟩) fun dx=> ?_
 refine aQ ?_
 refine aN ?_
 refine ai.ret ?_
 obtain rfl:=aI h
 exact c9
theorem Ot {aa:a3} {aj:Int} {r:Int} (h:wN aa aj=some r):bx Tryz.prog 108 [I.of (aa),I.of (aj)] (I.of (r)):=by
 unfold wN at h
 refine bx.of Tryz.func108 rfl Tryz.ntmps108 rfl fun W A=> ?_
 refine aD ?_
 refine cd fun aT=> ?_
 refine aQ ?_
 refine bM ?_
 refine aD ?_
 refine aW (a0 uK) ?_
 refine b3 0 tJ sM ?_
 refine aW (eJ Tryz.underlying24) ?_
 refine aB ?_
 refine aN ?_
 refine ai.block ?_
 obtain⟨az,aq,h⟩:=aw h
 refine gB (γ:=Unit) (δ:=Unit) aq [0,1,2,8,9] (fun s1 ax=> [(4,I.of (0:Int)),(10,I.of (s1))]) (fun s1 ax=> []) (fun aE=>Sum.elim (fun aE=>Exit.exit 0) (fun aE=>Exit.ret) aE) (fun aE ax=>Sum.elim (fun aE=> [(4,I.of (0:Int)),(10,I.of (aE.1)),(11,I.of (aE.2))]) (fun aE=> [(4,I.of (aE.1)),(10,I.of (aE.2.1)),(11,I.of (aE.2.2.1)),(17,I.of (aE.2.2.2))]) aE) (fun aE ax=>Sum.elim (fun aE=> []) (fun aE=> []) aE) () (fun s1 r h ax=> ?_) fun ax=> ?_
 ·clear aq
  refine aD ?_
  refine bj dZ ?_
  refine bM ?_
  refine ck h (fun h=>?_) fun h=>?_
  ·refine cO ?_
   refine ai.seq ?_
   refine ai.block ?_
   refine aD ?_
   obtain⟨a4,cw,h⟩:=aw h
   refine fL cw Tryz.underlying24 n0 ?_
   refine aW (cL n0) ?_
   refine cG nm fun a7=> ?_
   refine ca 0 n0 ?_
   refine bS ?_
   refine aW (a0 DL) ?_
   refine b3 0 m9 bG ?_
   refine aB ?_
   refine bj gb ?_
   refine aN ?_
   refine ck h (fun h=>?_) fun h=>?_
   ·refine aD ?_
    refine aW (a0 DP) ?_
    refine b3 0 m7 bG ?_
    refine aQ ?_
    refine aN ?_
    refine ai.ret ?_
    refine ag.eC ?_
    refine ag.ret ?_
    obtain rfl:=aI h
    exact eh () 1
   ·refine ai.skip ?_
    refine ag.ea ?_
    refine ag.next ?_
    refine ai.cl ?_
    refine bj dg ?_
    refine aB ?_
    refine ah.nil ?_
    obtain rfl:=aI h
    exact fo () 1
  ·refine ai.exit ?_
   refine ag.exit ?_
   obtain rfl:=aI h
   exact eh () 0
 ·clear aq
  rcases az with az | az
  ·simp only [Sum.elim_inl] at h
   refine ag.fe ?_
   refine ag.next ?_
   refine aD ?_
   refine aQ ?_
   refine aN ?_
   refine ai.ret ?_
   obtain rfl:=aI h
   exact c9
  ·simp only [Sum.elim_inr] at h
   refine ag.eC ?_
   refine ag.ret ?_
   obtain rfl:=aI h
   exact c9
theorem C9 {aa:ao} {aj:Int} {r:ao} (h:sb aa aj=some r):bx Tryz.prog 46 [I.of (aa),I.of (aj)] (I.of (r)):=by
 unfold sb at h
 refine bx.of Tryz.func46 rfl Tryz.ntmps46 rfl fun W A=> ?_
 refine aD ?_
 refine cd fun aT=> ?_
 refine cG dP fun a7=> ?_
 refine bM ?_
 refine ai.block ?_
 refine aD ?_
 refine aB ?_
 refine bj kX ?_
 refine aQ ?_
 refine aN ?_
 refine ck h (fun h=>?_) fun h=>?_
 ·refine aD ?_
  refine cc 1 bT ?_
  refine ca 0 bT ?_
  refine aN ?_
  refine ai.ret ?_
  refine ag.eC ?_
  refine ag.ret ?_
  obtain rfl:=aI h
  exact ag.gG rfl (eL 0 bT)
 ·refine aD ?_
  refine aB ?_
  refine bj kX ?_
  refine aQ ?_
  refine aN ?_
  refine ck h (fun h=>?_) fun h=>?_
  ·refine aD ?_
   refine aW (a0 nh) ?_
   refine b3 1 ia fH ?_
   refine aB ?_
   refine bj kY ?_
   refine aW (iy Tryz.underlying3 Tryz.underlying130) ?_
   refine bp (nd (hc 1 rfl) (ae rfl)) ?_
   refine bp (sj (ae rfl) (hc 1 rfl)) ?_
   obtain⟨bk,dc,h⟩:=aw h
   refine cZ dc (si (ae rfl) (ae rfl)) ?_
   refine aW (a0 jP) ?_
   refine b3 1 ev fH ?_
   refine g2 gS dP { dD:=bk,bY:=aa.bY:ao } (ij ia (ij ev .nil)) ?_
   refine ca 0 bT ?_
   refine aN ?_
   refine ai.ret ?_
   refine ag.eC ?_
   refine ag.ret ?_
   obtain rfl:=aI h
   exact ag.gG rfl (eL 0 bT)
  ·refine aD ?_
   refine aB ?_
   refine bj Bm ?_
   refine aQ ?_
   refine aN ?_
   refine ck h (fun h=>?_) fun h=>?_
   ·refine aD ?_
    refine g2 gS dP (default:ao) .nil ?_
    refine ca 0 bT ?_
    refine aN ?_
    refine ai.ret ?_
    refine ag.eC ?_
    refine ag.ret ?_
    obtain rfl:=aI h
    exact ag.gG rfl (eL 0 bT)
   ·refine ai.skip ?_
    refine ag.ea ?_
    refine ag.next ?_
    refine aD ?_
    refine aW (a0 jP) ?_
    refine b3 1 ev fH ?_
    refine aB ?_
    refine aW (iy Tryz.underlying3 Tryz.underlying130) ?_
    refine bp (nd (hc 1 rfl) (ae rfl)) ?_
    refine bp (sj (ae rfl) (hc 1 rfl)) ?_
    refine bj si ?_
    obtain⟨c8,ho,h⟩:=aw h
    refine cZ ho (cC (b:=({ (default:ao) with bY:=aa.bY &&& (((1#64) <<< (BitVec.ofInt 64 aj).toNat) - (1#64)) } :ao)) rfl gS dP (.cons ev rfl (ae rfl) rfl (.nil))) ?_
    refine ca 0 bT ?_
    refine aN ?_
    refine ai.ret ?_
    obtain rfl:=aI h
    exact ag.gG rfl (eL 0 bT)
theorem OI {aa:Int} {aj:Int} {r:ao} (h:AF aa aj=some r):bx Tryz.prog 109 [I.of (aa),I.of (aj)] (I.of (r)):=by
 unfold AF at h
 refine bx.of Tryz.func109 rfl Tryz.ntmps109 rfl fun W A=> ?_
 refine aD ?_
 refine cG dP fun aT=> ?_
 refine bS ?_
 refine aB ?_
 refine aW (iy Tryz.underlying3 Tryz.underlying130) ?_
 refine bp (nd (hc 1 rfl) (ae rfl)) ?_
 refine bp (sj (ae rfl) (hc 1 rfl)) ?_
 refine aB ?_
 refine aB ?_
 refine bj kY ?_
 refine aW (iy Tryz.underlying3 Tryz.underlying130) ?_
 refine bp (nd (hc 1 rfl) (ae rfl)) ?_
 refine bp (sj (ae rfl) (hc 1 rfl)) ?_
 obtain⟨bk,dc,h⟩:=aw h
 refine cZ dc (sj (ae rfl) (ae rfl)) ?_
 refine g2 gS dP ({ (default:ao) with bY:=bk } :ao) (ij ev .nil) ?_
 refine ca 0 bT ?_
 refine aN ?_
 refine ai.ret ?_
 obtain rfl:=aI h
 exact ag.gG rfl (eL 0 bT)
end Go.Proofs.YtmnggbjcnoffeaaGreat
namespace Go.Proofs.YtmnggbjcnoffeaaGreat
open Go Gv
set_option linter.unusedVariables false
set_option linter.unusedSimpArgs false
set_option maxRecDepth 100000
set_option maxHeartbeats 2000000
theorem wI {aa:Vector ao 4} {aj:Vector ao 4} {aR:ao→ao→Option ao} {r:(Vector ao 4)} (h:po aa aj aR=some r):bx Tryz.prog 192 [I.of (aa),I.of (aj),I.vx Tryz.prog aR] (I.of (r)):=by
 unfold po at h
 refine bx.of Tryz.func192 rfl Tryz.ntmps192 rfl fun W A=> ?_
 refine aD ?_
 refine cd fun aT=> ?_
 refine cd fun a7=> ?_
 refine cG pW fun bU=> ?_
 refine bM ?_
 refine aD ?_
 refine aB ?_
 refine aN ?_
 refine ai.block ?_
 obtain⟨az,aq,h⟩:=aw h
 refine gB (γ:=Unit) (δ:=Unit) aq [0,1,2,3,4,6] (fun s1 ax=> [(8,I.of (s1.1))]) (fun s1 ax=> [(2,⟨some aT,.var (s1.2:Vector ao 4)⟩)]) (fun aE=>Exit.exit 0) (fun aE ax=> [(8,I.of (aE.1)),(9,I.of (aE.2.1))]) (fun aE ax=> [(2,⟨some aT,.var (aE.2.2:Vector ao 4)⟩)]) () (fun s1 r h ax=> ?_) fun ax=> ?_
 ·clear aq
  refine aD ?_
  refine bj dZ ?_
  refine bM ?_
  refine ck h (fun h=>?_) fun h=>?_
  ·refine cO ?_
   refine ai.seq ?_
   refine ai.block ?_
   refine aD ?_
   refine aB ?_
   refine aQ ?_
   refine aN ?_
   obtain⟨a4,cw,h⟩:=aw h
   obtain⟨bZ,c7,h⟩:=aw h
   obtain⟨ak,bB,h⟩:=aw h
   obtain⟨dj,fB,h⟩:=aw h
   refine ai.draw mixed 10 [some 11,some 12,some 13,some 14,some 15,some 16,some 17,some 18,some 19,some 20] [[],[],[],[2],[3],[],[5],[6],[1,4,7],[0]] [.val _,.val _,.val _,.val _,.val _,.val _,.val _,.val _,.val _,.val _] [false,false,false,false,false,false,false,false,false,false] (by kernel_rfl) rfl rfl rfl (fun dx=>⟨cW,cW,cW,dT fun ay au=>eV (k:=a4) g1 (ae rfl) (ae rfl) (cu cw),ee 2 ((aL.id (Vector ao 4)).comp (aL.idx (α:=ao) 4 a4 (cu cw).1)) bT,cW,dT fun ay au=>eV (k:=bZ) g1 (ae rfl) (ae rfl) (cu c7),ee 1 ((aL.id (Vector ao 4)).comp (aL.idx (α:=ao) 4 bZ (cu c7).1)) bT,dT fun ay au=>Dv (ae rfl) (ae rfl) (ae rfl) bB,dT fun ay au=>eV (k:=dj) g1 (ae rfl) (ae rfl) (cu fB),trivial⟩) fun dx=> ?_
   refine nB 2 ((aL.id (Vector ao 4)).comp (aL.idx (α:=ao) 4 dj (cu fB).1)) bT ?_
   refine ah.nil ?_
   refine ag.ea ?_
   refine ag.next ?_
   refine ai.cl ?_
   refine bj dg ?_
   refine aB ?_
   refine ah.nil ?_
   obtain rfl:=aI h
   exact fo () 0
  ·refine ai.exit ?_
   refine ag.exit ?_
   obtain rfl:=aI h
   exact eh () 0
 ·clear aq
  refine ag.fe ?_
  refine ag.next ?_
  refine aD ?_
  refine cc 2 fI ?_
  refine ca 0 fI ?_
  refine aN ?_
  refine ai.ret ?_
  obtain rfl:=aI h
  exact ag.gG rfl (eL 0 fI)
theorem Hq {aa:List a2} {aj:a2→Option Bool} {r:Int} (h:tG aa aj=some r):bx Tryz.prog 191 [I.of (aa),I.n9 Tryz.prog aj] (I.of (r)):=by
 unfold tG at h
 refine bx.of Tryz.func191 rfl Tryz.ntmps191 rfl fun W A=> ?_
 refine aD ?_
 refine aQ ?_
 refine bM ?_
 refine aD ?_
 refine aB ?_
 refine aW (eJ Tryz.underlying156) ?_
 refine aB ?_
 refine aN ?_
 refine ai.block ?_
 obtain⟨az,aq,h⟩:=aw h
 refine gB (γ:=Unit) (δ:=Unit) aq [0,1,7] (fun s1 ax=> [(4,I.of (0:Int)),(8,I.of (s1))]) (fun s1 ax=> []) (fun aE=>Sum.elim (fun aE=>Exit.exit 0) (fun aE=>Exit.ret) aE) (fun aE ax=>Sum.elim (fun aE=> [(4,I.of (0:Int)),(8,I.of (aE.1)),(9,I.of (aE.2))]) (fun aE=> [(4,I.of (aE.1)),(5,I.of (aE.2.1)),(8,I.of (aE.2.2.1)),(9,I.of (aE.2.2.2.1)),(16,I.of (aE.2.2.2.2))]) aE) (fun aE ax=>Sum.elim (fun aE=> []) (fun aE=> []) aE) () (fun s1 r h ax=> ?_) fun ax=> ?_
 ·clear aq
  refine aD ?_
  refine bj dZ ?_
  refine bM ?_
  refine ck h (fun h=>?_) fun h=>?_
  ·refine cO ?_
   refine ai.seq ?_
   refine ai.block ?_
   refine aD ?_
   refine aB ?_
   refine aQ ?_
   refine bS ?_
   refine aB ?_
   refine aB ?_
   refine aB ?_
   obtain⟨a4,cw,h⟩:=aw h
   refine fL cw Tryz.underlying156 c0 ?_
   refine aW (cL c0) ?_
   obtain⟨ak,bB,h⟩:=aw h
   refine bp (ux (ae rfl) (ae rfl) bB) ?_
   refine aN ?_
   refine ck h (fun h=>?_) fun h=>?_
   ·refine aD ?_
    refine aB ?_
    refine aQ ?_
    refine aN ?_
    refine ai.ret ?_
    refine ag.eC ?_
    refine ag.ret ?_
    obtain rfl:=aI h
    exact eh () 0
   ·refine ai.skip ?_
    refine ag.ea ?_
    refine ag.next ?_
    refine ai.cl ?_
    refine bj dg ?_
    refine aB ?_
    refine ah.nil ?_
    obtain rfl:=aI h
    exact fo () 0
  ·refine ai.exit ?_
   refine ag.exit ?_
   obtain rfl:=aI h
   exact eh () 0
 ·clear aq
  rcases az with az | az
  ·simp only [Sum.elim_inl] at h
   refine ag.fe ?_
   refine ag.next ?_
   refine aD ?_
   refine aQ ?_
   refine aN ?_
   refine ai.ret ?_
   obtain rfl:=aI h
   exact c9
  ·simp only [Sum.elim_inr] at h
   refine ag.eC ?_
   refine ag.ret ?_
   obtain rfl:=aI h
   exact c9
theorem Ni {aa:List a2} {r:(List a2)} (h:vY aa=some r):cz Tryz.prog 152 [I.of (aa)] [] (δ:=(Option Nat × Nat)) (fun d=>I.eq (aV d.1 (r).length d.2)) (fun d=> [⟨d.1,.row 155 (r:List a2) d.2⟩]):=by
 unfold vY at h
 refine cz.of Tryz.func152 rfl Tryz.ntmps152 rfl fun W A=> ?_
 refine aD ?_
 refine ah.own (α:=a2) 155 ?_
 refine bp (eG qO) ?_
 refine bM ?_
 refine aD ?_
 refine aB ?_
 refine bp (Ex Tryz.underlying156 (ae rfl)) ?_
 refine aN ?_
 refine ai.Ey (ae rfl) (fun an=> ?_) ?_
 ·subst an; replace h:=Dk h; subst h
  have h:some ([]:List a2)=some []:=rfl
  refine aD ?_
  refine ah.own (α:=a2) 155 ?_
  refine bp (eG qO) ?_
  refine aN ?_
  refine ai.ret ?_
  refine ag.ret ?_
  refine ag.b6 0 rfl ?_
  replace h:=aI h
  clear h
  exact kj (none,0)
 ·refine cO ?_
  refine aD ?_
  refine ah.oT (α:=a2) (r:=([]:List a2)) Tryz.underlying156 c0 hJ rfl rfl (.nil) rfl fun gH=> ?_
  refine aB ?_
  obtain⟨ak,bB,h⟩:=aw h
  refine je 0 Tryz.underlying156 c0 hJ bB fun jx eU=> ?_
  refine aQ ?_
  refine aN ?_
  refine ai.ret ?_
  refine ag.b6 0 rfl ?_
  obtain rfl:=aI h
  exact kj (jx,eU)
theorem H2 {aa:Int} {r:Int × Int} (h:ug aa=some r):bx Tryz.prog 164 [I.of (aa)] (I.cF [I.of (r.1),I.of (r.2)]):=by
 unfold ug at h
 refine bx.of Tryz.func164 rfl Tryz.ntmps164 rfl fun W A=> ?_
 refine aD ?_
 refine aQ ?_
 refine aQ ?_
 refine bS ?_
 refine aB ?_
 obtain⟨ak,bB,h⟩:=aw h
 refine bp (KK (ae rfl) (bz 128) (IF bB)) ?_
 refine aB ?_
 obtain⟨aP,cg,h⟩:=aw h
 refine bp (xR (ae rfl) (bz 128) (w6 cg)) ?_
 refine bj kY ?_
 refine aQ ?_
 refine aQ ?_
 refine aN ?_
 refine ai.ret ?_
 obtain rfl:=aI h
 exact s3
theorem fX {aa:bw} {aj:Int} {cv:Nat} {r:Int × bw} (h:fq aa aj=some r):cz Tryz.prog 32 [I.eq (.pointer (some ⟨cv,0,none⟩)),I.of (aj)] [⟨some cv,.var (aa:bw)⟩] (δ:=Unit) (fun d=>I.of (r.1)) (fun d=> [⟨some cv,.var (r.2:bw)⟩]):=by
 unfold fq at h
 refine cz.of Tryz.func32 rfl Tryz.ntmps32 rfl fun W A=> ?_
 refine aD ?_
 refine aQ ?_
 refine bM ?_
 refine aD ?_
 refine aB ?_
 obtain⟨ak,bB,h⟩:=aw h
 refine ah.pa (iF.call [0] Lw (NY bB) ⟨ae rfl,trivial⟩ rfl ⟨rfl,trivial⟩ rfl) rfl rfl rfl ?_
 refine aW ju ?_
 refine aB ?_
 refine dU cQ ?_
 refine jX dZ ?_
 refine o1 ?_
 refine aN ?_
 refine ck h (fun h=>?_) fun h=>?_
 ·refine aD ?_
  refine aQ ?_
  refine aN ?_
  refine ai.ret ?_
  refine ag.ret ?_
  refine ag.b6 0 rfl ?_
  obtain rfl:=aI h
  exact kj ()
 ·refine cO ?_
  refine aD ?_
  refine aB ?_
  refine aW fw ?_
  refine aW (a0 xm) ?_
  refine b3 0 wk bG ?_
  refine bj dg ?_
  refine aW fw ?_
  refine aW (a0 xm) ?_
  refine nB 0 wk bG ?_
  refine bM ?_
  obtain⟨a4,cw,h⟩:=aw h
  obtain⟨aP,cg,h⟩:=aw h
  refine ai.draw mixed 14 [some 19,some 20,some 21,some 22,some 23,some 24,some 25,some 26,some 27,some 28,some 29,some 30,some 31,some 32] [[],[0],[1],[2],[],[4],[5],[6],[7],[3,8],[9],[10],[],[11,12]] [.val _,.val _,.val _,.val _,.val _,.val _,.val _,.val _,.val _,.val _,.val _,.val _,.val _,.val _] [false,false,false,false,false,false,false,false,false,false,false,false,false,false] (by kernel_rfl) rfl rfl rfl (fun dx=>⟨cW,H1 fw,H1 (a0 DK),ee 0 Ap BH,cW,H1 fw,H1 (a0 xm),ee 0 wk bG,mZ kY,mg cw Tryz.underlying22 FK,H1 (cL FK),H1 (Ss Tryz.underlying5 Tryz.underlying3),cW,dT fun ay au=>xR (ae rfl) (ae rfl) (w6 cg),trivial⟩) fun dx=> ?_
  refine aQ ?_
  refine aN ?_
  refine ai.ret ?_
  refine ag.b6 0 rfl ?_
  obtain rfl:=aI h
  exact kj ()
theorem AA {aa:a3} {aj:Int} {r:Int} (h:qC aa aj=some r):bx Tryz.prog 82 [I.of (aa),I.of (aj)] (I.of (r)):=by
 unfold qC at h
 refine bx.of Tryz.func82 rfl Tryz.ntmps82 rfl fun W A=> ?_
 refine aD ?_
 refine cd fun aT=> ?_
 refine cd fun a7=> ?_
 refine aQ ?_
 refine bS ?_
 refine aW (a0 lp) ?_
 refine b3 1 lk k1 ?_
 refine ah.share (α:=Int) 0 3 rfl rfl ?_
 refine bp (uL (F:=(fun fu=>Ag fu aj)) (τs:= [I.ptr aj]) St ⟨ae rfl,trivial⟩ (fun _ _ h=>NM h)) ?_
 obtain⟨ak,bB,h⟩:=aw h
 refine dF Su (Nd bB) ?_
 refine aQ ?_
 refine aN ?_
 refine ai.ret ?_
 obtain rfl:=aI h
 exact c9
theorem HL {aa:a3} {aj:Int} {r:Int} (h:tW aa aj=some r):bx Tryz.prog 85 [I.of (aa),I.of (aj)] (I.of (r)):=by
 unfold tW at h
 refine bx.of Tryz.func85 rfl Tryz.ntmps85 rfl fun W A=> ?_
 refine aD ?_
 refine cd fun aT=> ?_
 refine cd fun a7=> ?_
 refine aQ ?_
 refine bS ?_
 refine aW (a0 uK) ?_
 refine b3 1 tJ sM ?_
 refine ah.share (α:=Int) 0 3 rfl rfl ?_
 refine bp (uL (F:=(fun fu=>Ah fu aj)) (τs:= [I.ptr aj]) Sv ⟨ae rfl,trivial⟩ (fun _ _ h=>NN h)) ?_
 obtain⟨ak,bB,h⟩:=aw h
 refine dF Sw (Nf bB) ?_
 refine aQ ?_
 refine aN ?_
 refine ai.ret ?_
 obtain rfl:=aI h
 exact c9
end Go.Proofs.YtmnggbjcnoffeaaGreat
namespace Go.Proofs.YtmnggbjcnoffeaaGreat
open Go Gv
set_option linter.unusedVariables false
set_option linter.unusedSimpArgs false
set_option maxRecDepth 100000
set_option maxHeartbeats 2000000
theorem ur {hp:bb Cell} {aa:Int} {Q:Ref × (bb Cell)→Prop} (h:AL hp aa Q):cz Tryz.prog 243 [I.of (aa)] ([] ++ bd hp) (δ:= {r:Ref × (bb Cell) // Q r} × Unit) (fun d=>I.of (d.1.1.1)) (fun d=> [] ++ bd d.1.1.2):=by
 unfold AL at h
 refine cz.of Tryz.func243 rfl Tryz.ntmps243 rfl fun W A=> ?_
 refine aD ?_
 refine bp (eG (qG)) ?_
 refine bS ?_
 refine aB ?_
 refine bj Bk ?_
 refine bj xQ ?_
 obtain⟨bk,dc,h⟩:=aG.cT h
 refine cZ dc (cC (b:=({ (default:fY) with eN:=min (max 1 aa) 128 } :fY)) rfl Sx Sy (.cons wo rfl (ae rfl) rfl (.nil))) ?_
 refine ah.yl 0 rfl (Cell.jb bk) (fun _=>rfl) (ae rfl) rfl fun eg s4=> ?_
 replace h:=aG.qT h eg s4
 refine aQ ?_
 refine aN ?_
 refine ai.ret ?_
 exact ag.gR (⟨⟨((some eg.1:Ref),eg.2),h⟩,()⟩: {r // _} × _) (.refl _) rfl rfl (fP rfl)
theorem Nn {aa:aM} {aj:Int} {r:Bool} (h:z3 aa aj=some r):bx Tryz.prog 279 [I.of (aa),I.ptr aj] (I.of (r)):=by
 unfold z3 at h
 refine bx.of Tryz.func279 rfl Tryz.ntmps279 rfl fun W A=> ?_
 refine aD ?_
 refine cd fun aT=> ?_
 refine aQ ?_
 refine bS ?_
 refine aW (a0 kW) ?_
 refine b3 0 jL bG ?_
 refine aW (cL bG) ?_
 refine bj gb ?_
 refine aQ ?_
 refine aN ?_
 refine ai.ret ?_
 obtain rfl:=aI h
 exact c9
theorem Hp {aa:List aM} {aj:aM→Option Bool} {r:Int} (h:tE aa aj=some r):bx Tryz.prog 110 [I.of (aa),I.n9 Tryz.prog aj] (I.of (r)):=by
 unfold tE at h
 refine bx.of Tryz.func110 rfl Tryz.ntmps110 rfl fun W A=> ?_
 refine aD ?_
 refine aQ ?_
 refine bM ?_
 refine aD ?_
 refine aB ?_
 refine aW (eJ Tryz.underlying38) ?_
 refine aB ?_
 refine aN ?_
 refine ai.block ?_
 obtain⟨az,aq,h⟩:=aw h
 refine gB (γ:=Unit) (δ:=Unit) aq [0,1,7] (fun s1 ax=> [(4,I.of (0:Int)),(8,I.of (s1))]) (fun s1 ax=> []) (fun aE=>Sum.elim (fun aE=>Exit.exit 0) (fun aE=>Exit.ret) aE) (fun aE ax=>Sum.elim (fun aE=> [(4,I.of (0:Int)),(8,I.of (aE.1)),(9,I.of (aE.2))]) (fun aE=> [(4,I.of (aE.1)),(5,I.of (aE.2.1)),(8,I.of (aE.2.2.1)),(9,I.of (aE.2.2.2.1)),(16,I.of (aE.2.2.2.2))]) aE) (fun aE ax=>Sum.elim (fun aE=> []) (fun aE=> []) aE) () (fun s1 r h ax=> ?_) fun ax=> ?_
 ·clear aq
  refine aD ?_
  refine bj dZ ?_
  refine bM ?_
  refine ck h (fun h=>?_) fun h=>?_
  ·refine cO ?_
   refine ai.seq ?_
   refine ai.block ?_
   refine aD ?_
   refine aB ?_
   refine aQ ?_
   refine bS ?_
   refine aB ?_
   refine aB ?_
   refine aB ?_
   obtain⟨a4,cw,h⟩:=aw h
   refine fL cw Tryz.underlying38 cV ?_
   refine aW (cL cV) ?_
   obtain⟨ak,bB,h⟩:=aw h
   refine bp (ux (ae rfl) (ae rfl) bB) ?_
   refine aN ?_
   refine ck h (fun h=>?_) fun h=>?_
   ·refine aD ?_
    refine aB ?_
    refine aQ ?_
    refine aN ?_
    refine ai.ret ?_
    refine ag.eC ?_
    refine ag.ret ?_
    obtain rfl:=aI h
    exact eh () 0
   ·refine ai.skip ?_
    refine ag.ea ?_
    refine ag.next ?_
    refine ai.cl ?_
    refine bj dg ?_
    refine aB ?_
    refine ah.nil ?_
    obtain rfl:=aI h
    exact fo () 0
  ·refine ai.exit ?_
   refine ag.exit ?_
   obtain rfl:=aI h
   exact eh () 0
 ·clear aq
  rcases az with az | az
  ·simp only [Sum.elim_inl] at h
   refine ag.fe ?_
   refine ag.next ?_
   refine aD ?_
   refine aQ ?_
   refine aN ?_
   refine ai.ret ?_
   obtain rfl:=aI h
   exact c9
  ·simp only [Sum.elim_inr] at h
   refine ag.eC ?_
   refine ag.ret ?_
   obtain rfl:=aI h
   exact c9
theorem M8 {aa:List aM} {aj:aM} {aR:aM→aM→Option Int} {r:Int × Bool} (h:vS aa aj aR=some r):bx Tryz.prog 274 [I.of (aa),I.of (aj),I.vx Tryz.prog aR] (I.cF [I.of (r.1),I.of (r.2)]):=by
 unfold vS at h
 refine bx.of Tryz.func274 rfl Tryz.ntmps274 rfl fun W A=> ?_
 refine aD ?_
 refine cd fun aT=> ?_
 refine aQ ?_
 refine aQ ?_
 refine bS ?_
 refine aB ?_
 refine aW (eJ Tryz.underlying38) ?_
 refine aQ ?_
 refine bS ?_
 refine aB ?_
 refine aQ ?_
 refine aQ ?_
 refine bM ?_
 refine ai.block ?_
 obtain⟨az,aq,h⟩:=aw h
 refine gB (γ:=Unit) (δ:=Unit) aq [0,1,2,4,6,7,8] (fun s1 ax=> [(9,I.of (s1.1)),(10,I.of (s1.2))]) (fun s1 ax=> []) (fun aE=>Exit.exit 0) (fun aE ax=> [(9,I.of (aE.1)),(10,I.of (aE.2.1)),(17,I.of (aE.2.2))]) (fun aE ax=> []) () (fun s1 r h ax=> ?_) fun ax=> ?_
 ·clear aq
  refine ai.seq ?_
  refine aD ?_
  refine aB ?_
  refine aB ?_
  refine bj dZ ?_
  refine aN ?_
  refine ck h (fun h=>?_) fun h=>?_
  ·refine cO ?_
   refine ai.block ?_
   refine aD ?_
   refine aB ?_
   refine aB ?_
   refine bj dg ?_
   refine aW (iy Tryz.underlying3 Tryz.underlying130) ?_
   refine bp (xn (ae rfl) (hc 1 rfl)) ?_
   refine aW (RA Tryz.underlying130 Tryz.underlying3) ?_
   refine aQ ?_
   refine bM ?_
   obtain⟨a4,cw,h⟩:=aw h
   obtain⟨ak,bB,h⟩:=aw h
   refine ai.draw mixed 8 [some 24,some 25,some 26,some 27,some 28,some 29,some 30,some 31] [[],[],[],[1,2],[3],[],[0,4,5],[6]] [.val _,.val _,.val _,.val _,.val _,.val _,.val _,.val _] [false,false,false,false,false,false,false,false] (by kernel_rfl) rfl rfl rfl (fun dx=>⟨cW,cW,cW,mg cw Tryz.underlying38 cV,H1 (cL cV),fA 0 cV,dT fun ay au=>Dv (ae rfl) (ae rfl) (ae rfl) bB,mZ dZ,trivial⟩) fun dx=> ?_
   refine aN ?_
   obtain⟨bO,cM,h⟩:=aw h
   refine jd (γ:=Unit) [0,1,2,4,6,7,8,11,17,31] (fun a1=> [(9,I.of (bO.1)),(10,I.of (bO.2))]) (fun a1=> []) (fun a1=> ?_) (fun hm ar=> ?_) fun hm ar=> ?_
   ·clear cM
    refine ag.ea ?_
    obtain rfl:=aI h
    exact fo () 0
   ·have h:=ht ar cM
    refine ai.cl ?_
    refine aB ?_
    obtain⟨bk,dc,h⟩:=aw h
    refine cZ dc (dg (ae rfl) (bz 1)) ?_
    refine aQ ?_
    refine ah.nil ?_
    obtain rfl:=aI h
    exact dI 0 (hm ())
   ·have h:=hv ar cM
    refine ai.cl ?_
    refine aB ?_
    refine aQ ?_
    refine ah.nil ?_
    obtain rfl:=aI h
    exact dI 0 (hm ())
  ·refine ai.exit ?_
   refine ag.exit ?_
   obtain rfl:=aI h
   exact eh () 0
 ·clear aq
  refine ag.fe ?_
  refine ag.next ?_
  refine ai.seq ?_
  refine k5 [0,1,2,4,7,8,9,10,17] ?_
  obtain⟨bZ,c7,h⟩:=aw h
  obtain⟨aP,cg,h⟩:=aw h
  refine ai.draw mixed 15 [some 35,some 36,some 37,some 38,some 39,some 40,some 41,some 42,some 43,some 44,some 45,some 46,some 47,some 48,some 6] [[],[],[],[1,2],[3],[4],[4],[4],[4,6,7],[4,8],[4],[4,5,9,10],[4,11],[4,12],[0]] [.val _,.val _,.val _,.val _,.val _,.val _,.val _,.val _,.val _,.val _,.val _,.val _,.val _,.val _,.val _] [false,false,false,false,false,false,false,false,false,false,false,false,false,false,false] (by kernel_rfl) rfl rfl rfl (fun il=>⟨cW,cW,cW,mZ dZ,cW,hX fun ay au=>fun hb=>cQ (ae rfl),hX fun ay au=>fun hb=>cQ (ae rfl),hX fun ay au=>fun hb=>cQ (ae rfl),hX fun ay au=>fun hb=>oK (k:=bZ) Tryz.underlying38 cV (cY rfl hb) (cY rfl hb) (cu (ib c7 hb)),hX fun ay au=>fun hb=>cL cV (cY rfl hb),hX fun ay au=>fun hb=>gx (i:=0) (aL.id aM) (r:=aj) cV (ae rfl) (au _ _ rfl rfl) rfl rfl,hX fun ay au=>fun hb=>Dv (cY rfl hb) (cY rfl hb) (cY rfl hb) (ib cg hb),hX fun ay au=>fun hb=>gb (cY rfl hb) (bz 0),dT fun ay au=>oJ (ae rfl) (ae rfl) (fun h=>h),GV,trivial⟩) fun il=> ?_
  refine aQ ?_
  refine aN ?_
  refine ai.ret ?_
  obtain rfl:=aI h
  exact s3
theorem HM {aa:Int} {r:Bool} (h:wJ aa=some r):bx Tryz.prog 126 [I.of (aa)] (I.of (r)):=by
 unfold wJ at h
 refine bx.of Tryz.func126 rfl Tryz.ntmps126 rfl fun W A=> ?_
 refine aD ?_
 refine aQ ?_
 refine bS ?_
 refine aB ?_
 refine aB ?_
 refine bj sC ?_
 refine aQ ?_
 refine aN ?_
 refine ai.ret ?_
 obtain rfl:=aI h
 exact c9
theorem Hs {aa:List cn} {aj:cn→Option Bool} {r:Int} (h:tH aa aj=some r):bx Tryz.prog 146 [I.of (aa),I.n9 Tryz.prog aj] (I.of (r)):=by
 unfold tH at h
 refine bx.of Tryz.func146 rfl Tryz.ntmps146 rfl fun W A=> ?_
 refine aD ?_
 refine aQ ?_
 refine bM ?_
 refine aD ?_
 refine aB ?_
 refine aW (eJ Tryz.underlying62) ?_
 refine aB ?_
 refine aN ?_
 refine ai.block ?_
 obtain⟨az,aq,h⟩:=aw h
 refine gB (γ:=Unit) (δ:=Unit) aq [0,1,7] (fun s1 ax=> [(4,I.of (0:Int)),(8,I.of (s1))]) (fun s1 ax=> []) (fun aE=>Sum.elim (fun aE=>Exit.exit 0) (fun aE=>Exit.ret) aE) (fun aE ax=>Sum.elim (fun aE=> [(4,I.of (0:Int)),(8,I.of (aE.1)),(9,I.of (aE.2))]) (fun aE=> [(4,I.of (aE.1)),(5,I.of (aE.2.1)),(8,I.of (aE.2.2.1)),(9,I.of (aE.2.2.2.1)),(16,I.of (aE.2.2.2.2))]) aE) (fun aE ax=>Sum.elim (fun aE=> []) (fun aE=> []) aE) () (fun s1 r h ax=> ?_) fun ax=> ?_
 ·clear aq
  refine aD ?_
  refine bj dZ ?_
  refine bM ?_
  refine ck h (fun h=>?_) fun h=>?_
  ·refine cO ?_
   refine ai.seq ?_
   refine ai.block ?_
   refine aD ?_
   refine aB ?_
   refine aQ ?_
   refine bS ?_
   refine aB ?_
   refine aB ?_
   refine aB ?_
   obtain⟨a4,cw,h⟩:=aw h
   refine fL cw Tryz.underlying62 hS ?_
   refine aW (cL hS) ?_
   obtain⟨ak,bB,h⟩:=aw h
   refine bp (ux (ae rfl) (ae rfl) bB) ?_
   refine aN ?_
   refine ck h (fun h=>?_) fun h=>?_
   ·refine aD ?_
    refine aB ?_
    refine aQ ?_
    refine aN ?_
    refine ai.ret ?_
    refine ag.eC ?_
    refine ag.ret ?_
    obtain rfl:=aI h
    exact eh () 0
   ·refine ai.skip ?_
    refine ag.ea ?_
    refine ag.next ?_
    refine ai.cl ?_
    refine bj dg ?_
    refine aB ?_
    refine ah.nil ?_
    obtain rfl:=aI h
    exact fo () 0
  ·refine ai.exit ?_
   refine ag.exit ?_
   obtain rfl:=aI h
   exact eh () 0
 ·clear aq
  rcases az with az | az
  ·simp only [Sum.elim_inl] at h
   refine ag.fe ?_
   refine ag.next ?_
   refine aD ?_
   refine aQ ?_
   refine aN ?_
   refine ai.ret ?_
   obtain rfl:=aI h
   exact c9
  ·simp only [Sum.elim_inr] at h
   refine ag.eC ?_
   refine ag.ret ?_
   obtain rfl:=aI h
   exact c9
theorem N0 {aa:cn} {r:Bool} (h:CX aa=some r):bx Tryz.prog 207 [I.of (aa)] (I.of (r)):=by
 unfold CX at h
 refine bx.of Tryz.func207 rfl Tryz.ntmps207 rfl fun W A=> ?_
 refine aD ?_
 refine cd fun aT=> ?_
 refine aQ ?_
 refine bS ?_
 refine aW (a0 pB) ?_
 refine b3 0 ka bG ?_
 refine bj gb ?_
 refine aQ ?_
 refine aN ?_
 refine ai.ret ?_
 obtain rfl:=aI h
 exact c9
end Go.Proofs.YtmnggbjcnoffeaaGreat
namespace Go.Proofs.YtmnggbjcnoffeaaGreat
open Go Gv
set_option linter.unusedVariables false
set_option linter.unusedSimpArgs false
set_option maxRecDepth 100000
set_option maxHeartbeats 2000000
theorem OX {aa:a3} {r:(Vector (List Int) 6)} (h:wZ aa=some r):bx Tryz.prog 142 [I.of (aa)] (I.of (r)):=by
 unfold wZ at h
 refine bx.of Tryz.func142 rfl Tryz.ntmps142 rfl fun W A=> ?_
 refine aD ?_
 refine cd fun aT=> ?_
 refine cG KL fun a7=> ?_
 refine bS ?_
 refine ah.nU (z:=(default:Vector (List Int) 6)) [0,1,2,3,4,5] N5 KL rfl fun bU=> ?_
 refine ah.own (α:=Int) 3 ?_
 refine ah.own (α:=Int) 3 ?_
 refine ah.own (α:=Int) 3 ?_
 refine ah.own (α:=Int) 3 ?_
 refine ah.own (α:=Int) 3 ?_
 refine ah.own (α:=Int) 3 ?_
 refine bM ?_
 refine aD ?_
 refine aW (a0 uK) ?_
 refine b3 8 tJ sM ?_
 refine aW (eJ Tryz.underlying24) ?_
 refine aB ?_
 refine aN ?_
 refine ai.block ?_
 obtain⟨az,aq,h⟩:=aw h
 refine gB (γ:=(Option Nat × Nat)) (δ:=(Option Nat × Nat)) aq [0,1,2,3,17,18] (fun s1 ax=> [(19,I.of (s1.1))]) (fun s1 ax=> [(5,⟨ax.1,.row 3 (s1.2.1:List Int) ax.2⟩),(6,⟨some bU,.cj (s1.2.2:Vector (List Int) 6) [(0,aV ax.1 s1.2.1.length ax.2),(1,aV none ([]:List Int).length 0),(2,aV none ([]:List Int).length 0),(3,aV none ([]:List Int).length 0),(4,aV none ([]:List Int).length 0),(5,aV none ([]:List Int).length 0)]⟩)]) (fun aE=>Exit.exit 0) (fun aE ax=> [(19,I.of (aE.1)),(20,I.of (aE.2.1))]) (fun aE ax=> [(5,⟨ax.1,.row 3 (aE.2.2.1:List Int) ax.2⟩),(6,⟨some bU,.cj (aE.2.2.2:Vector (List Int) 6) [(0,aV ax.1 aE.2.2.1.length ax.2),(1,aV none ([]:List Int).length 0),(2,aV none ([]:List Int).length 0),(3,aV none ([]:List Int).length 0),(4,aV none ([]:List Int).length 0),(5,aV none ([]:List Int).length 0)]⟩)]) (none,0) (fun s1 r h ax=> ?_) fun ax=> ?_
 ·clear aq
  refine aD ?_
  refine bj dZ ?_
  refine bM ?_
  refine ck h (fun h=>?_) fun h=>?_
  ·refine cO ?_
   refine ai.seq ?_
   refine ai.block ?_
   refine aD ?_
   obtain⟨a4,cw,h⟩:=aw h
   refine fL cw Tryz.underlying24 n0 ?_
   refine aW (cL n0) ?_
   refine cG nm fun cR=> ?_
   refine ca 0 n0 ?_
   refine aN ?_
   refine ai.cl ?_
   refine bp (eV (k:=0) nn (ae rfl) (bz 0) ⟨by decide,rfl⟩) ?_
   refine bp (ie (i:=7) (q:=0) (β:=Vector (List Int) 6) (γ:=Int) kG (ae rfl) rfl rfl) ?_
   refine aW (a0 DL) ?_
   refine b3 0 m9 bG ?_
   refine fM [(aA aa.e2 a4).bF] Tryz.underlying63 bG hy ?_
   obtain⟨ak,bB,h⟩:=aw h
   refine je 6 Tryz.underlying63 bG hy bB fun gH eU=> ?_
   refine bp (eV (k:=0) nn (ae rfl) (bz 0) ⟨by decide,rfl⟩) ?_
   refine ah.iz (i:=7) (γ:=Int) (b':=(c1 s1.2.2 0 []:Vector (List Int) 6)) (os':= [(0,aV gH ak.length eU),(1,aV none ([]:List Int).length 0),(2,aV none ([]:List Int).length 0),(3,aV none ([]:List Int).length 0),(4,aV none ([]:List Int).length 0),(5,aV none ([]:List Int).length 0)]) ((aL.id (Vector (List Int) 6)).comp (aL.idx (α:=List Int) 6 0 (by decide))) kG (ae rfl) (ae rfl) hO rfl rfl rfl rfl ?_
   refine ah.nil ?_
   refine ag.ea ?_
   refine ag.next ?_
   refine ai.cl ?_
   refine bj dg ?_
   refine aB ?_
   refine ah.nil ?_
   obtain rfl:=aI h
   exact fo (gH,eU) 1
  ·refine ai.exit ?_
   refine ag.exit ?_
   obtain rfl:=aI h
   exact eh (ax.1,ax.2) 0
 ·clear aq
  refine ag.fe ?_
  refine ag.next ?_
  refine ai.seq ?_
  refine aD ?_
  refine aW (a0 Ka) ?_
  refine b3 8 Hu Fb ?_
  refine aW (eJ Tryz.underlying25) ?_
  refine aB ?_
  refine aN ?_
  refine ai.block ?_
  obtain⟨aX,aq,h⟩:=aw h
  refine gB (γ:=(Option Nat × Nat)) (δ:=(Option Nat × Nat)) aq [0,1,2,3,17,18,19,20,32,33] (fun s2 a1=> [(34,I.of (s2.1))]) (fun s2 a1=> [(4,⟨a1.1,.row 3 (s2.2.1:List Int) a1.2⟩),(6,⟨some bU,.cj (s2.2.2:Vector (List Int) 6) [(0,aV ax.1 az.2.2.1.length ax.2),(1,aV a1.1 s2.2.1.length a1.2),(2,aV none ([]:List Int).length 0),(3,aV none ([]:List Int).length 0),(4,aV none ([]:List Int).length 0),(5,aV none ([]:List Int).length 0)]⟩)]) (fun da=>Exit.exit 2) (fun da a1=> [(34,I.of (da.1)),(35,I.of (da.2.1))]) (fun da a1=> [(4,⟨a1.1,.row 3 (da.2.2.1:List Int) a1.2⟩),(6,⟨some bU,.cj (da.2.2.2:Vector (List Int) 6) [(0,aV ax.1 az.2.2.1.length ax.2),(1,aV a1.1 da.2.2.1.length a1.2),(2,aV none ([]:List Int).length 0),(3,aV none ([]:List Int).length 0),(4,aV none ([]:List Int).length 0),(5,aV none ([]:List Int).length 0)]⟩)]) (none,0) (fun s2 r h a1=> ?_) fun a1=> ?_
  ·clear aq
   refine aD ?_
   refine bj dZ ?_
   refine bM ?_
   refine ck h (fun h=>?_) fun h=>?_
   ·refine cO ?_
    refine ai.seq ?_
    refine ai.block ?_
    refine aD ?_
    obtain⟨bZ,c7,h⟩:=aw h
    refine fL c7 Tryz.underlying25 Br ?_
    refine aW (cL Br) ?_
    refine cG xT fun ts=> ?_
    refine ca 0 Br ?_
    refine aN ?_
    refine ai.cl ?_
    refine bp (eV (k:=1) nn (ae rfl) (bz 1) ⟨by decide,rfl⟩) ?_
    refine bp (ie (i:=7) (q:=1) (β:=Vector (List Int) 6) (γ:=Int) kG (ae rfl) rfl rfl) ?_
    refine aW (a0 QL) ?_
    refine b3 0 Ar bG ?_
    refine fM [(aA aa.kA bZ).bF] Tryz.underlying63 bG hy ?_
    obtain⟨aP,cg,h⟩:=aw h
    refine je 5 Tryz.underlying63 bG hy cg fun jx nx=> ?_
    refine bp (eV (k:=1) nn (ae rfl) (bz 1) ⟨by decide,rfl⟩) ?_
    refine ah.iz (i:=7) (γ:=Int) (b':=(c1 s2.2.2 1 []:Vector (List Int) 6)) (os':= [(0,aV ax.1 az.2.2.1.length ax.2),(1,aV jx aP.length nx),(2,aV none ([]:List Int).length 0),(3,aV none ([]:List Int).length 0),(4,aV none ([]:List Int).length 0),(5,aV none ([]:List Int).length 0)]) ((aL.id (Vector (List Int) 6)).comp (aL.idx (α:=List Int) 6 1 (by decide))) kG (ae rfl) (ae rfl) hO rfl rfl rfl rfl ?_
    refine ah.nil ?_
    refine ag.ea ?_
    refine ag.next ?_
    refine ai.cl ?_
    refine bj dg ?_
    refine aB ?_
    refine ah.nil ?_
    obtain rfl:=aI h
    exact fo (jx,nx) 1
   ·refine ai.exit ?_
    refine ag.exit ?_
    obtain rfl:=aI h
    exact eh (a1.1,a1.2) 0
  ·clear aq
   refine ag.fe ?_
   refine ag.next ?_
   refine ai.seq ?_
   refine aD ?_
   refine aW (a0 Kb) ?_
   refine b3 8 Hw Fc ?_
   refine aW (eJ Tryz.underlying26) ?_
   refine aB ?_
   refine aN ?_
   refine ai.block ?_
   obtain⟨cP,aq,h⟩:=aw h
   refine gB (γ:=(Option Nat × Nat)) (δ:=(Option Nat × Nat)) aq [0,1,2,3,17,18,19,20,32,33,34,35,47,48] (fun j5 br=> [(49,I.of (j5.1))]) (fun j5 br=> [(3,⟨br.1,.row 3 (j5.2.1:List Int) br.2⟩),(6,⟨some bU,.cj (j5.2.2:Vector (List Int) 6) [(0,aV ax.1 az.2.2.1.length ax.2),(1,aV a1.1 aX.2.2.1.length a1.2),(2,aV br.1 j5.2.1.length br.2),(3,aV none ([]:List Int).length 0),(4,aV none ([]:List Int).length 0),(5,aV none ([]:List Int).length 0)]⟩)]) (fun fi=>Exit.exit 4) (fun fi br=> [(49,I.of (fi.1)),(50,I.of (fi.2.1))]) (fun fi br=> [(3,⟨br.1,.row 3 (fi.2.2.1:List Int) br.2⟩),(6,⟨some bU,.cj (fi.2.2.2:Vector (List Int) 6) [(0,aV ax.1 az.2.2.1.length ax.2),(1,aV a1.1 aX.2.2.1.length a1.2),(2,aV br.1 fi.2.2.1.length br.2),(3,aV none ([]:List Int).length 0),(4,aV none ([]:List Int).length 0),(5,aV none ([]:List Int).length 0)]⟩)]) (none,0) (fun j5 r h br=> ?_) fun br=> ?_
   ·clear aq
    refine aD ?_
    refine bj dZ ?_
    refine bM ?_
    refine ck h (fun h=>?_) fun h=>?_
    ·refine cO ?_
     refine ai.seq ?_
     refine ai.block ?_
     refine aD ?_
     obtain⟨dj,fB,h⟩:=aw h
     refine fL fB Tryz.underlying26 oL ?_
     refine aW (cL oL) ?_
     refine cG q7 fun XD=> ?_
     refine ca 0 oL ?_
     refine aN ?_
     refine ai.cl ?_
     refine bp (eV (k:=2) nn (ae rfl) (bz 2) ⟨by decide,rfl⟩) ?_
     refine bp (ie (i:=7) (q:=2) (β:=Vector (List Int) 6) (γ:=Int) kG (ae rfl) rfl rfl) ?_
     refine aW (a0 QM) ?_
     refine b3 0 Ax bG ?_
     refine fM [(aA aa.kU dj).bF] Tryz.underlying63 bG hy ?_
     obtain⟨bc,ek,h⟩:=aw h
     refine je 4 Tryz.underlying63 bG hy ek fun ma oV=> ?_
     refine bp (eV (k:=2) nn (ae rfl) (bz 2) ⟨by decide,rfl⟩) ?_
     refine ah.iz (i:=7) (γ:=Int) (b':=(c1 j5.2.2 2 []:Vector (List Int) 6)) (os':= [(0,aV ax.1 az.2.2.1.length ax.2),(1,aV a1.1 aX.2.2.1.length a1.2),(2,aV ma bc.length oV),(3,aV none ([]:List Int).length 0),(4,aV none ([]:List Int).length 0),(5,aV none ([]:List Int).length 0)]) ((aL.id (Vector (List Int) 6)).comp (aL.idx (α:=List Int) 6 2 (by decide))) kG (ae rfl) (ae rfl) hO rfl rfl rfl rfl ?_
     refine ah.nil ?_
     refine ag.ea ?_
     refine ag.next ?_
     refine ai.cl ?_
     refine bj dg ?_
     refine aB ?_
     refine ah.nil ?_
     obtain rfl:=aI h
     exact fo (ma,oV) 1
    ·refine ai.exit ?_
     refine ag.exit ?_
     obtain rfl:=aI h
     exact eh (br.1,br.2) 0
   ·clear aq
    refine ag.fe ?_
    refine ag.next ?_
    refine ai.seq ?_
    refine aD ?_
    refine aW (a0 Ea) ?_
    refine b3 8 CF BI ?_
    refine aW (eJ Tryz.underlying27) ?_
    refine aB ?_
    refine aN ?_
    refine ai.block ?_
    obtain⟨eZ,aq,h⟩:=aw h
    refine gB (γ:=(Option Nat × Nat)) (δ:=(Option Nat × Nat)) aq [0,1,2,3,17,18,19,20,32,33,34,35,47,48,49,50,62,63] (fun kQ cr=> [(64,I.of (kQ.1))]) (fun kQ cr=> [(2,⟨cr.1,.row 3 (kQ.2.1:List Int) cr.2⟩),(6,⟨some bU,.cj (kQ.2.2:Vector (List Int) 6) [(0,aV ax.1 az.2.2.1.length ax.2),(1,aV a1.1 aX.2.2.1.length a1.2),(2,aV br.1 cP.2.2.1.length br.2),(3,aV cr.1 kQ.2.1.length cr.2),(4,aV none ([]:List Int).length 0),(5,aV none ([]:List Int).length 0)]⟩)]) (fun iq=>Exit.exit 6) (fun iq cr=> [(64,I.of (iq.1)),(65,I.of (iq.2.1))]) (fun iq cr=> [(2,⟨cr.1,.row 3 (iq.2.2.1:List Int) cr.2⟩),(6,⟨some bU,.cj (iq.2.2.2:Vector (List Int) 6) [(0,aV ax.1 az.2.2.1.length ax.2),(1,aV a1.1 aX.2.2.1.length a1.2),(2,aV br.1 cP.2.2.1.length br.2),(3,aV cr.1 iq.2.2.1.length cr.2),(4,aV none ([]:List Int).length 0),(5,aV none ([]:List Int).length 0)]⟩)]) (none,0) (fun kQ r h cr=> ?_) fun cr=> ?_
    ·clear aq
     refine aD ?_
     refine bj dZ ?_
     refine bM ?_
     refine ck h (fun h=>?_) fun h=>?_
     ·refine cO ?_
      refine ai.seq ?_
      refine ai.block ?_
      refine aD ?_
      obtain⟨hj,k7,h⟩:=aw h
      refine fL k7 Tryz.underlying27 l4 ?_
      refine aW (cL l4) ?_
      refine cG nZ fun XE=> ?_
      refine ca 0 l4 ?_
      refine aN ?_
      refine ai.cl ?_
      refine bp (eV (k:=3) nn (ae rfl) (bz 3) ⟨by decide,rfl⟩) ?_
      refine bp (ie (i:=7) (q:=3) (β:=Vector (List Int) 6) (γ:=Int) kG (ae rfl) rfl rfl) ?_
      refine aW (a0 Jw) ?_
      refine b3 0 qA bG ?_
      refine fM [(aA aa.cX hj).bF] Tryz.underlying63 bG hy ?_
      obtain⟨bf,fh,h⟩:=aw h
      refine je 3 Tryz.underlying63 bG hy fh fun pX yo=> ?_
      refine bp (eV (k:=3) nn (ae rfl) (bz 3) ⟨by decide,rfl⟩) ?_
      refine ah.iz (i:=7) (γ:=Int) (b':=(c1 kQ.2.2 3 []:Vector (List Int) 6)) (os':= [(0,aV ax.1 az.2.2.1.length ax.2),(1,aV a1.1 aX.2.2.1.length a1.2),(2,aV br.1 cP.2.2.1.length br.2),(3,aV pX bf.length yo),(4,aV none ([]:List Int).length 0),(5,aV none ([]:List Int).length 0)]) ((aL.id (Vector (List Int) 6)).comp (aL.idx (α:=List Int) 6 3 (by decide))) kG (ae rfl) (ae rfl) hO rfl rfl rfl rfl ?_
      refine ah.nil ?_
      refine ag.ea ?_
      refine ag.next ?_
      refine ai.cl ?_
      refine bj dg ?_
      refine aB ?_
      refine ah.nil ?_
      obtain rfl:=aI h
      exact fo (pX,yo) 1
     ·refine ai.exit ?_
      refine ag.exit ?_
      obtain rfl:=aI h
      exact eh (cr.1,cr.2) 0
    ·clear aq
     refine ag.fe ?_
     refine ag.next ?_
     refine ai.seq ?_
     refine aD ?_
     refine aW (a0 lp) ?_
     refine b3 8 lk k1 ?_
     refine aW (eJ Tryz.underlying28) ?_
     refine aB ?_
     refine aN ?_
     refine ai.block ?_
     obtain⟨gk,aq,h⟩:=aw h
     refine gB (γ:=(Option Nat × Nat)) (δ:=(Option Nat × Nat)) aq [0,1,2,3,17,18,19,20,32,33,34,35,47,48,49,50,62,63,64,65,77,78] (fun g6 g7=> [(79,I.of (g6.1))]) (fun g6 g7=> [(1,⟨g7.1,.row 3 (g6.2.1:List Int) g7.2⟩),(6,⟨some bU,.cj (g6.2.2:Vector (List Int) 6) [(0,aV ax.1 az.2.2.1.length ax.2),(1,aV a1.1 aX.2.2.1.length a1.2),(2,aV br.1 cP.2.2.1.length br.2),(3,aV cr.1 eZ.2.2.1.length cr.2),(4,aV g7.1 g6.2.1.length g7.2),(5,aV none ([]:List Int).length 0)]⟩)]) (fun dM=>Exit.exit 8) (fun dM g7=> [(79,I.of (dM.1)),(80,I.of (dM.2.1))]) (fun dM g7=> [(1,⟨g7.1,.row 3 (dM.2.2.1:List Int) g7.2⟩),(6,⟨some bU,.cj (dM.2.2.2:Vector (List Int) 6) [(0,aV ax.1 az.2.2.1.length ax.2),(1,aV a1.1 aX.2.2.1.length a1.2),(2,aV br.1 cP.2.2.1.length br.2),(3,aV cr.1 eZ.2.2.1.length cr.2),(4,aV g7.1 dM.2.2.1.length g7.2),(5,aV none ([]:List Int).length 0)]⟩)]) (none,0) (fun g6 r h g7=> ?_) fun g7=> ?_
     ·clear aq
      refine aD ?_
      refine bj dZ ?_
      refine bM ?_
      refine ck h (fun h=>?_) fun h=>?_
      ·refine cO ?_
       refine ai.seq ?_
       refine ai.block ?_
       refine aD ?_
       obtain⟨j6,o2,h⟩:=aw h
       refine fL o2 Tryz.underlying28 fQ ?_
       refine aW (cL fQ) ?_
       refine cG k2 fun XF=> ?_
       refine ca 0 fQ ?_
       refine aN ?_
       refine ai.cl ?_
       refine bp (eV (k:=4) nn (ae rfl) (bz 4) ⟨by decide,rfl⟩) ?_
       refine bp (ie (i:=7) (q:=4) (β:=Vector (List Int) 6) (γ:=Int) kG (ae rfl) rfl rfl) ?_
       refine aW (a0 sr) ?_
       refine b3 0 nO bG ?_
       refine fM [(aA aa.bH j6).bF] Tryz.underlying63 bG hy ?_
       obtain⟨cb,gL,h⟩:=aw h
       refine je 2 Tryz.underlying63 bG hy gL fun oW Ly=> ?_
       refine bp (eV (k:=4) nn (ae rfl) (bz 4) ⟨by decide,rfl⟩) ?_
       refine ah.iz (i:=7) (γ:=Int) (b':=(c1 g6.2.2 4 []:Vector (List Int) 6)) (os':= [(0,aV ax.1 az.2.2.1.length ax.2),(1,aV a1.1 aX.2.2.1.length a1.2),(2,aV br.1 cP.2.2.1.length br.2),(3,aV cr.1 eZ.2.2.1.length cr.2),(4,aV oW cb.length Ly),(5,aV none ([]:List Int).length 0)]) ((aL.id (Vector (List Int) 6)).comp (aL.idx (α:=List Int) 6 4 (by decide))) kG (ae rfl) (ae rfl) hO rfl rfl rfl rfl ?_
       refine ah.nil ?_
       refine ag.ea ?_
       refine ag.next ?_
       refine ai.cl ?_
       refine bj dg ?_
       refine aB ?_
       refine ah.nil ?_
       obtain rfl:=aI h
       exact fo (oW,Ly) 1
      ·refine ai.exit ?_
       refine ag.exit ?_
       obtain rfl:=aI h
       exact eh (g7.1,g7.2) 0
     ·clear aq
      refine ag.fe ?_
      refine ag.next ?_
      refine ai.seq ?_
      refine aD ?_
      refine aW (a0 Kc) ?_
      refine b3 8 Hx Fe ?_
      refine aW (eJ Tryz.underlying30) ?_
      refine aB ?_
      refine aN ?_
      refine ai.block ?_
      obtain⟨gU,aq,h⟩:=aw h
      refine gB (γ:=(Option Nat × Nat)) (δ:=(Option Nat × Nat)) aq [0,1,2,3,17,18,19,20,32,33,34,35,47,48,49,50,62,63,64,65,77,78,79,80,92,93] (fun hM lN=> [(94,I.of (hM.1))]) (fun hM lN=> [(0,⟨lN.1,.row 3 (hM.2.1:List Int) lN.2⟩),(6,⟨some bU,.cj (hM.2.2:Vector (List Int) 6) [(0,aV ax.1 az.2.2.1.length ax.2),(1,aV a1.1 aX.2.2.1.length a1.2),(2,aV br.1 cP.2.2.1.length br.2),(3,aV cr.1 eZ.2.2.1.length cr.2),(4,aV g7.1 gk.2.2.1.length g7.2),(5,aV lN.1 hM.2.1.length lN.2)]⟩)]) (fun g8=>Exit.exit 10) (fun g8 lN=> [(94,I.of (g8.1)),(95,I.of (g8.2.1))]) (fun g8 lN=> [(0,⟨lN.1,.row 3 (g8.2.2.1:List Int) lN.2⟩),(6,⟨some bU,.cj (g8.2.2.2:Vector (List Int) 6) [(0,aV ax.1 az.2.2.1.length ax.2),(1,aV a1.1 aX.2.2.1.length a1.2),(2,aV br.1 cP.2.2.1.length br.2),(3,aV cr.1 eZ.2.2.1.length cr.2),(4,aV g7.1 gk.2.2.1.length g7.2),(5,aV lN.1 g8.2.2.1.length lN.2)]⟩)]) (none,0) (fun hM r h lN=> ?_) fun lN=> ?_
      ·clear aq
       refine aD ?_
       refine bj dZ ?_
       refine bM ?_
       refine ck h (fun h=>?_) fun h=>?_
       ·refine cO ?_
        refine ai.seq ?_
        refine ai.block ?_
        refine aD ?_
        obtain⟨lj,p7,h⟩:=aw h
        refine fL p7 Tryz.underlying30 oM ?_
        refine aW (cL oM) ?_
        refine cG q8 fun XG=> ?_
        refine ca 0 oM ?_
        refine aN ?_
        refine ai.cl ?_
        refine bp (eV (k:=5) nn (ae rfl) (bz 5) ⟨by decide,rfl⟩) ?_
        refine bp (ie (i:=7) (q:=5) (β:=Vector (List Int) 6) (γ:=Int) kG (ae rfl) rfl rfl) ?_
        refine aW (a0 QN) ?_
        refine b3 0 Az bG ?_
        refine fM [(aA aa.ix lj).bF] Tryz.underlying63 bG hy ?_
        obtain⟨cN,g4,h⟩:=aw h
        refine je 1 Tryz.underlying63 bG hy g4 fun yp Lz=> ?_
        refine bp (eV (k:=5) nn (ae rfl) (bz 5) ⟨by decide,rfl⟩) ?_
        refine ah.iz (i:=7) (γ:=Int) (b':=(c1 hM.2.2 5 []:Vector (List Int) 6)) (os':= [(0,aV ax.1 az.2.2.1.length ax.2),(1,aV a1.1 aX.2.2.1.length a1.2),(2,aV br.1 cP.2.2.1.length br.2),(3,aV cr.1 eZ.2.2.1.length cr.2),(4,aV g7.1 gk.2.2.1.length g7.2),(5,aV yp cN.length Lz)]) ((aL.id (Vector (List Int) 6)).comp (aL.idx (α:=List Int) 6 5 (by decide))) kG (ae rfl) (ae rfl) hO rfl rfl rfl rfl ?_
        refine ah.nil ?_
        refine ag.ea ?_
        refine ag.next ?_
        refine ai.cl ?_
        refine bj dg ?_
        refine aB ?_
        refine ah.nil ?_
        obtain rfl:=aI h
        exact fo (yp,Lz) 1
       ·refine ai.exit ?_
        refine ag.exit ?_
        obtain rfl:=aI h
        exact eh (lN.1,lN.2) 0
      ·clear aq
       refine ag.fe ?_
       refine ag.next ?_
       refine aD ?_
       refine ah.ih (β:=Vector (List Int) 6) (γ:=Int) (b':=(c1 gU.2.2.2 0 az.2.2.1:Vector (List Int) 6)) ((aL.id (Vector (List Int) 6)).comp (aL.idx (α:=List Int) 6 0 (by decide))) 6 5 0 rfl rfl rfl rfl rfl rfl ?_
       refine ah.ih (β:=Vector (List Int) 6) (γ:=Int) (b':=(c1 (c1 gU.2.2.2 0 az.2.2.1) 1 aX.2.2.1:Vector (List Int) 6)) ((aL.id (Vector (List Int) 6)).comp (aL.idx (α:=List Int) 6 1 (by decide))) 6 4 0 rfl rfl rfl rfl rfl rfl ?_
       refine ah.ih (β:=Vector (List Int) 6) (γ:=Int) (b':=(c1 (c1 (c1 gU.2.2.2 0 az.2.2.1) 1 aX.2.2.1) 2 cP.2.2.1:Vector (List Int) 6)) ((aL.id (Vector (List Int) 6)).comp (aL.idx (α:=List Int) 6 2 (by decide))) 6 3 0 rfl rfl rfl rfl rfl rfl ?_
       refine ah.ih (β:=Vector (List Int) 6) (γ:=Int) (b':=(c1 (c1 (c1 (c1 gU.2.2.2 0 az.2.2.1) 1 aX.2.2.1) 2 cP.2.2.1) 3 eZ.2.2.1:Vector (List Int) 6)) ((aL.id (Vector (List Int) 6)).comp (aL.idx (α:=List Int) 6 3 (by decide))) 6 2 0 rfl rfl rfl rfl rfl rfl ?_
       refine ah.ih (β:=Vector (List Int) 6) (γ:=Int) (b':=(c1 (c1 (c1 (c1 (c1 gU.2.2.2 0 az.2.2.1) 1 aX.2.2.1) 2 cP.2.2.1) 3 eZ.2.2.1) 4 gk.2.2.1:Vector (List Int) 6)) ((aL.id (Vector (List Int) 6)).comp (aL.idx (α:=List Int) 6 4 (by decide))) 6 1 0 rfl rfl rfl rfl rfl rfl ?_
       refine ah.ih (β:=Vector (List Int) 6) (γ:=Int) (b':=(c1 (c1 (c1 (c1 (c1 (c1 gU.2.2.2 0 az.2.2.1) 1 aX.2.2.1) 2 cP.2.2.1) 3 eZ.2.2.1) 4 gk.2.2.1) 5 gU.2.2.1:Vector (List Int) 6)) ((aL.id (Vector (List Int) 6)).comp (aL.idx (α:=List Int) 6 5 (by decide))) 6 0 0 rfl rfl rfl rfl rfl rfl ?_
       refine ah.mI 6 rfl ?_
       obtain⟨bk,dc,h⟩:=aw h
       refine cZ dc (gx (i:=6) (aL.id (Vector (List Int) 6)) (r:=(c1 (c1 (c1 (c1 (c1 (c1 gU.2.2.2 0 az.2.2.1) 1 aX.2.2.1) 2 cP.2.2.1) 3 eZ.2.2.1) 4 gk.2.2.1) 5 gU.2.2.1)) EG (ae rfl) rfl rfl rfl) ?_
       refine ca 7 EG ?_
       refine aN ?_
       refine ai.ret ?_
       obtain rfl:=aI h
       exact ag.gG rfl (eL 7 EG)
end Go.Proofs.YtmnggbjcnoffeaaGreat
namespace Go.Proofs.YtmnggbjcnoffeaaGreat
open Go Gv
set_option linter.unusedVariables false
set_option linter.unusedSimpArgs false
set_option maxRecDepth 100000
set_option maxHeartbeats 2000000
theorem Oy {aa:List Int} {aj:Int} {r:Int} (h:wR aa aj=some r):bx Tryz.prog 141 [I.of (aa),I.of (aj)] (I.of (r)):=by
 unfold wR at h
 refine bx.of Tryz.func141 rfl Tryz.ntmps141 rfl fun W A=> ?_
 refine aD ?_
 refine aQ ?_
 refine bM ?_
 refine aD ?_
 refine aB ?_
 refine aW (eJ Tryz.underlying63) ?_
 refine aB ?_
 refine aN ?_
 refine ai.block ?_
 obtain⟨az,aq,h⟩:=aw h
 refine gB (γ:=Unit) (δ:=Unit) aq [0,1,7,8] (fun s1 ax=> [(4,I.of (0:Int)),(9,I.of (s1))]) (fun s1 ax=> []) (fun aE=>Sum.elim (fun aE=>Exit.exit 0) (fun aE=>Exit.ret) aE) (fun aE ax=>Sum.elim (fun aE=> [(4,I.of (0:Int)),(9,I.of (aE.1)),(10,I.of (aE.2))]) (fun aE=> [(4,I.of (aE.1)),(5,I.of (aE.2.1)),(6,I.of (aE.2.2.1)),(9,I.of (aE.2.2.2.1)),(10,I.of (aE.2.2.2.2.1)),(16,I.of (aE.2.2.2.2.2))]) aE) (fun aE ax=>Sum.elim (fun aE=> []) (fun aE=> []) aE) () (fun s1 r h ax=> ?_) fun ax=> ?_
 ·clear aq
  refine aD ?_
  refine bj dZ ?_
  refine bM ?_
  refine ck h (fun h=>?_) fun h=>?_
  ·refine cO ?_
   refine ai.seq ?_
   refine ai.block ?_
   refine aD ?_
   refine aB ?_
   obtain⟨a4,cw,h⟩:=aw h
   refine fL cw Tryz.underlying63 bG ?_
   refine aW (cL bG) ?_
   refine aQ ?_
   refine aQ ?_
   refine bS ?_
   refine aB ?_
   refine aB ?_
   refine bj gb ?_
   refine aN ?_
   refine ck h (fun h=>?_) fun h=>?_
   ·refine aD ?_
    refine aB ?_
    refine aQ ?_
    refine aN ?_
    refine ai.ret ?_
    refine ag.eC ?_
    refine ag.ret ?_
    obtain rfl:=aI h
    exact eh () 0
   ·refine ai.skip ?_
    refine ag.ea ?_
    refine ag.next ?_
    refine ai.cl ?_
    refine bj dg ?_
    refine aB ?_
    refine ah.nil ?_
    obtain rfl:=aI h
    exact fo () 0
  ·refine ai.exit ?_
   refine ag.exit ?_
   obtain rfl:=aI h
   exact eh () 0
 ·clear aq
  rcases az with az | az
  ·simp only [Sum.elim_inl] at h
   refine ag.fe ?_
   refine ag.next ?_
   refine aD ?_
   refine aQ ?_
   refine aN ?_
   refine ai.ret ?_
   obtain rfl:=aI h
   exact c9
  ·simp only [Sum.elim_inr] at h
   refine ag.eC ?_
   refine ag.ret ?_
   obtain rfl:=aI h
   exact c9
end Go.Proofs.YtmnggbjcnoffeaaGreat
namespace Go.Proofs.YtmnggbjcnoffeaaGreat
open Go Gv
set_option linter.unusedVariables false
set_option linter.unusedSimpArgs false
set_option maxRecDepth 100000
set_option maxHeartbeats 2000000
theorem Nw {aa:dr} {aj:Int} {r:Int} (h:v8 aa aj=some r):bx Tryz.prog 272 [I.ptr aa,I.of (aj)] (I.of (r)):=by
 unfold v8 at h
 refine bx.of Tryz.func272 rfl Tryz.ntmps272 rfl fun W A=> ?_
 refine aD ?_
 refine cd fun aT=> ?_
 refine aQ ?_
 refine bM ?_
 refine aD ?_
 refine aB ?_
 refine bp (QO Tryz.underlying170 (ae rfl)) ?_
 refine aN ?_
 refine ai.uX (ae rfl) rfl ?_
 refine cO ?_
 refine aD ?_
 refine aB ?_
 refine aW xz ?_
 refine vy wq xo ?_
 refine aW (cL sN) ?_
 refine ah.share (α:=Int) 0 3 rfl rfl ?_
 refine bp (uL (F:=(fun fu=>z3 fu aj)) (τs:= [I.ptr aj]) Sz ⟨ae rfl,trivial⟩ (fun _ _ h=>Nn h)) ?_
 obtain⟨ak,bB,h⟩:=aw h
 refine dF KM (Hp bB) ?_
 refine aQ ?_
 refine aN ?_
 refine ai.ret ?_
 obtain rfl:=aI h
 exact c9
theorem C0 {aa:Int} {aj:Int} {r:Int} (h:r3 aa aj=some r):bx Tryz.prog 92 [I.of (aa),I.of (aj)] (I.of (r)):=by
 unfold r3 at h
 refine bx.of Tryz.func92 rfl Tryz.ntmps92 rfl fun W A=> ?_
 refine aD ?_
 refine aQ ?_
 refine bS ?_
 refine aB ?_
 obtain⟨ak,bB,h⟩:=aw h
 refine dF KN (HM bB) ?_
 refine aQ ?_
 refine bS ?_
 refine aB ?_
 obtain⟨aP,cg,h⟩:=aw h
 refine dF KN (HM cg) ?_
 refine aQ ?_
 refine bM ?_
 refine aD ?_
 refine aB ?_
 refine aN ?_
 refine ck h (fun h=>?_) fun h=>?_
 ·refine ai.seq ?_
  refine aD ?_
  refine aB ?_
  refine aN ?_
  refine ck h (fun h=>?_) fun h=>?_
  ·refine aD ?_
   refine aQ ?_
   refine aN ?_
   refine ai.ret ?_
   refine ag.ret ?_
   refine ag.ret ?_
   obtain rfl:=aI h
   exact c9
  ·refine cO ?_
   refine aD ?_
   refine aQ ?_
   refine aN ?_
   refine ai.ret ?_
   refine ag.ret ?_
   obtain rfl:=aI h
   exact c9
 ·refine cO ?_
  refine ai.seq ?_
  refine aD ?_
  refine aB ?_
  refine aN ?_
  refine ck h (fun h=>?_) fun h=>?_
  ·refine aD ?_
   refine aQ ?_
   refine aN ?_
   refine ai.ret ?_
   refine ag.ret ?_
   obtain rfl:=aI h
   exact c9
  ·refine cO ?_
   refine ai.seq ?_
   refine aD ?_
   refine aB ?_
   refine aB ?_
   refine bj dZ ?_
   refine aN ?_
   refine ck h (fun h=>?_) fun h=>?_
   ·refine aD ?_
    refine aQ ?_
    refine aN ?_
    refine ai.ret ?_
    refine ag.ret ?_
    obtain rfl:=aI h
    exact c9
   ·refine cO ?_
    refine ai.seq ?_
    refine aD ?_
    refine aB ?_
    refine aB ?_
    refine bj mJ ?_
    refine aN ?_
    refine ck h (fun h=>?_) fun h=>?_
    ·refine aD ?_
     refine aQ ?_
     refine aN ?_
     refine ai.ret ?_
     refine ag.ret ?_
     obtain rfl:=aI h
     exact c9
    ·refine cO ?_
     refine aD ?_
     refine aQ ?_
     refine aN ?_
     refine ai.ret ?_
     obtain rfl:=aI h
     exact c9
theorem Og {aa:a3} {aj:Int} {r:Int} (h:wK aa aj=some r):bx Tryz.prog 106 [I.of (aa),I.of (aj)] (I.of (r)):=by
 unfold wK at h
 refine bx.of Tryz.func106 rfl Tryz.ntmps106 rfl fun W A=> ?_
 refine aD ?_
 refine cd fun aT=> ?_
 refine aQ ?_
 refine bS ?_
 refine cc 0 fy ?_
 obtain⟨ak,bB,h⟩:=aw h
 refine dF SA (OX bB) ?_
 refine bp (Jy (k:=4) Tryz.underlying248 kG (ae rfl) (bz 4) ⟨by decide,rfl⟩) ?_
 refine aB ?_
 obtain⟨aP,cg,h⟩:=aw h
 refine dF SB (Oy cg) ?_
 refine aQ ?_
 refine aN ?_
 refine ai.ret ?_
 obtain rfl:=aI h
 exact c9
end Go.Proofs.YtmnggbjcnoffeaaGreat
namespace Go.Proofs.YtmnggbjcnoffeaaGreat
open Go Gv
set_option linter.unusedVariables false
set_option linter.unusedSimpArgs false
set_option maxRecDepth 100000
set_option maxHeartbeats 2000000
theorem Oz {aa:a3} {aj:bE} {r:bN × Bool} (h:wS aa aj=some r):bx Tryz.prog 206 [I.of (aa),I.of (aj)] (I.cF [I.of (r.1),I.of (r.2)]):=by
 unfold wS at h
 refine bx.of Tryz.func206 rfl Tryz.ntmps206 rfl fun W A=> ?_
 refine aD ?_
 refine cd fun aT=> ?_
 refine cd fun a7=> ?_
 refine cG k2 fun bU=> ?_
 refine aQ ?_
 refine bS ?_
 refine cc 2 fy ?_
 refine aW (a0 uJ) ?_
 refine b3 1 pg bG ?_
 obtain⟨ak,bB,h⟩:=aw h
 refine dF BJ (AA bB) ?_
 refine aQ ?_
 refine bM ?_
 refine aD ?_
 refine aB ?_
 refine bj dZ ?_
 refine aN ?_
 refine ck h (fun h=>?_) fun h=>?_
 ·refine aD ?_
  refine g2 yq k2 (default:bN) .nil ?_
  refine ca 0 fQ ?_
  refine aQ ?_
  refine aN ?_
  refine ai.ret ?_
  refine ag.ret ?_
  obtain rfl:=aI h
  exact ag.oU rfl (eL 0 fQ) (kh rfl)
 ·refine cO ?_
  refine aD ?_
  refine aW (a0 lp) ?_
  refine b3 2 lk k1 ?_
  refine aB ?_
  obtain⟨a4,cw,h⟩:=aw h
  refine fL cw Tryz.underlying28 fQ ?_
  refine aW (cL fQ) ?_
  refine ca 0 fQ ?_
  refine aQ ?_
  refine aN ?_
  refine ai.ret ?_
  obtain rfl:=aI h
  exact ag.oU rfl (eL 0 fQ) (kh rfl)
end Go.Proofs.YtmnggbjcnoffeaaGreat
namespace Go.Proofs.YtmnggbjcnoffeaaGreat
open Go Gv
set_option linter.unusedVariables false
set_option linter.unusedSimpArgs false
set_option maxRecDepth 100000
set_option maxHeartbeats 2000000
end Go.Proofs.YtmnggbjcnoffeaaGreat
namespace Go.Proofs.YtmnggbjcnoffeaaGreat
open Go Gv
set_option linter.unusedVariables false
set_option linter.unusedSimpArgs false
set_option maxRecDepth 100000
set_option maxHeartbeats 2000000
theorem HP {aa:a3} {aj:bE} {r:Int} (h:ud aa aj=some r):bx Tryz.prog 79 [I.of (aa),I.of (aj)] (I.of (r)):=by
 unfold ud at h
 refine bx.of Tryz.func79 rfl Tryz.ntmps79 rfl fun W A=> ?_
 refine aD ?_
 refine cd fun aT=> ?_
 refine cd fun a7=> ?_
 refine aQ ?_
 refine bS ?_
 refine cc 1 fy ?_
 refine aW (a0 uJ) ?_
 refine b3 0 pg bG ?_
 obtain⟨ak,bB,h⟩:=aw h
 refine dF SC (Og bB) ?_
 refine aQ ?_
 refine bM ?_
 refine aD ?_
 refine aB ?_
 refine bj dZ ?_
 refine aN ?_
 refine ck h (fun h=>?_) fun h=>?_
 ·refine aD ?_
  refine aQ ?_
  refine aN ?_
  refine ai.ret ?_
  refine ag.ret ?_
  obtain rfl:=aI h
  exact c9
 ·refine cO ?_
  refine ai.seq ?_
  refine aD ?_
  refine aW (a0 lp) ?_
  refine b3 1 lk k1 ?_
  refine aB ?_
  obtain⟨a4,cw,h⟩:=aw h
  refine fL cw Tryz.underlying28 fQ ?_
  refine vy iM kc ?_
  refine aW (cL jT) ?_
  refine aW (eJ Tryz.underlying62) ?_
  refine aB ?_
  refine aN ?_
  refine ai.block ?_
  obtain⟨az,aq,h⟩:=aw h
  refine gB (γ:=Unit) (δ:=Unit) aq [0,1,2,3,5,13,19,20] (fun s1 ax=> [(4,I.of (0:Int)),(21,I.of (s1))]) (fun s1 ax=> []) (fun aE=>Sum.elim (fun aE=>Exit.exit 0) (fun aE=>Exit.ret) aE) (fun aE ax=>Sum.elim (fun aE=> [(4,I.of (0:Int)),(21,I.of (aE.1)),(22,I.of (aE.2))]) (fun aE=> [(4,I.of (aE.1)),(6,I.of (aE.2.1)),(21,I.of (aE.2.2.1)),(22,I.of (aE.2.2.2.1)),(35,I.of (aE.2.2.2.2))]) aE) (fun aE ax=>Sum.elim (fun aE=> []) (fun aE=> []) aE) () (fun s1 r h ax=> ?_) fun ax=> ?_
  ·clear aq
   refine aD ?_
   refine bj dZ ?_
   refine bM ?_
   refine ck h (fun h=>?_) fun h=>?_
   ·refine cO ?_
    refine ai.seq ?_
    refine ai.block ?_
    refine aD ?_
    refine aB ?_
    obtain⟨bZ,c7,h⟩:=aw h
    refine fL c7 Tryz.underlying62 hS ?_
    refine aW (cL hS) ?_
    refine cG iB fun bU=> ?_
    refine aQ ?_
    refine ca 0 hS ?_
    refine bS ?_
    refine aW (a0 pB) ?_
    refine b3 0 ka bG ?_
    refine bj gb ?_
    refine aB ?_
    refine dU cQ ?_
    refine dU (a0 kD) ?_
    refine eY (fun hb=>gx (i:=1) ((aL.id bE).comp jM) (r:=aj.cA) kg (cY rfl hb) rfl rfl rfl) ?_
    refine dU (eJ Tryz.underlying47) ?_
    refine jX dZ ?_
    obtain⟨bk,dc,h⟩:=aw h
    refine cZ dc (oJ (ae rfl) (ae rfl) (fun h=>h)) ?_
    refine aN ?_
    refine ck h (fun h=>?_) fun h=>?_
    ·refine aD ?_
     refine aW (a0 kD) ?_
     refine b3 1 jM kg ?_
     refine aB ?_
     obtain⟨dj,fB,h⟩:=aw h
     refine fL fB Tryz.underlying47 gA ?_
     refine vy rZ A8 ?_
     refine aW (cL bG) ?_
     refine aQ ?_
     refine aN ?_
     refine ai.ret ?_
     refine ag.eC ?_
     refine ag.ret ?_
     obtain rfl:=aI h
     exact eh () 1
    ·refine ai.skip ?_
     refine ag.ea ?_
     refine ag.next ?_
     refine ai.cl ?_
     refine bj dg ?_
     refine aB ?_
     refine ah.nil ?_
     obtain rfl:=aI h
     exact fo () 1
   ·refine ai.exit ?_
    refine ag.exit ?_
    obtain rfl:=aI h
    exact eh () 0
  ·clear aq
   rcases az with az | az
   ·simp only [Sum.elim_inl] at h
    refine ag.fe ?_
    refine ag.next ?_
    refine aD ?_
    refine aQ ?_
    refine aN ?_
    refine ai.ret ?_
    obtain rfl:=aI h
    exact c9
   ·simp only [Sum.elim_inr] at h
    refine ag.eC ?_
    refine ag.ret ?_
    obtain rfl:=aI h
    exact c9
end Go.Proofs.YtmnggbjcnoffeaaGreat
namespace Go.Proofs.YtmnggbjcnoffeaaGreat
open Go Gv
set_option linter.unusedVariables false
set_option linter.unusedSimpArgs false
set_option maxRecDepth 100000
set_option maxHeartbeats 2000000
theorem OA {aa:a3} {aj:aM} {aR:aM} {r:Bool} (h:wT aa aj aR=some r):bx Tryz.prog 36 [I.of (aa),I.of (aj),I.of (aR)] (I.of (r)):=by
 unfold wT at h
 refine bx.of Tryz.func36 rfl Tryz.ntmps36 rfl fun W A=> ?_
 refine aD ?_
 refine cd fun aT=> ?_
 refine cd fun a7=> ?_
 refine cd fun bU=> ?_
 refine aQ ?_
 refine bM ?_
 refine aD ?_
 refine aW (a0 jQ) ?_
 refine aW (a0 pC) ?_
 refine b3 1 (iL.comp nN) bG ?_
 refine aW (a0 jQ) ?_
 refine aW (a0 pC) ?_
 refine b3 0 (iL.comp nN) bG ?_
 refine bj sC ?_
 refine aN ?_
 refine ck h (fun h=>?_) fun h=>?_
 ·refine aD ?_
  refine aW (a0 jQ) ?_
  refine aW (a0 pC) ?_
  refine b3 1 (iL.comp nN) bG ?_
  refine aW (a0 jQ) ?_
  refine aW (a0 pC) ?_
  refine b3 0 (iL.comp nN) bG ?_
  refine bj mJ ?_
  refine aQ ?_
  refine aN ?_
  refine ai.ret ?_
  refine ag.ret ?_
  obtain rfl:=aI h
  exact c9
 ·refine cO ?_
  refine ai.seq ?_
  refine ai.seq ?_
  obtain⟨ak,bB,h⟩:=aw h
  obtain⟨aP,cg,h⟩:=aw h
  refine ai.draw mixed 8 [some 23,some 24,some 25,some 26,some 27,some 28,some 29,some 30] [[],[],[1],[0,2],[],[],[5],[4,6]] [.val _,.val _,.val _,.val _,.val _,.val _,.val _,.val _] [false,false,false,false,false,false,false,false] (by kernel_rfl) rfl rfl rfl (fun dx=>⟨fA 2 fy,H1 (a0 jQ),ee 1 iL h5,fb LA (HP bB),fA 2 fy,H1 (a0 jQ),ee 0 iL h5,fb LA (HP cg),trivial⟩) fun dx=> ?_
  refine aQ ?_
  refine aQ ?_
  refine bS ?_
  refine aB ?_
  refine aB ?_
  refine bj sC ?_
  refine aN ?_
  refine ck h (fun h=>?_) fun h=>?_
  ·refine aD ?_
   refine aB ?_
   refine aB ?_
   refine bj mJ ?_
   refine aQ ?_
   refine aN ?_
   refine ai.ret ?_
   refine ag.ret ?_
   obtain rfl:=aI h
   exact c9
  ·refine cO ?_
   refine aD ?_
   refine aW (a0 kW) ?_
   refine b3 1 jL bG ?_
   refine aW (a0 kW) ?_
   refine b3 0 jL bG ?_
   refine bj mJ ?_
   refine aQ ?_
   refine aN ?_
   refine ai.ret ?_
   obtain rfl:=aI h
   exact c9
end Go.Proofs.YtmnggbjcnoffeaaGreat
namespace Go.Proofs.YtmnggbjcnoffeaaGreat
open Go Gv
set_option linter.unusedVariables false
set_option linter.unusedSimpArgs false
set_option maxRecDepth 100000
set_option maxHeartbeats 2000000
theorem Pk {aa:BitVec 64} {r:ao} (h:Dg aa=some r):bx Tryz.prog 166 [I.of (aa)] (I.of (r)):=by
 unfold Dg at h
 refine bx.of Tryz.func166 rfl Tryz.ntmps166 rfl fun W A=> ?_
 refine aD ?_
 refine cG dP fun aT=> ?_
 refine bS ?_
 refine aB ?_
 refine g2 gS dP ({ (default:ao) with bY:=aa } :ao) (ij ev .nil) ?_
 refine ca 0 bT ?_
 refine aN ?_
 refine ai.ret ?_
 obtain rfl:=aI h
 exact ag.gG rfl (eL 0 bT)
theorem OJ {aa:ao} {aj:Int} {r:ao} (h:wW aa aj=some r):bx Tryz.prog 165 [I.of (aa),I.of (aj)] (I.of (r)):=by
 unfold wW at h
 refine bx.of Tryz.func165 rfl Tryz.ntmps165 rfl fun W A=> ?_
 refine aD ?_
 refine cd fun aT=> ?_
 refine cG dP fun a7=> ?_
 refine bM ?_
 refine ai.block ?_
 refine aD ?_
 refine aB ?_
 refine bj Bm ?_
 refine aQ ?_
 refine aN ?_
 refine ck h (fun h=>?_) fun h=>?_
 ·refine aD ?_
  refine cc 1 bT ?_
  refine ca 0 bT ?_
  refine aN ?_
  refine ai.ret ?_
  refine ag.eC ?_
  refine ag.ret ?_
  obtain rfl:=aI h
  exact ag.gG rfl (eL 0 bT)
 ·refine aD ?_
  refine aB ?_
  refine bj kX ?_
  refine aQ ?_
  refine aN ?_
  refine ck h (fun h=>?_) fun h=>?_
  ·refine aD ?_
   refine aW (a0 jP) ?_
   refine b3 1 ev fH ?_
   refine aB ?_
   refine bj kY ?_
   refine aW (iy Tryz.underlying3 Tryz.underlying130) ?_
   refine bj nd ?_
   obtain⟨bk,dc,h⟩:=aw h
   refine cZ dc (cC (b:=({ (default:ao) with dD:=aa.bY <<< (BitVec.ofInt 64 (bD (aj - 64))).toNat } :ao)) rfl gS dP (.cons ia rfl (ae rfl) rfl (.nil))) ?_
   refine ca 0 bT ?_
   refine aN ?_
   refine ai.ret ?_
   refine ag.eC ?_
   refine ag.ret ?_
   obtain rfl:=aI h
   exact ag.gG rfl (eL 0 bT)
  ·refine ai.skip ?_
   refine ag.ea ?_
   refine ag.next ?_
   refine aD ?_
   refine aW (a0 nh) ?_
   refine b3 1 ia fH ?_
   refine aB ?_
   refine aW (iy Tryz.underlying3 Tryz.underlying130) ?_
   refine bj nd ?_
   refine aW (a0 jP) ?_
   refine b3 1 ev fH ?_
   refine aB ?_
   refine bj kY ?_
   refine aW (iy Tryz.underlying3 Tryz.underlying130) ?_
   refine bj xn ?_
   obtain⟨c8,ho,h⟩:=aw h
   refine cZ ho (uI (ae rfl) (ae rfl)) ?_
   refine aW (a0 jP) ?_
   refine b3 1 ev fH ?_
   refine aB ?_
   refine aW (iy Tryz.underlying3 Tryz.underlying130) ?_
   refine bj nd ?_
   obtain⟨e8,jf,h⟩:=aw h
   refine cZ jf (cC (b:= { dD:=c8,bY:=aa.bY <<< (BitVec.ofInt 64 aj).toNat:ao }) rfl gS dP (.cons ia rfl (ae rfl) rfl (.cons ev rfl (ae rfl) rfl (.nil)))) ?_
   refine ca 0 bT ?_
   refine aN ?_
   refine ai.ret ?_
   obtain rfl:=aI h
   exact ag.gG rfl (eL 0 bT)
theorem pt {aa:ao} {aj:ao} {r:ao} (h:mz aa aj=some r):bx Tryz.prog 167 [I.of (aa),I.of (aj)] (I.of (r)):=by
 unfold mz at h
 refine bx.of Tryz.func167 rfl Tryz.ntmps167 rfl fun W A=> ?_
 refine aD ?_
 refine cd fun aT=> ?_
 refine cd fun a7=> ?_
 refine cG dP fun bU=> ?_
 refine bS ?_
 refine aW (a0 nh) ?_
 refine b3 2 ia fH ?_
 refine aW (a0 nh) ?_
 refine b3 1 ia fH ?_
 refine bj uI ?_
 refine aW (a0 jP) ?_
 refine b3 2 ev fH ?_
 refine aW (a0 jP) ?_
 refine b3 1 ev fH ?_
 refine bj uI ?_
 obtain⟨bk,dc,h⟩:=aw h
 refine cZ dc (cC (b:= { dD:=aa.dD ||| aj.dD,bY:=aa.bY ||| aj.bY:ao }) rfl gS dP (.cons ia rfl (ae rfl) rfl (.cons ev rfl (ae rfl) rfl (.nil)))) ?_
 refine ca 0 bT ?_
 refine aN ?_
 refine ai.ret ?_
 obtain rfl:=aI h
 exact ag.gG rfl (eL 0 bT)
end Go.Proofs.YtmnggbjcnoffeaaGreat
namespace Go.Proofs.YtmnggbjcnoffeaaGreat
open Go Gv
set_option linter.unusedVariables false
set_option linter.unusedSimpArgs false
set_option maxRecDepth 100000
set_option maxHeartbeats 2000000
theorem Ou {aa:a2} {aj:Vector ao 4} {aR:Vector ao 4} {r:a2} (h:wO aa aj aR=some r):bx Tryz.prog 159 [I.of (aa),I.of (aj),I.of (aR)] (I.of (r)):=by
 unfold wO at h
 refine bx.of Tryz.func159 rfl Tryz.ntmps159 rfl fun W A=> ?_
 refine aD ?_
 refine cd fun aT=> ?_
 refine cd fun a7=> ?_
 refine cd fun bU=> ?_
 refine cG hJ fun cR=> ?_
 refine bM ?_
 refine aD ?_
 refine aB ?_
 refine aN ?_
 refine ai.block ?_
 obtain⟨az,aq,h⟩:=aw h
 refine gB (γ:=Unit) (δ:=Unit) aq [0,1,2,3,4,5,6] (fun s1 ax=> [(9,I.of (s1.1))]) (fun s1 ax=> [(3,⟨some aT,.var (s1.2:a2)⟩)]) (fun aE=>Exit.exit 0) (fun aE ax=> [(9,I.of (aE.1)),(10,I.of (aE.2.1))]) (fun aE ax=> [(3,⟨some aT,.var (aE.2.2:a2)⟩)]) () (fun s1 r h ax=> ?_) fun ax=> ?_
 ·clear aq
  refine aD ?_
  refine bj dZ ?_
  refine bM ?_
  refine ck h (fun h=>?_) fun h=>?_
  ·refine cO ?_
   refine ai.seq ?_
   refine ai.block ?_
   refine aD ?_
   refine aB ?_
   refine aQ ?_
   refine bM ?_
   obtain⟨a4,cw,h⟩:=aw h
   obtain⟨bZ,c7,h⟩:=aw h
   obtain⟨ak,bB,h⟩:=aw h
   refine ai.draw mixed 8 [some 12,some 13,some 14,some 15,some 16,some 17,some 18,some 8] [[],[0],[1],[],[3],[4],[2,5],[]] [.val _,.val _,.val _,.val _,.val _,.val _,.val _,.new (.var (default:ao))] [false,false,false,false,false,false,false,false] (by kernel_rfl) rfl rfl rfl (fun dx=>⟨cW,dT fun ay au=>eV (k:=a4) g1 (ae rfl) (ae rfl) (cu cw),ee 2 ((aL.id (Vector ao 4)).comp (aL.idx (α:=ao) 4 a4 (cu cw).1)) bT,cW,dT fun ay au=>eV (k:=bZ) g1 (ae rfl) (ae rfl) (cu c7),ee 1 ((aL.id (Vector ao 4)).comp (aL.idx (α:=ao) 4 bZ (cu c7).1)) bT,fb pO (pr bB),uy dP,trivial⟩) fun dx=> ?_
   refine ca 0 bT ?_
   refine bM ?_
   obtain⟨dj,fB,h⟩:=aw h
   obtain⟨hj,k7,h⟩:=aw h
   obtain⟨j6,o2,h⟩:=aw h
   obtain⟨aP,cg,h⟩:=aw h
   obtain⟨bc,ek,h⟩:=aw h
   obtain⟨bf,fh,h⟩:=aw h
   obtain⟨lj,p7,h⟩:=aw h
   refine ai.draw mixed 17 ((some 19) :: (some 20) :: (some 21) :: (some 22) :: (some 23) :: (some 24) :: (some 25) :: (some 26) :: (some 27) :: (some 28) :: (some 29) :: (some 30) :: (some 31) :: (some 32) :: (some 33) :: (some 34) :: (some 35) :: []) ([] :: [] :: [] :: [1,2] :: [3] :: [] :: [5] :: [6] :: [] :: [8] :: [9] :: [7,10] :: [] :: [11,12] :: [4,13] :: [] :: [0,15] :: []) (.val _ :: .val _ :: .val _ :: .val _ :: .val _ :: .val _ :: .val _ :: .val _ :: .val _ :: .val _ :: .val _ :: .val _ :: .val _ :: .val _ :: .val _ :: .val _ :: .val _ :: []) (false :: false :: false :: false :: false :: false :: false :: false :: false :: false :: false :: false :: false :: false :: false :: false :: false :: []) (by kernel_rfl) rfl rfl rfl (fun il=>⟨cW,cW,H1 (a0 l0),dT fun ay au=>eV (k:=dj) g1 (ae rfl) (ae rfl) (cu fB),ee 4 (((aL.id a2).comp kz).comp (aL.idx (α:=ao) 4 dj (cu fB).1)) bT,cW,dT fun ay au=>eV (k:=hj) g1 (ae rfl) (ae rfl) (cu k7),ee 3 ((aL.id (Vector ao 4)).comp (aL.idx (α:=ao) 4 hj (cu k7).1)) bT,cW,dT fun ay au=>eV (k:=j6) g1 (ae rfl) (ae rfl) (cu o2),ee 2 ((aL.id (Vector ao 4)).comp (aL.idx (α:=ao) 4 j6 (cu o2).1)) bT,fb pP (pt cg),fA 0 bT,fb Bp (AH ek),fb pP (pt fh),H1 (a0 l0),dT fun ay au=>eV (k:=lj) g1 (ae rfl) (ae rfl) (cu p7),trivial⟩) fun il=> ?_
   refine nB 4 (((aL.id a2).comp kz).comp (aL.idx (α:=ao) 4 lj (cu p7).1)) bT ?_
   refine aN ?_
   obtain⟨mr,ru,h⟩:=aw h
   obtain⟨mu,rv,h⟩:=aw h
   obtain⟨cb,gL,h⟩:=aw h
   obtain⟨cN,g4,h⟩:=aw h
   obtain⟨qp,yW,h⟩:=aw h
   refine ai.draw mixed 13 [some 36,some 37,some 38,some 39,some 40,some 41,some 42,some 43,some 44,some 45,some 46,some 47,some 48] [[],[],[],[1,2],[3],[],[5],[6],[],[7,8],[4,9],[],[0,11]] [.val _,.val _,.val _,.val _,.val _,.val _,.val _,.val _,.val _,.val _,.val _,.val _,.val _] [false,false,false,false,false,false,false,false,false,false,false,false,false] (by kernel_rfl) rfl rfl rfl (fun s5=>⟨cW,cW,H1 (a0 nR),dT fun ay au=>eV (k:=mr) g1 (ae rfl) (ae rfl) (cu ru),ee 4 (((aL.id a2).comp lS).comp (aL.idx (α:=ao) 4 mr (cu ru).1)) bT,cW,dT fun ay au=>eV (k:=mu) g1 (ae rfl) (ae rfl) (cu rv),ee 3 ((aL.id (Vector ao 4)).comp (aL.idx (α:=ao) 4 mu (cu rv).1)) bT,fA 0 bT,fb Bp (AH gL),fb pP (pt g4),H1 (a0 nR),dT fun ay au=>eV (k:=qp) g1 (ae rfl) (ae rfl) (cu yW),trivial⟩) fun s5=> ?_
   obtain⟨bk,dc,h⟩:=aw h
   refine B3 4 (((aL.id a2).comp lS).comp (aL.idx (α:=ao) 4 qp (cu yW).1)) bT (hb:=by exact dc) ?_
   refine ah.nil ?_
   refine ag.ea ?_
   refine ag.next ?_
   refine ai.cl ?_
   refine bj dg ?_
   refine aB ?_
   refine ah.nil ?_
   obtain rfl:=aI h
   exact fo () 1
  ·refine ai.exit ?_
   refine ag.exit ?_
   obtain rfl:=aI h
   exact eh () 0
 ·clear aq
  refine ag.fe ?_
  refine ag.next ?_
  refine aD ?_
  refine cc 3 c0 ?_
  refine ca 0 c0 ?_
  refine aN ?_
  refine ai.ret ?_
  obtain rfl:=aI h
  exact ag.gG rfl (eL 0 c0)
theorem lT {aa:bw} {cv:Nat} {r:Bool × bw} (h:j9 aa=some r):cz Tryz.prog 55 [I.eq (.pointer (some ⟨cv,0,none⟩))] [⟨some cv,.var (aa:bw)⟩] (δ:=Unit) (fun d=>I.of (r.1)) (fun d=> [⟨some cv,.var (r.2:bw)⟩]):=by
 unfold j9 at h
 refine cz.of Tryz.func55 rfl Tryz.ntmps55 rfl fun W A=> ?_
 refine aD ?_
 refine aQ ?_
 refine bS ?_
 refine aB ?_
 refine ah.b6 0 rfl ?_
 obtain⟨ak,bB,h⟩:=aw h
 refine eD 1 gd (fX bB) fun aE=> ?_
 refine bj gb ?_
 refine aQ ?_
 refine aN ?_
 refine ai.ret ?_
 refine ag.b6 0 rfl ?_
 obtain rfl:=aI h
 exact kj ()
end Go.Proofs.YtmnggbjcnoffeaaGreat
namespace Go.Proofs.YtmnggbjcnoffeaaGreat
open Go Gv
set_option linter.unusedVariables false
set_option linter.unusedSimpArgs false
set_option maxRecDepth 100000
set_option maxHeartbeats 2000000
theorem NG {aa:bw} {cv:Nat} {r:(List db) × bw} (h:wc aa=some r):cz Tryz.prog 68 [I.eq (.pointer (some ⟨cv,0,none⟩))] [⟨some cv,.var (aa:bw)⟩] (δ:=Unit) (fun d=>I.of (r.1)) (fun d=> [⟨some cv,.var (r.2:bw)⟩]):=by
 unfold wc at h
 refine cz.of Tryz.func68 rfl Tryz.ntmps68 rfl fun W A=> ?_
 refine aD ?_
 refine bp (eG (look_nil (α:=db))) ?_
 refine bS ?_
 refine fM ([0,0,65535,3]:List Int) Tryz.underlying63 bG hy ?_
 refine aQ ?_
 refine bS ?_
 refine aB ?_
 refine aB ?_
 refine ah.b6 0 rfl ?_
 obtain⟨ak,bB,h⟩:=aw h
 refine eD 1 gd (fX bB) fun aE=> ?_
 obtain⟨a4,cw,h⟩:=aw h
 refine fL cw Tryz.underlying63 bG ?_
 refine aW (cL bG) ?_
 refine bp (oD (b:=({ (default:db) with bF:=1,hl:=1,lW:=4,gu:=aA ([0,0,65535,3]:List Int) a4 } :db)) [3] Jz rfl EH q7 (.cons Ax rfl (bz 1) rfl (by rfl) (.cons CJ rfl (bz 1) rfl (by rfl) (.cons Hy rfl (bz 4) rfl (by rfl) (.cons CG rfl (ae rfl) rfl (by rfl) (.nil)))))) ?_
 refine ah.own (α:=fO) 195 ?_
 refine ah.nU (z:=(default:db)) [3] Jz q7 rfl fun aT=> ?_
 refine ah.own (α:=fO) 195 ?_
 refine ah.pE (i:=1) oL (ae rfl) (ae rfl) rfl ?_
 refine bS ?_
 refine bp (cC (b:=({ (default:ao) with bY:=1#64 } :ao)) rfl gS dP (.cons ev rfl (hc 1 rfl) rfl (.nil))) ?_
 refine bp (cC (b:=({ (default:ao) with bY:=15#64 } :ao)) rfl gS dP (.cons ev rfl (hc 15 rfl) rfl (.nil))) ?_
 obtain⟨bk,dc,h⟩:=aw h
 refine cZ dc (cC (b:= { bR:=({ (default:ao) with bY:=1#64 } :ao),bK:=({ (default:ao) with bY:=15#64 } :ao),nV:=2:fO }) rfl Bs q9 (.cons Aj rfl (ae rfl) rfl (.cons As rfl (ae rfl) rfl (.cons At rfl (bz 2) rfl (.nil))))) ?_
 refine bp (cC (b:=({ (default:ao) with bY:=2#64 } :ao)) rfl gS dP (.cons ev rfl (hc 2 rfl) rfl (.nil))) ?_
 refine bp (cC (b:=({ (default:ao) with bY:=3#64 } :ao)) rfl gS dP (.cons ev rfl (hc 3 rfl) rfl (.nil))) ?_
 obtain⟨c8,ho,h⟩:=aw h
 refine cZ ho (cC (b:= { bR:=({ (default:ao) with bY:=2#64 } :ao),bK:=({ (default:ao) with bY:=3#64 } :ao),nV:=3:fO }) rfl Bs q9 (.cons Aj rfl (ae rfl) rfl (.cons As rfl (ae rfl) rfl (.cons At rfl (bz 3) rfl (.nil))))) ?_
 refine ah.oT (α:=fO) (r:= [bk,c8]) Tryz.underlying191 Bt q9 rfl rfl (.cons (by simp) (ae rfl) (.cons (by simp) (ae rfl) (.nil))) rfl fun gH=> ?_
 refine aW (a0 A1) ?_
 refine ah.iz (i:=2) (γ:=fO) (b':=(({ ({ (default:db) with bF:=1,hl:=1,lW:=4,gu:=aA ([0,0,65535,3]:List Int) a4 } :db) with nf:= [] } :db):db)) (os':= [(3,aV gH [bk,c8].length 2)]) ((aL.id db).comp Ad) xU (ae rfl) (ae rfl) hO rfl rfl rfl rfl ?_
 refine bM ?_
 refine aD ?_
 refine aB ?_
 refine ah.b6 4 rfl ?_
 obtain⟨aP,cg,h⟩:=aw h
 refine eD 1 mb (lT cg) fun da=> ?_
 refine aN ?_
 obtain⟨bO,cM,h⟩:=aw h
 refine jd (γ:=(Option Nat × Nat)) [0,2,3,4,23] (fun ax=> []) (fun ax=> [(0,⟨some cv,.var (bO.1:bw)⟩),(1,⟨ax.1,.row 195 (bO.2:List fO) ax.2⟩),(3,⟨some aT,.cj (({ ({ (default:db) with bF:=1,hl:=1,lW:=4,gu:=aA ([0,0,65535,3]:List Int) a4 } :db) with nf:= [] } :db):db) [(3,aV ax.1 bO.2.length ax.2)]⟩)]) (fun ax=> ?_) (fun hm ar=> ?_) fun hm ar=> ?_
 ·clear cM
  refine ag.next ?_
  refine aD ?_
  refine aB ?_
  refine aB ?_
  refine ah.b6 0 rfl ?_
  obtain⟨bc,ek,h⟩:=aw h
  refine eD 1 gd (fX ek) fun fi=> ?_
  obtain⟨bZ,c7,h⟩:=aw h
  refine fL c7 Tryz.underlying63 bG ?_
  refine aW (cL bG) ?_
  obtain⟨e8,jf,h⟩:=aw h
  refine cZ jf (cC (b:=({ (default:db) with bF:=2,hl:=2,gu:=aA ([0,0,65535,3]:List Int) bZ } :db)) rfl EH q7 (.cons Ax rfl (bz 2) rfl (.cons CJ rfl (bz 2) rfl (.cons CG rfl (ae rfl) rfl (.nil))))) ?_
  refine cG q7 fun a7=> ?_
  refine ca 0 oL ?_
  refine bS ?_
  obtain⟨gN,lF,h⟩:=aw h
  refine cZ lF (cC (b:=({ (default:db) with bF:=3,hl:=3,lW:=9,gu:=0 } :db)) rfl EH q7 (.cons Ax rfl (bz 3) rfl (.cons CJ rfl (bz 3) rfl (.cons Hy rfl (bz 9) rfl (.cons CG rfl (bz 0) rfl (.nil)))))) ?_
  refine cG q7 fun bU=> ?_
  refine ca 0 oL ?_
  refine bM ?_
  refine aD ?_
  refine aB ?_
  refine ah.b6 2 rfl ?_
  obtain⟨bf,fh,h⟩:=aw h
  refine eD 1 gd (fX fh) fun iq=> ?_
  refine bj gb ?_
  refine aN ?_
  obtain⟨cD,dS,h⟩:=aw h
  refine jd (γ:=Unit) [0,2,3,4,5,6,23,50] (fun a1=> []) (fun a1=> [(0,⟨some cv,.var (cD.1:bw)⟩),(1,⟨some bU,.var (cD.2:db)⟩)]) (fun a1=> ?_) (fun hm ar=> ?_) fun hm ar=> ?_
  ·clear dS
   refine ag.next ?_
   refine aD ?_
   refine ah.ih (β:=db) (γ:=fO) (b':=(({ ({ (default:db) with bF:=1,hl:=1,lW:=4,gu:=aA ([0,0,65535,3]:List Int) a4 } :db) with nf:=bO.2 } :db):db)) ((aL.id db).comp Ad) 5 3 0 rfl rfl rfl rfl rfl rfl ?_
   refine ah.mI 5 rfl ?_
   obtain⟨gO,mR,h⟩:=aw h
   refine cZ mR (gx (i:=5) (aL.id db) (r:=({ ({ (default:db) with bF:=1,hl:=1,lW:=4,gu:=aA ([0,0,65535,3]:List Int) a4 } :db) with nf:=bO.2 } :db)) oL (ae rfl) rfl rfl rfl) ?_
   refine cc 2 oL ?_
   refine cc 1 oL ?_
   refine fM [gO,e8,cD.2] Tryz.underlying26 oL q7 ?_
   refine aQ ?_
   refine aN ?_
   refine ai.ret ?_
   refine ag.b6 0 rfl ?_
   obtain rfl:=aI h
   exact kj ()
  ·have h:=ht ar dS
   refine ai.cl ?_
   refine bp (cC (b:=({ (default:ao) with bY:=5#64 } :ao)) rfl gS dP (.cons ev rfl (hc 5 rfl) rfl (.nil))) ?_
   refine bp (cC (b:=({ (default:ao) with bY:=15#64 } :ao)) rfl gS dP (.cons ev rfl (hc 15 rfl) rfl (.nil))) ?_
   refine aB ?_
   refine ah.b6 0 rfl ?_
   obtain⟨cb,gL,h⟩:=aw h
   refine eD 1 gd (fX gL) fun dM=> ?_
   refine bj dg ?_
   obtain⟨jm,p8,h⟩:=aw h
   refine cZ p8 (cC (b:= { bR:=({ (default:ao) with bY:=5#64 } :ao),bK:=({ (default:ao) with bY:=15#64 } :ao),nV:=bD (1 + cb.1):fO }) rfl Bs q9 (.cons Aj rfl (ae rfl) rfl (.cons As rfl (ae rfl) rfl (.cons At rfl (ae rfl) rfl (.nil))))) ?_
   refine fM [jm] Tryz.underlying191 Bt q9 ?_
   refine aW (a0 A1) ?_
   refine nB 1 Ad xU ?_
   refine ah.nil ?_
   obtain rfl:=aI h
   exact dI 0 (hm ())
  ·have h:=hv ar dS
   refine ai.skip ?_
   obtain rfl:=aI h
   exact dI 0 (hm ())
 ·have h:=ht ar cM
  obtain⟨cN,g4,h⟩:=aw h
  obtain⟨iU,p9,h⟩:=aw h
  obtain⟨dm,kK,h⟩:=aw h
  obtain⟨dj,fB,h⟩:=aw h
  obtain⟨gV,qa,h⟩:=aw h
  obtain⟨et,kk,h⟩:=aw h
  refine k5 [0,2,3,4,7,8,9,10,11,12,13,14,15,16,17,18,19,20,21,22,23] ?_
  refine ai.jS mixed (bq 24 [] [] _ :: bq 25 (0 :: []) (3 :: []) _ :: bq 26 [] [] _ :: ⟨some 27,(2 :: []),(0 :: []),(0 :: []),fun _=>I.of (cN.1),fun hd _=>⟨some cv,.var (cN.2:bw)⟩⟩ :: bq 28 (3 :: []) [] _ :: bq 29 (4 :: []) [] _ :: bq 30 (5 :: []) [] _ :: bq 31 [] [] _ :: bq 32 [] [] _ :: bq 33 [] [] _ :: ⟨some 34,(3 :: 9 :: []),(0 :: []),(0 :: []),fun _=>I.of (dm.1),fun hd _=>⟨some cv,.var (dm.2:bw)⟩⟩ :: bq 35 (8 :: 10 :: []) [] _ :: bq 36 (11 :: []) [] _ :: bq 37 (6 :: 7 :: 12 :: []) [] _ :: bq 38 (13 :: []) [] _ :: ⟨some 39,(1 :: 14 :: []),(1 :: []),(1 :: []),fun hd=>I.eq (aV (hd 15 0) et.length ((hd 15 1).getD 0)),fun hd _=>⟨(hd 15 0),.row 195 (et:List fO) ((hd 15 1).getD 0)⟩⟩ :: bq 40 [] [] _ :: ⟨none,(1 :: 15 :: 16 :: []),(3 :: []),(3 :: []),fun _=>I.any,fun hd _=>⟨some aT,.cj (({ ({ (default:db) with bF:=1,hl:=1,lW:=4,gu:=aA ([0,0,65535,3]:List Int) a4 } :db) with nf:= [] } :db):db) [(3,aV (hd 15 0) et.length ((hd 15 1).getD 0))]⟩⟩ :: []) _ (0 :: 2 :: 3 :: 4 :: 7 :: 8 :: 9 :: 10 :: 11 :: 12 :: 13 :: 14 :: 15 :: 16 :: 17 :: 18 :: 19 :: 20 :: 21 :: 22 :: 23 :: []) rfl rfl (by kernel_rfl) ⟨fD (a0 A1),cS fun hd E' ay aK au=>ie (i:=3) (q:=0) (β:=db) (γ:=fO) xU (ae (aK _ _ rfl)) (au 3 _ rfl rfl) rfl,gW,?_,Cx SD,fD (iy Tryz.underlying3 Tryz.underlying41),cS fun hd E' ay aK au=>(cC (b:=({ (default:ao) with bY:=BitVec.ofInt 64 (bD (8 * cN.1)) } :ao)) rfl gS dP (.cons ev rfl (ae (aK _ _ rfl)) rfl (.nil))).as (aI p9),cS fun hd E' ay aK au=>cC (b:=({ (default:ao) with bY:=8#64 } :ao)) rfl gS dP (.cons ev rfl (hc 8 rfl) rfl (.nil)),gW,gW,?_,cS fun hd E' ay aK au=>oK (k:=dj) Tryz.underlying63 bG (ae (aK _ _ rfl)) (ae (aK _ _ rfl)) (cu fB),fD (cL bG),cS fun hd E' ay aK au=>(cC (b:= { bR:=iU,bK:=({ (default:ao) with bY:=8#64 } :ao),nV:=aA ([0,0,65535,3]:List Int) dj:fO }) rfl Bs q9 (.cons Aj rfl (ae (aK _ _ rfl)) rfl (.cons As rfl (ae (aK _ _ rfl)) rfl (.cons At rfl (ae (aK _ _ rfl)) rfl (.nil))))).as (aI qa),cS fun hd E' ay aK au=>iZ (r:= [gV]) Tryz.underlying191 Bt q9 rfl rfl (.cons (by simp) (ae (aK _ _ rfl)) (.nil)),?_,fD (a0 A1),?_,trivial⟩ fun gp=> ?_
  ·intro hd E' ay aK au
   refine ah.b6 0 (au 0 _ rfl rfl) ?_
   refine ah.lu (Lin:= [⟨some cv,.var (aP.2:bw)⟩]) (Lr:=ay.eraseIdx 0) gd (fX g4) ⟨ae (aK _ _ rfl),bz 2,trivial⟩ rfl fun g8=> ?_
   refine ah.nil ?_
   refine ag.back 0 (au 0 _ rfl rfl) ?_
   exact ag.fin (ft []) rfl rfl
  ·intro hd E' ay aK au
   refine ah.b6 0 (au 0 _ rfl rfl) ?_
   refine ah.lu (Lin:= [⟨some cv,.var (cN.2:bw)⟩]) (Lr:=ay.eraseIdx 0) gd (fX kK) ⟨ae (aK _ _ rfl),bz 4,trivial⟩ rfl fun Cy=> ?_
   refine ah.nil ?_
   refine ag.back 0 (au 0 _ rfl rfl) ?_
   exact ag.fin (ft []) rfl rfl
  ·intro hd E' ay aK au
   refine ah.app (i:=1) Tryz.underlying191 Bt q9 (bytes:=40) (by kernel_rfl) (ae (aK _ _ rfl)) (au 1 _ rfl rfl) (ae (aK _ _ rfl)) kk rfl fun jx eU=> ?_
   refine ah.nil ?_
   exact ag.fin (ft [jx,some eU]) rfl rfl
  ·intro hd E' ay aK au
   refine ah.iz (i:=3) (γ:=fO) (b':=(({ ({ (default:db) with bF:=1,hl:=1,lW:=4,gu:=aA ([0,0,65535,3]:List Int) a4 } :db) with nf:= [] } :db):db)) (os':= [(3,aV (hd 15 0) et.length ((hd 15 1).getD 0))]) ((aL.id db).comp Ad) xU (ae (aK _ _ rfl)) (ae (aK _ _ rfl)) hO (au 3 _ rfl rfl) rfl rfl rfl ?_
   refine ah.nil ?_
   exact ag.fin (ft []) rfl rfl
  refine ag.fg (L2:= [⟨some cv,.var (dm.2:bw)⟩,⟨(gp 15 0),.row 195 (et:List fO) ((gp 15 1).getD 0)⟩,⟨none,.row 195 (([]:List fO):List fO) 0⟩,⟨some aT,.cj (({ ({ (default:db) with bF:=1,hl:=1,lW:=4,gu:=aA ([0,0,65535,3]:List Int) a4 } :db) with nf:= [] } :db):db) [(3,aV (gp 15 0) et.length ((gp 15 1).getD 0))]⟩,⟨none,.row 195 (([]:List fO):List fO) 0⟩]) rfl ?_
  refine lD [0,2,3,4,7,8,9,10,11,12,13,14,15,16,17,18,19,21,22,23,24,26,27,28,29,30,31,32,33,34,35,36,37,38,39,40] ?_
  obtain rfl:=aI h
  exact dI 0 (hm ((gp 15 0),((gp 15 1).getD 0)))
 ·have h:=hv ar cM
  refine ai.skip ?_
  obtain rfl:=aI h
  exact dI 0 (hm (gH,2))
end Go.Proofs.YtmnggbjcnoffeaaGreat
namespace Go.Proofs.YtmnggbjcnoffeaaGreat
open Go Gv
set_option linter.unusedVariables false
set_option linter.unusedSimpArgs false
set_option maxRecDepth 100000
set_option maxHeartbeats 2000000
theorem Nx {aa:bw} {cv:Nat} {r:(List dp) × bw} (h:v9 aa=some r):cz Tryz.prog 69 [I.eq (.pointer (some ⟨cv,0,none⟩))] [⟨some cv,.var (aa:bw)⟩] (δ:=Unit) (fun d=>I.of (r.1)) (fun d=> [⟨some cv,.var (r.2:bw)⟩]):=by
 unfold v9 at h
 refine cz.of Tryz.func69 rfl Tryz.ntmps69 rfl fun W A=> ?_
 refine aD ?_
 refine bp (eG (look_nil (α:=dp))) ?_
 refine bS ?_
 refine g2 Bu xV ({ (default:e9) with cI:=3 } :e9) (ij z8 .nil) ?_
 refine cG xV fun aT=> ?_
 refine ca 0 Bv ?_
 refine bM ?_
 obtain⟨bk,dc,h⟩:=aw h
 obtain⟨c8,ho,h⟩:=aw h
 obtain⟨e8,jf,h⟩:=aw h
 obtain⟨gN,lF,h⟩:=aw h
 obtain⟨gO,mR,h⟩:=aw h
 obtain⟨jm,p8,h⟩:=aw h
 obtain⟨iU,p9,h⟩:=aw h
 obtain⟨gV,qa,h⟩:=aw h
 obtain⟨ku,s6,h⟩:=aw h
 obtain⟨jY,sO,h⟩:=aw h
 obtain⟨jC,sP,h⟩:=aw h
 obtain⟨kL,sQ,h⟩:=aw h
 obtain⟨jD,yr,h⟩:=aw h
 obtain⟨ak,bB,h⟩:=aw h
 obtain⟨jZ,yt,h⟩:=aw h
 obtain⟨aP,cg,h⟩:=aw h
 obtain⟨mS,yu,h⟩:=aw h
 obtain⟨nD,yv,h⟩:=aw h
 obtain⟨lG,Ff,h⟩:=aw h
 refine ai.pY 1 ?_
 refine k5 [0,2,3,5] ?_
 refine ai.jS mixed (bq 6 [] [] _ :: bq 7 [] [] _ :: bq 8 (1 :: []) [] _ :: bq 9 (2 :: []) [] _ :: bq 10 [] [] _ :: bq 11 (4 :: []) [] _ :: bq 12 [] (0 :: []) _ :: bq 13 (6 :: []) [] _ :: bq 14 (7 :: []) [] _ :: bq 15 (5 :: 8 :: []) [] _ :: bq 16 [] [] _ :: bq 17 (10 :: []) [] _ :: bq 18 [] (0 :: []) _ :: bq 19 (12 :: []) [] _ :: bq 20 [] [] _ :: bq 21 (14 :: []) [] _ :: bq 22 (13 :: 15 :: []) [] _ :: bq 23 (11 :: 16 :: []) [] _ :: bq 24 [] [] _ :: bq 25 [] [] _ :: bq 26 (18 :: 19 :: []) [] _ :: bq 27 [] [] _ :: bq 28 [] (0 :: []) _ :: bq 29 (22 :: []) [] _ :: bq 30 [] [] _ :: bq 31 (24 :: []) [] _ :: bq 32 (21 :: 23 :: 25 :: []) [] _ :: bq 33 (20 :: 26 :: []) [] _ :: bq 34 [] [] _ :: ⟨some 35,(28 :: []),(1 :: []),(1 :: []),fun _=>I.of (ak.1),fun hd _=>⟨some cv,.var (ak.2:bw)⟩⟩ :: bq 36 (29 :: []) [] _ :: bq 37 (30 :: []) [] _ :: bq 38 [] [] _ :: ⟨some 39,(29 :: 32 :: []),(1 :: []),(1 :: []),fun _=>I.of (aP.1),fun hd _=>⟨some cv,.var (aP.2:bw)⟩⟩ :: bq 40 (33 :: []) [] _ :: bq 41 (34 :: []) [] _ :: bq 42 (35 :: []) [] _ :: bq 43 (36 :: []) [] _ :: bq 44 (31 :: 37 :: []) [] _ :: bq 45 (38 :: []) [] _ :: ⟨some 46,(0 :: 3 :: 9 :: 17 :: 27 :: 39 :: []),(2 :: []),(2 :: []),fun hd=>I.eq (aV (hd 40 0) [bk,c8,gO,gV,jD,lG].length 6),fun hd _=>⟨(hd 40 0),.row 148 ([bk,c8,gO,gV,jD,lG]:List dp) 6⟩⟩ :: ⟨some 4,(40 :: []),[],[],fun hd=>I.eq (aV (hd 40 0) [bk,c8,gO,gV,jD,lG].length 6),fun _ _=>⟨none,.dead⟩⟩ :: []) _ (0 :: 2 :: 3 :: 5 :: []) rfl rfl (by kernel_rfl) ⟨cS fun hd E' ay aK au=>(cC (b:=({ (default:dp) with bF:=1,b7:=ByteArray.mk #[110,111,112] } :dp)) rfl sD nZ (.cons qA rfl (bz 1) rfl (.cons tM rfl (de (ByteArray.mk #[110,111,112])) rfl (.nil)))).as (aI dc),cS fun hd E' ay aK au=>cC (b:=({ (default:ey) with hn:=6 } :ey)) rfl pQ l5 (.cons pk rfl (bz 6) rfl (.nil)),cS fun hd E' ay aK au=>iZ (r:= [({ (default:ey) with hn:=6 } :ey)]) Tryz.underlying146 xW l5 rfl rfl (.cons (by simp) (ae (aK _ _ rfl)) (.nil)),cS fun hd E' ay aK au=>(cC (b:=({ (default:dp) with bF:=2,b7:=ByteArray.mk #[100,114,111,112],mB:= [({ (default:ey) with hn:=6 } :ey)] } :dp)) rfl sD nZ (.cons qA rfl (bz 2) rfl (.cons tM rfl (de (ByteArray.mk #[100,114,111,112])) rfl (.cons we rfl (ae (aK _ _ rfl)) rfl (.nil))))).as (aI ho),cS fun hd E' ay aK au=>(cC (b:= { b7:=ByteArray.mk #[112,111,114,116],eO:=16:hG }) rfl Bw ra (.cons Ak rfl (de (ByteArray.mk #[112,111,114,116])) rfl (.cons wu rfl (bz 16) rfl (.nil)))).as (aI jf),cS fun hd E' ay aK au=>iZ (r:= [e8]) Tryz.underlying145 uZ ra rfl rfl (.cons (by simp) (ae (aK _ _ rfl)) (.nil)),o0 0 Bv,cS fun hd E' ay aK au=>(cC (b:=({ (default:ey) with hn:=7,jv:=({ (default:e9) with cI:=3 } :e9) } :ey)) rfl pQ l5 (.cons pk rfl (bz 7) rfl (.cons tS rfl (ae (aK _ _ rfl)) rfl (.nil)))).as (aI lF),cS fun hd E' ay aK au=>iZ (r:= [gN]) Tryz.underlying146 xW l5 rfl rfl (.cons (by simp) (ae (aK _ _ rfl)) (.nil)),cS fun hd E' ay aK au=>(cC (b:=({ (default:dp) with bF:=3,b7:=ByteArray.mk #[102,111,114,119,97,114,100],iY:= [e8],mB:= [gN] } :dp)) rfl sD nZ (.cons qA rfl (bz 3) rfl (.cons tM rfl (de (ByteArray.mk #[102,111,114,119,97,114,100])) rfl (.cons z6 rfl (ae (aK _ _ rfl)) rfl (.cons we rfl (ae (aK _ _ rfl)) rfl (.nil)))))).as (aI mR),cS fun hd E' ay aK au=>cC (b:= { b7:=ByteArray.mk #[120],eO:=4:hG }) rfl Bw ra (.cons Ak rfl (de (ByteArray.mk #[120])) rfl (.cons wu rfl (bz 4) rfl (.nil))),cS fun hd E' ay aK au=>iZ (r:= [{ b7:=ByteArray.mk #[120],eO:=4:hG }]) Tryz.underlying145 uZ ra rfl rfl (.cons (by simp) (ae (aK _ _ rfl)) (.nil)),o0 0 Bv,cS fun hd E' ay aK au=>(cC (b:= { hn:=1,iA:=5,jv:=({ (default:e9) with cI:=3 } :e9):ey }) rfl pQ l5 (.cons pk rfl (bz 1) rfl (.cons r4 rfl (bz 5) rfl (.cons tS rfl (ae (aK _ _ rfl)) rfl (.nil))))).as (aI p8),cS fun hd E' ay aK au=>(cC (b:=({ (default:e9) with cI:=2,s7:=5 } :e9)) rfl Bu xV (.cons z8 rfl (bz 2) rfl (.cons HC rfl (bz 5) rfl (.nil)))).as (aI p9),cS fun hd E' ay aK au=>cC (b:= { hn:=2,iA:=3,jv:=iU:ey }) rfl pQ l5 (.cons pk rfl (bz 2) rfl (.cons r4 rfl (bz 3) rfl (.cons tS rfl (ae (aK _ _ rfl)) rfl (.nil)))),cS fun hd E' ay aK au=>iZ (r:= [jm,{ hn:=2,iA:=3,jv:=iU:ey }]) Tryz.underlying146 xW l5 rfl rfl (.cons (by simp) (ae (aK _ _ rfl)) (.cons (by simp) (ae (aK _ _ rfl)) (.nil))),cS fun hd E' ay aK au=>(cC (b:=({ (default:dp) with bF:=4,b7:=ByteArray.mk #[116,97,103],iY:= [{ b7:=ByteArray.mk #[120],eO:=4:hG }],mB:= [jm,{ hn:=2,iA:=3,jv:=iU:ey }] } :dp)) rfl sD nZ (.cons qA rfl (bz 4) rfl (.cons tM rfl (de (ByteArray.mk #[116,97,103])) rfl (.cons z6 rfl (ae (aK _ _ rfl)) rfl (.cons we rfl (ae (aK _ _ rfl)) rfl (.nil)))))).as (aI qa),cS fun hd E' ay aK au=>cC (b:= { b7:=ByteArray.mk #[120],eO:=4:hG }) rfl Bw ra (.cons Ak rfl (de (ByteArray.mk #[120])) rfl (.cons wu rfl (bz 4) rfl (.nil))),cS fun hd E' ay aK au=>cC (b:= { b7:=ByteArray.mk #[121],eO:=12:hG }) rfl Bw ra (.cons Ak rfl (de (ByteArray.mk #[121])) rfl (.cons wu rfl (bz 12) rfl (.nil))),cS fun hd E' ay aK au=>(iZ (r:= [{ b7:=ByteArray.mk #[120],eO:=4:hG },{ b7:=ByteArray.mk #[121],eO:=12:hG }]) Tryz.underlying145 uZ ra rfl rfl (.cons (by simp) (ae (aK _ _ rfl)) (.cons (by simp) (ae (aK _ _ rfl)) (.nil)))).as (aI s6),cS fun hd E' ay aK au=>cC (b:=({ (default:ey) with hn:=4,iA:=3 } :ey)) rfl pQ l5 (.cons pk rfl (bz 4) rfl (.cons r4 rfl (bz 3) rfl (.nil))),o0 0 Bv,cS fun hd E' ay aK au=>(cC (b:= { hn:=1,iA:=9,jv:=({ (default:e9) with cI:=3 } :e9):ey }) rfl pQ l5 (.cons pk rfl (bz 1) rfl (.cons r4 rfl (bz 9) rfl (.cons tS rfl (ae (aK _ _ rfl)) rfl (.nil))))).as (aI sO),cS fun hd E' ay aK au=>(cC (b:=({ (default:e9) with cI:=3,s7:=1 } :e9)) rfl Bu xV (.cons z8 rfl (bz 3) rfl (.cons HC rfl (bz 1) rfl (.nil)))).as (aI sP),cS fun hd E' ay aK au=>cC (b:= { hn:=3,iA:=8,jv:=jC:ey }) rfl pQ l5 (.cons pk rfl (bz 3) rfl (.cons r4 rfl (bz 8) rfl (.cons tS rfl (ae (aK _ _ rfl)) rfl (.nil)))),cS fun hd E' ay aK au=>(iZ (r:= [({ (default:ey) with hn:=4,iA:=3 } :ey),jY,{ hn:=3,iA:=8,jv:=jC:ey }]) Tryz.underlying146 xW l5 rfl rfl (.cons (by simp) (ae (aK _ _ rfl)) (.cons (by simp) (ae (aK _ _ rfl)) (.cons (by simp) (ae (aK _ _ rfl)) (.nil))))).as (aI sQ),cS fun hd E' ay aK au=>(cC (b:=({ (default:dp) with bF:=5,b7:=ByteArray.mk #[119,114,97,112],iY:=ku,mB:=kL } :dp)) rfl sD nZ (.cons qA rfl (bz 5) rfl (.cons tM rfl (de (ByteArray.mk #[119,114,97,112])) rfl (.cons z6 rfl (ae (aK _ _ rfl)) rfl (.cons we rfl (ae (aK _ _ rfl)) rfl (.nil)))))).as (aI yr),gW,?_,Cx dg,cS fun hd E' ay aK au=>(cC (b:=({ (default:ey) with hn:=5,iA:=bD (2 + ak.1) } :ey)) rfl pQ l5 (.cons pk rfl (bz 5) rfl (.cons r4 rfl (ae (aK _ _ rfl)) rfl (.nil)))).as (aI yt),gW,?_,fD (iy Tryz.underlying3 Tryz.underlying41),cS fun hd E' ay aK au=>(cC (b:=({ (default:ao) with bY:=BitVec.ofInt 64 aP.1 } :ao)) rfl gS dP (.cons ev rfl (ae (aK _ _ rfl)) rfl (.nil))).as (aI yu),cS fun hd E' ay aK au=>(cC (b:=({ (default:e9) with cI:=1,bR:=mS } :e9)) rfl Bu xV (.cons z8 rfl (bz 1) rfl (.cons Np rfl (ae (aK _ _ rfl)) rfl (.nil)))).as (aI yv),cS fun hd E' ay aK au=>cC (b:= { hn:=2,iA:=6,jv:=nD:ey }) rfl pQ l5 (.cons pk rfl (bz 2) rfl (.cons r4 rfl (bz 6) rfl (.cons tS rfl (ae (aK _ _ rfl)) rfl (.nil)))),cS fun hd E' ay aK au=>iZ (r:= [jZ,{ hn:=2,iA:=6,jv:=nD:ey }]) Tryz.underlying146 xW l5 rfl rfl (.cons (by simp) (ae (aK _ _ rfl)) (.cons (by simp) (ae (aK _ _ rfl)) (.nil))),cS fun hd E' ay aK au=>(cC (b:=({ (default:dp) with bF:=6,b7:=ByteArray.mk #[115,116,114,105,112],mB:= [jZ,{ hn:=2,iA:=6,jv:=nD:ey }] } :dp)) rfl sD nZ (.cons qA rfl (bz 6) rfl (.cons tM rfl (de (ByteArray.mk #[115,116,114,105,112])) rfl (.cons we rfl (ae (aK _ _ rfl)) rfl (.nil))))).as (aI Ff),?_,?_,trivial⟩ fun gp=> ?_
 ·intro hd E' ay aK au
  refine ah.b6 1 (au 1 _ rfl rfl) ?_
  refine ah.lu (Lin:= [⟨some cv,.var (aa:bw)⟩]) (Lr:=ay.eraseIdx 1) gd (fX bB) ⟨ae (aK _ _ rfl),bz 2,trivial⟩ rfl fun aE=> ?_
  refine ah.nil ?_
  refine ag.back 1 (au 1 _ rfl rfl) ?_
  exact ag.fin (ft []) rfl rfl
 ·intro hd E' ay aK au
  refine ah.b6 1 (au 1 _ rfl rfl) ?_
  refine ah.lu (Lin:= [⟨some cv,.var (ak.2:bw)⟩]) (Lr:=ay.eraseIdx 1) gd (fX cg) ⟨ae (aK _ _ rfl),bz 256,trivial⟩ rfl fun da=> ?_
  refine ah.nil ?_
  refine ag.back 1 (au 1 _ rfl rfl) ?_
  exact ag.fin (ft []) rfl rfl
 ·intro hd E' ay aK au
  refine ah.oT (α:=dp) (r:= [bk,c8,gO,gV,jD,lG]) Tryz.underlying27 l4 nZ rfl rfl (.cons (by simp) (ae (aK _ _ rfl)) (.cons (by simp) (ae (aK _ _ rfl)) (.cons (by simp) (ae (aK _ _ rfl)) (.cons (by simp) (ae (aK _ _ rfl)) (.cons (by simp) (ae (aK _ _ rfl)) (.cons (by simp) (ae (aK _ _ rfl)) (.nil))))))) rfl fun gH=> ?_
  refine ah.nil ?_
  refine ag.place 2 (au 2 _ rfl rfl) ?_
  exact ag.fin (ft [gH]) rfl rfl
 ·intro hd E' ay aK au
  refine bp (eG (ae (aK _ _ rfl))) ?_
  refine ah.nil ?_
  exact ag.fin (ft []) rfl rfl
 refine ag.fg (L2:= [⟨some aT,.var (({ (default:e9) with cI:=3 } :e9):e9)⟩,⟨some cv,.var (aP.2:bw)⟩,⟨(gp 40 0),.row 148 ([bk,c8,gO,gV,jD,lG]:List dp) 6⟩]) rfl ?_
 refine lD [0,2,3,4,5,6,7,8,9,10,11,12,13,14,15,16,17,18,19,20,21,22,23,24,25,26,27,28,29,30,31,32,33,34,35,36,37,38,39,40,41,42,43,44,45,46] ?_
 refine ag.b6 2 rfl ?_
 refine ag.next ?_
 refine ai.seq ?_
 refine aD ?_
 refine aB ?_
 refine ah.b6 2 rfl ?_
 obtain⟨bc,ek,h⟩:=aw h
 refine eD 1 mb (lT ek) fun fi=> ?_
 refine aN ?_
 obtain⟨bO,cM,h⟩:=aw h
 refine jd (γ:=(Option Nat × Nat)) [0,2,3,48] (fun ax=> [(4,I.eq (aV ax.1 bO.length ax.2))]) (fun ax=> [(1,⟨ax.1,.row 148 (bO:List dp) ax.2⟩)]) (fun ax=> ?_) (fun hm ar=> ?_) fun hm ar=> ?_
 ·clear cM
  refine ag.next ?_
  refine ai.seq ?_
  refine aD ?_
  refine aB ?_
  refine ah.b6 0 rfl ?_
  obtain⟨bf,fh,h⟩:=aw h
  refine eD 1 mb (lT fh) fun iq=> ?_
  refine aN ?_
  obtain⟨cD,dS,h⟩:=aw h
  refine jd (γ:=(Option Nat × Nat)) [0,2,3,48,53] (fun a1=> [(4,I.eq (aV a1.1 cD.length a1.2))]) (fun a1=> [(1,⟨a1.1,.row 148 (cD:List dp) a1.2⟩)]) (fun a1=> ?_) (fun hm ar=> ?_) fun hm ar=> ?_
  ·clear dS
   refine ag.next ?_
   refine aD ?_
   refine aB ?_
   refine aQ ?_
   refine aN ?_
   refine ai.ret ?_
   refine ag.kV (α:=dp) 1 [2,4,57] ⟨rfl,rfl,rfl,trivial⟩ rfl ?_
   refine ag.b6 0 rfl ?_
   obtain rfl:=aI h
   exact kj ()
  ·have h:=ht ar dS
   refine ai.cl ?_
   refine aB ?_
   obtain⟨a4,cw,h⟩:=aw h
   refine bp (rb (i:=1) (k:=a4) (xs:=(bO:List dp)) Tryz.underlying27 l4 (ae rfl) (bz 4) rfl (cu cw)) ?_
   refine aW (a0 JA) ?_
   obtain⟨qb,yw,h⟩:=aw h
   refine ah.uM (i:=1) (k:=a4) ((aL.id dp).comp Hr) (v:=(ByteArray.mk #[120,32,60,32,121,32,124,124,32,120,32,61,61,32,49,53]:ByteArray)) (r:=(qb:List dp)) oa (ae rfl) (de (ByteArray.mk #[120,32,60,32,121,32,124,124,32,120,32,61,61,32,49,53])) rfl (cu cw).1 rfl (aI yw) ?_
   refine ah.ke (m:=qb.length) 4 rfl (ll (aI yw)) ?_
   refine ah.ke (m:=qb.length) 54 rfl (ll (aI yw)) ?_
   refine ah.nil ?_
   obtain rfl:=aI h
   exact dI 0 (hm (ax.1,ax.2))
  ·have h:=hv ar dS
   refine ai.skip ?_
   obtain rfl:=aI h
   exact dI 0 (hm (ax.1,ax.2))
 ·have h:=ht ar cM
  refine ai.cl ?_
  refine aB ?_
  obtain⟨bZ,c7,h⟩:=aw h
  refine bp (rb (i:=1) (k:=bZ) (xs:=([bk,c8,gO,gV,jD,lG]:List dp)) Tryz.underlying27 l4 (ae rfl) (bz 2) rfl (cu c7)) ?_
  refine aW (a0 JA) ?_
  obtain⟨o3,vh,h⟩:=aw h
  refine ah.uM (i:=1) (k:=bZ) ((aL.id dp).comp Hr) (v:=(ByteArray.mk #[112,111,114,116,32,33,61,32,48]:ByteArray)) (r:=(o3:List dp)) oa (ae rfl) (de (ByteArray.mk #[112,111,114,116,32,33,61,32,48])) rfl (cu c7).1 rfl (aI vh) ?_
  refine ah.ke (m:=o3.length) 4 rfl (ll (aI vh)) ?_
  refine ah.ke (m:=o3.length) 46 rfl (ll (aI vh)) ?_
  refine ah.ke (m:=o3.length) 49 rfl (ll (aI vh)) ?_
  refine ah.nil ?_
  obtain rfl:=aI h
  exact dI 0 (hm ((gp 40 0),6))
 ·have h:=hv ar cM
  refine ai.skip ?_
  obtain rfl:=aI h
  exact dI 0 (hm ((gp 40 0),6))
end Go.Proofs.YtmnggbjcnoffeaaGreat
namespace Go.Proofs.YtmnggbjcnoffeaaGreat
open Go Gv
set_option linter.unusedVariables false
set_option linter.unusedSimpArgs false
set_option maxRecDepth 100000
set_option maxHeartbeats 2000000
theorem NH {aa:bw} {cv:Nat} {r:(List bN) × bw} (h:wg aa=some r):cz Tryz.prog 70 [I.eq (.pointer (some ⟨cv,0,none⟩))] [⟨some cv,.var (aa:bw)⟩] (δ:=Unit) (fun d=>I.of (r.1)) (fun d=> [⟨some cv,.var (r.2:bw)⟩]):=by
 unfold wg at h
 refine cz.of Tryz.func70 rfl Tryz.ntmps70 rfl fun W A=> ?_
 refine aD ?_
 refine bp (eG (look_nil (α:=bN))) ?_
 refine bS ?_
 obtain⟨bk,dc,h⟩:=aw h
 refine cZ dc (cC (b:= { b7:=ByteArray.mk #[97],ga:=4,cI:=1:cn }) rfl pZ iB (.cons pj rfl (de (ByteArray.mk #[97])) rfl (.cons m8 rfl (bz 4) rfl (.cons ka rfl (bz 1) rfl (.nil))))) ?_
 refine fM [bk] Tryz.underlying62 hS iB ?_
 refine fM ([1,2,4]:List Int) Tryz.underlying63 bG hy ?_
 refine aB ?_
 refine ah.b6 0 rfl ?_
 obtain⟨ak,bB,h⟩:=aw h
 refine eD 1 gd (fX bB) fun aE=> ?_
 refine bj dg ?_
 refine aB ?_
 refine ah.b6 0 rfl ?_
 obtain⟨aP,cg,h⟩:=aw h
 refine eD 1 gd (fX cg) fun da=> ?_
 refine bj dg ?_
 obtain⟨c8,ho,h⟩:=aw h
 refine cZ ho (cC (b:=({ (default:bN) with bF:=1,b7:=ByteArray.mk #[112,111,114,116,115],b1:= [bk],cX:=([1,2,4]:List Int),gu:=bD (1 + ak.1),kE:=bD (2 + aP.1) } :bN)) rfl yq k2 (.cons nO rfl (bz 1) rfl (.cons Al rfl (de (ByteArray.mk #[112,111,114,116,115])) rfl (.cons iM rfl (ae rfl) rfl (.cons tK rfl (ae rfl) rfl (.cons z7 rfl (ae rfl) rfl (.cons Am rfl (ae rfl) rfl (.nil)))))))) ?_
 refine cG k2 fun aT=> ?_
 refine ca 0 fQ ?_
 refine bS ?_
 obtain⟨e8,jf,h⟩:=aw h
 refine cZ jf (cC (b:= { b7:=ByteArray.mk #[100],ga:=7,cI:=2:cn }) rfl pZ iB (.cons pj rfl (de (ByteArray.mk #[100])) rfl (.cons m8 rfl (bz 7) rfl (.cons ka rfl (bz 2) rfl (.nil))))) ?_
 refine ah.oT (α:=cn) (r:= [e8]) Tryz.underlying62 hS iB rfl rfl (.cons (by simp) (ae rfl) (.nil)) rfl fun gH=> ?_
 refine fM ([1,2,3,4]:List Int) Tryz.underlying63 bG hy ?_
 refine aB ?_
 refine ah.b6 2 rfl ?_
 obtain⟨bc,ek,h⟩:=aw h
 refine eD 1 gd (fX ek) fun fi=> ?_
 refine bj dg ?_
 refine bp (oD (b:=({ (default:bN) with bF:=2,b7:=ByteArray.mk #[114,111,117,116,101,115],cX:=([1,2,3,4]:List Int),gu:=2,kE:=bD (3 + bc.1) } :bN)) [] Ec rfl yq k2 (.cons nO rfl (bz 2) rfl (by rfl) (.cons Al rfl (de (ByteArray.mk #[114,111,117,116,101,115])) rfl (by rfl) (.hole iM rfl (ae rfl) hO rfl rfl (.cons tK rfl (ae rfl) rfl (by rfl) (.cons z7 rfl (bz 2) rfl (by rfl) (.cons Am rfl (ae rfl) rfl (by rfl) (.nil)))))))) ?_
 refine ah.nU (z:=(default:bN)) [2] Ed k2 rfl fun a7=> ?_
 refine ah.own (α:=cn) 86 ?_
 refine ah.pE (i:=1) fQ (ae rfl) (ae rfl) rfl ?_
 refine bM ?_
 refine aD ?_
 refine aB ?_
 refine ah.b6 2 rfl ?_
 obtain⟨bf,fh,h⟩:=aw h
 refine eD 1 mb (lT fh) fun iq=> ?_
 refine aN ?_
 obtain⟨bO,cM,h⟩:=aw h
 refine jd (γ:=(Option Nat × Nat)) [0,2,3,4,28] (fun ax=> []) (fun ax=> [(2,⟨some a7,.cj (bO.1:bN) [(2,aV ax.1 bO.2.length ax.2)]⟩),(3,⟨ax.1,.row 86 (bO.2:List cn) ax.2⟩)]) (fun ax=> ?_) (fun hm ar=> ?_) fun hm ar=> ?_
 ·clear cM
  refine ag.next ?_
  refine aD ?_
  obtain⟨gN,lF,h⟩:=aw h
  refine cZ lF (cC (b:= { b7:=ByteArray.mk #[101],ga:=6,cI:=3:cn }) rfl pZ iB (.cons pj rfl (de (ByteArray.mk #[101])) rfl (.cons m8 rfl (bz 6) rfl (.cons ka rfl (bz 3) rfl (.nil))))) ?_
  obtain⟨gO,mR,h⟩:=aw h
  refine cZ mR (cC (b:= { b7:=ByteArray.mk #[97],ga:=4,cI:=3:cn }) rfl pZ iB (.cons pj rfl (de (ByteArray.mk #[97])) rfl (.cons m8 rfl (bz 4) rfl (.cons ka rfl (bz 3) rfl (.nil))))) ?_
  refine ah.oT (α:=cn) (r:= [gN,gO]) Tryz.underlying62 hS iB rfl rfl (.cons (by simp) (ae rfl) (.cons (by simp) (ae rfl) (.nil))) rfl fun jx=> ?_
  refine fM ([1,2,3,5,6]:List Int) Tryz.underlying63 bG hy ?_
  refine aB ?_
  refine ah.b6 1 rfl ?_
  obtain⟨cb,gL,h⟩:=aw h
  refine eD 1 gd (fX gL) fun dM=> ?_
  refine bj dg ?_
  refine bp (oD (b:=({ (default:bN) with bF:=3,b7:=ByteArray.mk #[97,99,108],cX:=([1,2,3,5,6]:List Int),gu:=1,kE:=bD (4 + cb.1) } :bN)) [] Ec rfl yq k2 (.cons nO rfl (bz 3) rfl (by rfl) (.cons Al rfl (de (ByteArray.mk #[97,99,108])) rfl (by rfl) (.hole iM rfl (ae rfl) hO rfl rfl (.cons tK rfl (ae rfl) rfl (by rfl) (.cons z7 rfl (bz 1) rfl (by rfl) (.cons Am rfl (ae rfl) rfl (by rfl) (.nil)))))))) ?_
  refine ah.nU (z:=(default:bN)) [2] Ed k2 rfl fun bU=> ?_
  refine ah.own (α:=cn) 86 ?_
  refine ah.pE (i:=1) fQ (ae rfl) (ae rfl) rfl ?_
  refine bM ?_
  refine aD ?_
  refine aB ?_
  refine ah.b6 2 rfl ?_
  obtain⟨cN,g4,h⟩:=aw h
  refine eD 1 mb (lT g4) fun g8=> ?_
  refine aN ?_
  obtain⟨cD,dS,h⟩:=aw h
  refine jd (γ:=(Option Nat × Nat)) [0,2,3,4,5,28,44] (fun a1=> []) (fun a1=> [(2,⟨some bU,.cj (cD.1:bN) [(2,aV a1.1 cD.2.length a1.2)]⟩),(3,⟨a1.1,.row 86 (cD.2:List cn) a1.2⟩)]) (fun a1=> ?_) (fun hm ar=> ?_) fun hm ar=> ?_
  ·clear dS
   refine ag.next ?_
   refine aD ?_
   obtain⟨jm,p8,h⟩:=aw h
   refine cZ p8 (cC (b:= { b7:=ByteArray.mk #[102],ga:=8,cI:=4:cn }) rfl pZ iB (.cons pj rfl (de (ByteArray.mk #[102])) rfl (.cons m8 rfl (bz 8) rfl (.cons ka rfl (bz 4) rfl (.nil))))) ?_
   refine ah.oT (α:=cn) (r:= [jm]) Tryz.underlying62 hS iB rfl rfl (.cons (by simp) (ae rfl) (.nil)) rfl fun ma=> ?_
   refine fM ([1,3,5]:List Int) Tryz.underlying63 bG hy ?_
   refine bp (cC (b:=({ (default:ao) with bY:=7#64 } :ao)) rfl gS dP (.cons ev rfl (hc 7 rfl) rfl (.nil))) ?_
   refine fM [({ (default:ao) with bY:=7#64 } :ao)] Tryz.underlying48 bT dP ?_
   refine aB ?_
   refine ah.b6 1 rfl ?_
   obtain⟨dm,kK,h⟩:=aw h
   refine eD 1 gd (fX kK) fun Cy=> ?_
   refine bj dg ?_
   refine bp (oD (b:=({ (default:bN) with bF:=4,b7:=ByteArray.mk #[115,112,97,110,115],cX:=([1,3,5]:List Int),gu:=3,r7:= [({ (default:ao) with bY:=7#64 } :ao)],kE:=bD (3 + dm.1) } :bN)) [] Ec rfl yq k2 (.cons nO rfl (bz 4) rfl (by rfl) (.cons Al rfl (de (ByteArray.mk #[115,112,97,110,115])) rfl (by rfl) (.hole iM rfl (ae rfl) hO rfl rfl (.cons tK rfl (ae rfl) rfl (by rfl) (.cons z7 rfl (bz 3) rfl (by rfl) (.cons Ng rfl (ae rfl) rfl (by rfl) (.cons Am rfl (ae rfl) rfl (by rfl) (.nil))))))))) ?_
   refine ah.nU (z:=(default:bN)) [2] Ed k2 rfl fun cR=> ?_
   refine ah.own (α:=cn) 86 ?_
   refine ah.pE (i:=1) fQ (ae rfl) (ae rfl) rfl ?_
   refine bM ?_
   refine aD ?_
   refine aB ?_
   refine ah.b6 2 rfl ?_
   obtain⟨et,kk,h⟩:=aw h
   refine eD 1 mb (lT kk) fun GW=> ?_
   refine aN ?_
   obtain⟨fj,hh,h⟩:=aw h
   refine jd (γ:=(Option Nat × Nat)) [0,2,3,4,5,6,28,44,61] (fun br=> []) (fun br=> [(2,⟨some cR,.cj (fj.1:bN) [(2,aV br.1 fj.2.length br.2)]⟩),(3,⟨br.1,.row 86 (fj.2:List cn) br.2⟩)]) (fun br=> ?_) (fun hm ar=> ?_) fun hm ar=> ?_
   ·clear hh
    refine ag.next ?_
    refine aD ?_
    refine cc 10 fQ ?_
    refine ah.ih (β:=bN) (γ:=cn) (b':=(({ bO.1 with b1:=bO.2 } :bN):bN)) ((aL.id bN).comp iM) 8 9 0 rfl rfl rfl rfl rfl rfl ?_
    refine ah.mI 8 rfl ?_
    refine cc 8 fQ ?_
    refine ah.ih (β:=bN) (γ:=cn) (b':=(({ cD.1 with b1:=cD.2 } :bN):bN)) ((aL.id bN).comp iM) 5 6 0 rfl rfl rfl rfl rfl rfl ?_
    refine ah.mI 5 rfl ?_
    refine cc 5 fQ ?_
    refine ah.ih (β:=bN) (γ:=cn) (b':=(({ fj.1 with b1:=fj.2 } :bN):bN)) ((aL.id bN).comp iM) 2 3 0 rfl rfl rfl rfl rfl rfl ?_
    refine ah.mI 2 rfl ?_
    refine cc 2 fQ ?_
    obtain⟨iU,p9,h⟩:=aw h
    refine ah.LB (α:=bN) (r0:= [c8,({ bO.1 with b1:=bO.2 } :bN),({ cD.1 with b1:=cD.2 } :bN),({ fj.1 with b1:=fj.2 } :bN)]) (r:=iU) Tryz.underlying28 fQ k2 rfl rfl (.cons (by simp) (ae rfl) (.cons (by simp) (ae rfl) (.cons (by simp) (ae rfl) (.cons (by simp) (ae rfl) (.nil))))) (aI p9) rfl fun pX=> ?_
    refine aQ ?_
    refine bS ?_
    obtain⟨gV,qa,h⟩:=aw h
    refine cZ qa (iZ (r:= [ByteArray.mk #[],ByteArray.mk #[97,32,33,61,32,48],ByteArray.mk #[97,32,60,32,49,52,32,38,38,32,97,32,33,61,32,51]]) Tryz.underlying200 oa B4 rfl rfl (.cons (by simp) (de (ByteArray.mk #[])) (.cons (by simp) (de (ByteArray.mk #[97,32,33,61,32,48])) (.cons (by simp) (de (ByteArray.mk #[97,32,60,32,49,52,32,38,38,32,97,32,33,61,32,51])) (.nil))))) ?_
    obtain⟨ku,s6,h⟩:=aw h
    refine cZ s6 (iZ (r:= [ByteArray.mk #[],ByteArray.mk #[100,58,58,112,114,101,102,105,120,95,108,101,110,103,116,104,32,62,61,32,56],ByteArray.mk #[100,58,58,112,114,101,102,105,120,95,108,101,110,103,116,104,32,61,61,32,51,50,32,45,62,32,100,58,58,118,97,108,117,101,32,62,32,48,120,102,102]]) Tryz.underlying200 oa B4 rfl rfl (.cons (by simp) (de (ByteArray.mk #[])) (.cons (by simp) (de (ByteArray.mk #[100,58,58,112,114,101,102,105,120,95,108,101,110,103,116,104,32,62,61,32,56])) (.cons (by simp) (de (ByteArray.mk #[100,58,58,112,114,101,102,105,120,95,108,101,110,103,116,104,32,61,61,32,51,50,32,45,62,32,100,58,58,118,97,108,117,101,32,62,32,48,120,102,102])) (.nil))))) ?_
    obtain⟨jY,sO,h⟩:=aw h
    refine cZ sO (iZ (r:= [ByteArray.mk #[],ByteArray.mk #[112,114,105,111,114,105,116,121,32,60,32,49,48,48,32,38,38,32,40,101,58,58,109,97,115,107,32,33,61,32,48,32,124,124,32,97,58,58,109,97,115,107,32,33,61,32,48,41],ByteArray.mk #[101,58,58,109,97,115,107,32,61,61,32,48,32,45,62,32,112,114,105,111,114,105,116,121,32,62,32,53]]) Tryz.underlying200 oa B4 rfl rfl (.cons (by simp) (de (ByteArray.mk #[])) (.cons (by simp) (de (ByteArray.mk #[112,114,105,111,114,105,116,121,32,60,32,49,48,48,32,38,38,32,40,101,58,58,109,97,115,107,32,33,61,32,48,32,124,124,32,97,58,58,109,97,115,107,32,33,61,32,48,41])) (.cons (by simp) (de (ByteArray.mk #[101,58,58,109,97,115,107,32,61,61,32,48,32,45,62,32,112,114,105,111,114,105,116,121,32,62,32,53])) (.nil))))) ?_
    obtain⟨jC,sP,h⟩:=aw h
    refine cZ sP (iZ (r:= [ByteArray.mk #[],ByteArray.mk #[102,58,58,104,105,103,104,32,45,32,102,58,58,108,111,119,32,60,61,32,48,120,49,48,48],ByteArray.mk #[33,40,102,58,58,108,111,119,32,61,61,32,48,32,38,38,32,102,58,58,104,105,103,104,32,62,32,49,48,48,48,41]]) Tryz.underlying200 oa B4 rfl rfl (.cons (by simp) (de (ByteArray.mk #[])) (.cons (by simp) (de (ByteArray.mk #[102,58,58,104,105,103,104,32,45,32,102,58,58,108,111,119,32,60,61,32,48,120,49,48,48])) (.cons (by simp) (de (ByteArray.mk #[33,40,102,58,58,108,111,119,32,61,61,32,48,32,38,38,32,102,58,58,104,105,103,104,32,62,32,49,48,48,48,41])) (.nil))))) ?_
    refine fM [gV,ku,jY,jC] Tryz.underlying201 EI SE ?_
    refine aQ ?_
    refine bM ?_
    refine aD ?_
    refine aB ?_
    refine bp (su (i:=0) Tryz.underlying28 (ae rfl) rfl rfl) ?_
    refine aB ?_
    refine aN ?_
    refine ai.block ?_
    obtain⟨az,aq,h⟩:=aw h
    refine gB (γ:=(Option Nat × Nat)) (δ:=(Option Nat × Nat)) aq [0,2,3,4,5,6,8,28,44,61,80] (fun s1 cr=> [(7,I.eq (aV cr.1 s1.2.1.length cr.2)),(81,I.of (s1.1))]) (fun s1 cr=> [(0,⟨cr.1,.row 65 (s1.2.1:List bN) cr.2⟩),(1,⟨some cv,.var (s1.2.2:bw)⟩)]) (fun pb=>Exit.exit 0) (fun pb cr=> [(7,I.eq (aV cr.1 pb.2.2.1.length cr.2)),(81,I.of (pb.1)),(82,I.of (pb.2.1))]) (fun pb cr=> [(0,⟨cr.1,.row 65 (pb.2.2.1:List bN) cr.2⟩),(1,⟨some cv,.var (pb.2.2.2:bw)⟩)]) (pX,4) (fun s1 r h cr=> ?_) fun cr=> ?_
    ·clear aq
     refine aD ?_
     refine bj dZ ?_
     refine bM ?_
     refine ck h (fun h=>?_) fun h=>?_
     ·refine cO ?_
      refine ai.seq ?_
      refine ai.block ?_
      refine aD ?_
      refine aB ?_
      refine aQ ?_
      refine aN ?_
      obtain⟨a4,cw,h⟩:=aw h
      obtain⟨fk,mT,h⟩:=aw h
      obtain⟨bZ,c7,h⟩:=aw h
      obtain⟨dj,fB,h⟩:=aw h
      obtain⟨kL,sQ,h⟩:=aw h
      refine k5 [0,2,3,4,5,6,7,8,9,28,44,61,80,81,82,83] ?_
      refine ai.jS mixed (bq 84 [] [] _ :: bq 85 [] [] _ :: bq 86 [] [] _ :: bq 87 [] [] _ :: bq 88 (2 :: 3 :: []) [] _ :: bq 89 (4 :: []) [] _ :: bq 90 [] [] _ :: ⟨some 91,(6 :: []),(1 :: []),(1 :: []),fun _=>I.of (fk.1),fun hd _=>⟨some cv,.var (fk.2:bw)⟩⟩ :: bq 92 (5 :: 7 :: []) [] _ :: bq 93 (8 :: []) [] _ :: bq 94 (0 :: 1 :: []) (0 :: []) _ :: bq 95 (10 :: []) [] _ :: ⟨none,(9 :: 10 :: 11 :: []),(0 :: []),(0 :: []),fun _=>I.any,fun hd _=>⟨cr.1,.row 65 (kL:List bN) cr.2⟩⟩ :: []) _ (0 :: 2 :: 3 :: 4 :: 5 :: 6 :: 7 :: 8 :: 9 :: 28 :: 44 :: 61 :: 80 :: 81 :: 82 :: 83 :: []) rfl rfl (by kernel_rfl) ⟨gW,gW,gW,gW,cS fun hd E' ay aK au=>oK (k:=a4) Tryz.underlying201 EI (ae (aK _ _ rfl)) (ae (aK _ _ rfl)) (cu cw),fD (cL EI),gW,?_,cS fun hd E' ay aK au=>oK (k:=bZ) Tryz.underlying200 oa (ae (aK _ _ rfl)) (ae (aK _ _ rfl)) (cu c7),fD (cL oa),cS fun hd E' ay aK au=>rb (i:=0) (k:=dj) (xs:=(s1.2.1:List bN)) Tryz.underlying28 fQ (ae (aK _ _ rfl)) (ae (aK _ _ rfl)) (au 0 _ rfl rfl) (cu fB),fD (a0 RB),?_,trivial⟩ fun gp=> ?_
      ·intro hd E' ay aK au
       refine ah.b6 1 (au 1 _ rfl rfl) ?_
       refine ah.lu (Lin:= [⟨some cv,.var (s1.2.2:bw)⟩]) (Lr:=ay.eraseIdx 1) gd (fX mT) ⟨ae (aK _ _ rfl),bz 3,trivial⟩ rfl fun FM=> ?_
       refine ah.nil ?_
       refine ag.back 1 (au 1 _ rfl rfl) ?_
       exact ag.fin (ft []) rfl rfl
      ·intro hd E' ay aK au
       refine ah.uM (i:=0) (k:=dj) ((aL.id bN).comp Nh) (v:=(aA (aA [gV,ku,jY,jC] a4) bZ:ByteArray)) (r:=(kL:List bN)) oa (ae (aK _ _ rfl)) (ae (aK _ _ rfl)) (au 0 _ rfl rfl) (cu fB).1 rfl (aI sQ) ?_
       refine ah.nil ?_
       exact ag.fin (ft []) rfl rfl
      refine ag.fg (L2:= [⟨cr.1,.row 65 (kL:List bN) cr.2⟩,⟨some cv,.var (fk.2:bw)⟩,⟨none,.row 86 (([]:List cn):List cn) 0⟩,⟨some cR,.var (({ fj.1 with b1:=fj.2 } :bN):bN)⟩,⟨none,.dead⟩,⟨none,.row 86 (([]:List cn):List cn) 0⟩,⟨some bU,.var (({ cD.1 with b1:=cD.2 } :bN):bN)⟩,⟨none,.dead⟩,⟨none,.row 86 (([]:List cn):List cn) 0⟩,⟨some a7,.var (({ bO.1 with b1:=bO.2 } :bN):bN)⟩,⟨none,.dead⟩,⟨some aT,.var (c8:bN)⟩]) rfl ?_
      refine ag.ke (m:=kL.length) 7 rfl (ll (aI sQ)) ?_
      refine ag.ke (m:=kL.length) 84 rfl (ll (aI sQ)) ?_
      refine lD [0,2,3,4,5,6,7,8,9,28,44,61,80,81,82,83,84,85,86,87,88,89,90,91,92,93,94,95] ?_
      refine ag.ea ?_
      refine ag.next ?_
      refine ai.cl ?_
      refine bj dg ?_
      refine aB ?_
      refine ah.nil ?_
      obtain rfl:=aI h
      exact fo (cr.1,cr.2) 0
     ·refine ai.exit ?_
      refine ag.exit ?_
      obtain rfl:=aI h
      exact eh (cr.1,cr.2) 0
    ·clear aq
     refine ag.fe ?_
     refine ag.next ?_
     refine aD ?_
     refine aB ?_
     refine aQ ?_
     refine aN ?_
     refine ai.ret ?_
     refine ag.kV (α:=bN) 0 [2,7,97] ⟨rfl,rfl,rfl,trivial⟩ rfl ?_
     refine ag.b6 1 rfl ?_
     obtain rfl:=aI h
     exact kj ()
   ·have h:=ht ar hh
    refine ai.cl ?_
    refine aW (a0 kc) ?_
    refine bp (ie (i:=2) (q:=0) (β:=bN) (γ:=cn) jT (ae rfl) rfl rfl) ?_
    obtain⟨jD,yr,h⟩:=aw h
    refine cZ yr (cC (b:= { b7:=ByteArray.mk #[103],ga:=9,cI:=1:cn }) rfl pZ iB (.cons pj rfl (de (ByteArray.mk #[103])) rfl (.cons m8 rfl (bz 9) rfl (.cons ka rfl (bz 1) rfl (.nil))))) ?_
    obtain⟨jZ,yt,h⟩:=aw h
    refine cZ yt (cC (b:= { b7:=ByteArray.mk #[100],ga:=7,cI:=2:cn }) rfl pZ iB (.cons pj rfl (de (ByteArray.mk #[100])) rfl (.cons m8 rfl (bz 7) rfl (.cons ka rfl (bz 2) rfl (.nil))))) ?_
    refine fM [jD,jZ] Tryz.underlying62 hS iB ?_
    obtain⟨hz,p0,h⟩:=aw h
    refine je 3 Tryz.underlying62 hS iB p0 fun oW eU=> ?_
    refine aW (a0 kc) ?_
    refine ah.iz (i:=2) (γ:=cn) (b':=(({ ({ (default:bN) with bF:=4,b7:=ByteArray.mk #[115,112,97,110,115],cX:=([1,3,5]:List Int),gu:=3,r7:= [({ (default:ao) with bY:=7#64 } :ao)],kE:=bD (3 + dm.1) } :bN) with b1:= [] } :bN):bN)) (os':= [(2,aV oW hz.length eU)]) ((aL.id bN).comp iM) jT (ae rfl) (ae rfl) hO rfl rfl rfl rfl ?_
    refine ah.nil ?_
    obtain rfl:=aI h
    exact dI 0 (hm (oW,eU))
   ·have h:=hv ar hh
    refine ai.skip ?_
    obtain rfl:=aI h
    exact dI 0 (hm (ma,1))
  ·have h:=ht ar dS
   refine ai.cl ?_
   refine aW (a0 kc) ?_
   refine bp (ie (i:=2) (q:=0) (β:=bN) (γ:=cn) jT (ae rfl) rfl rfl) ?_
   obtain⟨mS,yu,h⟩:=aw h
   refine cZ yu (cC (b:= { b7:=ByteArray.mk #[98],ga:=5,cI:=1:cn }) rfl pZ iB (.cons pj rfl (de (ByteArray.mk #[98])) rfl (.cons m8 rfl (bz 5) rfl (.cons ka rfl (bz 1) rfl (.nil))))) ?_
   refine fM [mS] Tryz.underlying62 hS iB ?_
   obtain⟨iR,sR,h⟩:=aw h
   refine je 3 Tryz.underlying62 hS iB sR fun yp nx=> ?_
   refine aW (a0 kc) ?_
   refine ah.iz (i:=2) (γ:=cn) (b':=(({ ({ (default:bN) with bF:=3,b7:=ByteArray.mk #[97,99,108],cX:=([1,2,3,5,6]:List Int),gu:=1,kE:=bD (4 + cb.1) } :bN) with b1:= [] } :bN):bN)) (os':= [(2,aV yp iR.length nx)]) ((aL.id bN).comp iM) jT (ae rfl) (ae rfl) hO rfl rfl rfl rfl ?_
   refine ah.nil ?_
   obtain rfl:=aI h
   exact dI 0 (hm (yp,nx))
  ·have h:=hv ar dS
   refine ai.skip ?_
   obtain rfl:=aI h
   exact dI 0 (hm (jx,2))
 ·have h:=ht ar cM
  refine ai.cl ?_
  refine aW (a0 kc) ?_
  refine bp (ie (i:=2) (q:=0) (β:=bN) (γ:=cn) jT (ae rfl) rfl rfl) ?_
  obtain⟨nD,yv,h⟩:=aw h
  refine cZ yv (cC (b:= { b7:=ByteArray.mk #[109],ga:=3,cI:=1:cn }) rfl pZ iB (.cons pj rfl (de (ByteArray.mk #[109])) rfl (.cons m8 rfl (bz 3) rfl (.cons ka rfl (bz 1) rfl (.nil))))) ?_
  refine fM [nD] Tryz.underlying62 hS iB ?_
  obtain⟨h7,sS,h⟩:=aw h
  refine je 3 Tryz.underlying62 hS iB sS fun LC oV=> ?_
  refine aW (a0 kc) ?_
  refine ah.iz (i:=2) (γ:=cn) (b':=(({ ({ (default:bN) with bF:=2,b7:=ByteArray.mk #[114,111,117,116,101,115],cX:=([1,2,3,4]:List Int),gu:=2,kE:=bD (3 + bc.1) } :bN) with b1:= [] } :bN):bN)) (os':= [(2,aV LC h7.length oV)]) ((aL.id bN).comp iM) jT (ae rfl) (ae rfl) hO rfl rfl rfl rfl ?_
  refine ah.nil ?_
  obtain rfl:=aI h
  exact dI 0 (hm (LC,oV))
 ·have h:=hv ar cM
  refine ai.skip ?_
  obtain rfl:=aI h
  exact dI 0 (hm (gH,1))
end Go.Proofs.YtmnggbjcnoffeaaGreat
namespace Go.Proofs.YtmnggbjcnoffeaaGreat
open Go Gv
set_option linter.unusedVariables false
set_option linter.unusedSimpArgs false
set_option maxRecDepth 100000
set_option maxHeartbeats 2000000
theorem NP {aa:bw} {aj:List bN} {cv:Nat} {r:(List cm) × bw} (h:wv aa aj=some r):cz Tryz.prog 71 [I.eq (.pointer (some ⟨cv,0,none⟩)),I.of (aj)] [⟨some cv,.var (aa:bw)⟩] (δ:=Unit) (fun d=>I.of (r.1)) (fun d=> [⟨some cv,.var (r.2:bw)⟩]):=by
 unfold wv at h
 refine cz.of Tryz.func71 rfl Tryz.ntmps71 rfl fun W A=> ?_
 refine aD ?_
 refine bp (eG (look_nil (α:=cm))) ?_
 refine bS ?_
 refine fM ([1,2,3,4,5,6]:List Int) Tryz.underlying63 bG hy ?_
 refine bp (oD (b:=({ (default:cm) with bF:=1,b7:=ByteArray.mk #[97,108,108],cX:=([1,2,3,4,5,6]:List Int),py:=40,xp:=true } :cm)) [2] uC rfl EJ q8 (.cons Az rfl (bz 1) rfl (by rfl) (.cons CY rfl (de (ByteArray.mk #[97,108,108])) rfl (by rfl) (.cons CK rfl (ae rfl) rfl (by rfl) (.cons CR rfl (bz 40) rfl (by rfl) (.cons NQ rfl (fr true) rfl (by rfl) (.nil))))))) ?_
 refine ah.own (α:=c4) 207 ?_
 refine ah.nU (z:=(default:cm)) [2] uC q8 rfl fun aT=> ?_
 refine ah.own (α:=c4) 207 ?_
 refine ah.pE (i:=1) oM (ae rfl) (ae rfl) rfl ?_
 refine bS ?_
 refine aB ?_
 refine ah.b6 3 rfl ?_
 obtain⟨ak,bB,h⟩:=aw h
 refine eD 1 gd (fX bB) fun aE=> ?_
 refine bj dg ?_
 refine fM ([1,2,bD (3 + ak.1)]:List Int) Tryz.underlying63 bG hy ?_
 refine aB ?_
 refine ah.b6 0 rfl ?_
 obtain⟨aP,cg,h⟩:=aw h
 refine eD 1 gd (fX cg) fun da=> ?_
 refine bj dg ?_
 refine bp (oD (b:=({ (default:cm) with bF:=2,b7:=ByteArray.mk #[115,111,109,101],cX:=([1,2,bD (3 + ak.1)]:List Int),py:=bD (1 + aP.1) } :cm)) [2] uC rfl EJ q8 (.cons Az rfl (bz 2) rfl (by rfl) (.cons CY rfl (de (ByteArray.mk #[115,111,109,101])) rfl (by rfl) (.cons CK rfl (ae rfl) rfl (by rfl) (.cons CR rfl (ae rfl) rfl (by rfl) (.nil)))))) ?_
 refine ah.own (α:=c4) 207 ?_
 refine ah.nU (z:=(default:cm)) [2] uC q8 rfl fun a7=> ?_
 refine ah.own (α:=c4) 207 ?_
 refine ah.pE (i:=1) oM (ae rfl) (ae rfl) rfl ?_
 refine bS ?_
 refine aB ?_
 refine ah.b6 3 rfl ?_
 obtain⟨bc,ek,h⟩:=aw h
 refine eD 1 gd (fX ek) fun fi=> ?_
 refine bj dg ?_
 refine fM [bD (1 + bc.1)] Tryz.underlying63 bG hy ?_
 refine aB ?_
 refine ah.b6 0 rfl ?_
 obtain⟨bf,fh,h⟩:=aw h
 refine eD 1 gd (fX fh) fun iq=> ?_
 refine bp (oD (b:=({ (default:cm) with bF:=7,b7:=ByteArray.mk #[102,101,119],cX:= [bD (1 + bc.1)],py:=bf.1 } :cm)) [2] uC rfl EJ q8 (.cons Az rfl (bz 7) rfl (by rfl) (.cons CY rfl (de (ByteArray.mk #[102,101,119])) rfl (by rfl) (.cons CK rfl (ae rfl) rfl (by rfl) (.cons CR rfl (ae rfl) rfl (by rfl) (.nil)))))) ?_
 refine ah.own (α:=c4) 207 ?_
 refine ah.nU (z:=(default:cm)) [2] uC q8 rfl fun bU=> ?_
 refine ah.own (α:=c4) 207 ?_
 refine ah.pE (i:=1) oM (ae rfl) (ae rfl) rfl ?_
 refine bM ?_
 refine aD ?_
 refine aB ?_
 refine aW (eJ Tryz.underlying28) ?_
 refine aB ?_
 refine aN ?_
 refine ai.block ?_
 obtain⟨az,aq,h⟩:=aw h
 refine gB (γ:=(Option Nat × Nat) × (Option Nat × Nat) × (Option Nat × Nat)) (δ:=(Option Nat × Nat) × (Option Nat × Nat) × (Option Nat × Nat)) aq [0,1,4,5,6,7,30,31] (fun s1 ax=> [(32,I.of (s1.1))]) (fun s1 ax=> [(1,⟨some bU,.cj (s1.2.1:cm) [(2,aV ax.1.1 s1.2.2.1.length ax.1.2)]⟩),(2,⟨ax.1.1,.row 207 (s1.2.2.1:List c4) ax.1.2⟩),(3,⟨some cv,.var (s1.2.2.2.1:bw)⟩),(5,⟨some a7,.cj (s1.2.2.2.2.1:cm) [(2,aV ax.2.1.1 s1.2.2.2.2.2.1.length ax.2.1.2)]⟩),(6,⟨ax.2.1.1,.row 207 (s1.2.2.2.2.2.1:List c4) ax.2.1.2⟩),(8,⟨some aT,.cj (s1.2.2.2.2.2.2.1:cm) [(2,aV ax.2.2.1 s1.2.2.2.2.2.2.2.length ax.2.2.2)]⟩),(9,⟨ax.2.2.1,.row 207 (s1.2.2.2.2.2.2.2:List c4) ax.2.2.2⟩)]) (fun dM=>Exit.exit 0) (fun dM ax=> [(32,I.of (dM.1)),(33,I.of (dM.2.1))]) (fun dM ax=> [(1,⟨some bU,.cj (dM.2.2.1:cm) [(2,aV ax.1.1 dM.2.2.2.1.length ax.1.2)]⟩),(2,⟨ax.1.1,.row 207 (dM.2.2.2.1:List c4) ax.1.2⟩),(3,⟨some cv,.var (dM.2.2.2.2.1:bw)⟩),(5,⟨some a7,.cj (dM.2.2.2.2.2.1:cm) [(2,aV ax.2.1.1 dM.2.2.2.2.2.2.1.length ax.2.1.2)]⟩),(6,⟨ax.2.1.1,.row 207 (dM.2.2.2.2.2.2.1:List c4) ax.2.1.2⟩),(8,⟨some aT,.cj (dM.2.2.2.2.2.2.2.1:cm) [(2,aV ax.2.2.1 dM.2.2.2.2.2.2.2.2.length ax.2.2.2)]⟩),(9,⟨ax.2.2.1,.row 207 (dM.2.2.2.2.2.2.2.2:List c4) ax.2.2.2⟩)]) ((none,0),(none,0),(none,0)) (fun s1 r h ax=> ?_) fun ax=> ?_
 ·clear aq
  refine aD ?_
  refine bj dZ ?_
  refine bM ?_
  refine ck h (fun h=>?_) fun h=>?_
  ·refine cO ?_
   refine ai.seq ?_
   refine ai.block ?_
   refine aD ?_
   obtain⟨a4,cw,h⟩:=aw h
   refine fL cw Tryz.underlying28 fQ ?_
   refine aW (cL fQ) ?_
   refine cG k2 fun cR=> ?_
   refine ca 0 fQ ?_
   refine bS ?_
   refine aW (a0 kc) ?_
   refine b3 0 iM jT ?_
   refine aW (eJ Tryz.underlying62) ?_
   obtain⟨cb,gL,h⟩:=aw h
   refine ah.B5 Tryz.underlying205 k8 L1 rfl (by kernel_rfl) (ae rfl) (ae rfl) gL rfl fun gH=> ?_
   refine aQ ?_
   refine bS ?_
   refine aW (a0 kc) ?_
   refine b3 1 iM jT ?_
   refine aW (eJ Tryz.underlying62) ?_
   obtain⟨cN,g4,h⟩:=aw h
   refine ah.B5 Tryz.underlying205 k8 L1 rfl (by kernel_rfl) (ae rfl) (ae rfl) g4 rfl fun jx=> ?_
   refine aQ ?_
   refine bM ?_
   refine aD ?_
   refine aB ?_
   refine bp (su (i:=1) Tryz.underlying205 (ae rfl) rfl rfl) ?_
   refine aB ?_
   refine aN ?_
   refine ai.block ?_
   obtain⟨aX,aq,h⟩:=aw h
   refine gB (γ:=(Option Nat × Nat) × (Option Nat × Nat)) (δ:=(Option Nat × Nat) × (Option Nat × Nat)) aq [0,1,4,5,6,7,9,30,31,32,33,45] (fun s2 a1=> [(10,I.eq (aV a1.2.1 s2.2.2.1.length a1.2.2)),(11,I.eq (aV a1.1.1 s2.2.1.length a1.1.2)),(46,I.of (s2.1))]) (fun s2 a1=> [(0,⟨a1.1.1,.row 4 (s2.2.1:List Bool) a1.1.2⟩),(1,⟨a1.2.1,.row 4 (s2.2.2.1:List Bool) a1.2.2⟩),(6,⟨some cv,.var (s2.2.2.2:bw)⟩)]) (fun g8=>Exit.exit 2) (fun g8 a1=> [(10,I.eq (aV a1.2.1 g8.2.2.2.1.length a1.2.2)),(11,I.eq (aV a1.1.1 g8.2.2.1.length a1.1.2)),(46,I.of (g8.1)),(47,I.of (g8.2.1))]) (fun g8 a1=> [(0,⟨a1.1.1,.row 4 (g8.2.2.1:List Bool) a1.1.2⟩),(1,⟨a1.2.1,.row 4 (g8.2.2.2.1:List Bool) a1.2.2⟩),(6,⟨some cv,.var (g8.2.2.2.2:bw)⟩)]) ((jx,cN.length),(gH,cb.length)) (fun s2 r h a1=> ?_) fun a1=> ?_
   ·clear aq
    refine aD ?_
    refine bj dZ ?_
    refine bM ?_
    refine ck h (fun h=>?_) fun h=>?_
    ·refine cO ?_
     refine ai.seq ?_
     refine ai.block ?_
     refine aD ?_
     refine aB ?_
     refine aQ ?_
     refine aN ?_
     refine ai.cl ?_
     refine aB ?_
     refine aB ?_
     refine aB ?_
     refine aB ?_
     refine aB ?_
     refine ah.b6 6 rfl ?_
     obtain⟨dm,kK,h⟩:=aw h
     refine eD 1 gd (fX kK) fun Cy=> ?_
     refine bj mJ ?_
     obtain⟨bZ,c7,h⟩:=aw h
     refine bp (rb (i:=2) (k:=bZ) (xs:=(s2.2.2.1:List Bool)) Tryz.underlying205 k8 (ae rfl) (ae rfl) rfl (cu c7)) ?_
     refine ah.uM (i:=2) (k:=bZ) (aL.id Bool) (v:=(true:Bool)) (r:=(gI s2.2.2.1 bZ true:List Bool)) k8 (ae rfl) (fr true) rfl (cu c7).1 rfl rfl ?_
     refine ah.ke (m:=(gI s2.2.2.1 bZ true).length) 10 rfl (ll rfl) ?_
     refine ah.ke (m:=(gI s2.2.2.1 bZ true).length) 49 rfl (ll rfl) ?_
     obtain⟨dj,fB,h⟩:=aw h
     refine bp (rb (i:=1) (k:=dj) (xs:=(s2.2.1:List Bool)) Tryz.underlying205 k8 (ae rfl) (ae rfl) rfl (cu fB)) ?_
     refine ah.uM (i:=1) (k:=dj) (aL.id Bool) (v:=(decide (dm.1 > 0):Bool)) (r:=(gI s2.2.1 dj (decide (dm.1 > 0)):List Bool)) k8 (ae rfl) (ae rfl) rfl (cu fB).1 rfl rfl ?_
     refine ah.ke (m:=(gI s2.2.1 dj (decide (dm.1 > 0))).length) 11 rfl (ll rfl) ?_
     refine ah.ke (m:=(gI s2.2.1 dj (decide (dm.1 > 0))).length) 51 rfl (ll rfl) ?_
     refine ah.nil ?_
     refine ag.ea ?_
     refine ag.next ?_
     refine ai.cl ?_
     refine bj dg ?_
     refine aB ?_
     refine ah.nil ?_
     refine ag.b6 6 rfl ?_
     refine ag.b6 6 rfl ?_
     refine ag.b6 6 rfl ?_
     refine ag.b6 6 rfl ?_
     refine ag.b6 6 rfl ?_
     refine ag.b6 6 rfl ?_
     obtain rfl:=aI h
     exact fo ((a1.1.1,a1.1.2),(a1.2.1,a1.2.2)) 0
    ·refine ai.exit ?_
     refine ag.exit ?_
     obtain rfl:=aI h
     exact eh ((a1.1.1,a1.1.2),(a1.2.1,a1.2.2)) 0
   ·clear aq
    refine ag.fe ?_
    refine ag.next ?_
    refine aD ?_
    refine aW (a0 uD) ?_
    refine bp (ie (i:=11) (q:=0) (β:=cm) (γ:=c4) sE (ae rfl) rfl rfl) ?_
    refine aW (a0 sr) ?_
    refine b3 2 nO bG ?_
    refine aB ?_
    refine ah.kV (α:=Bool) 1 [63,10] ⟨rfl,rfl,trivial⟩ rfl ?_
    obtain⟨bk,dc,h⟩:=aw h
    refine cZ dc (cC (b:= { dq:=(aA aj a4).bF,pF:=true,pz:=true,b1:=aX.2.2.2.1:c4 }) rfl EK pR (.cons CM rfl (ae rfl) rfl (.cons CS rfl (fr true) rfl (.cons CN rfl (fr true) rfl (.cons CT rfl (ae rfl) rfl (.nil)))))) ?_
    refine fM [bk] Tryz.underlying202 u0 pR ?_
    obtain⟨et,kk,h⟩:=aw h
    refine je 12 Tryz.underlying202 u0 pR kk fun ma eU=> ?_
    refine aW (a0 uD) ?_
    refine ah.iz (i:=11) (γ:=c4) (b':=(({ s1.2.2.2.2.2.2.1 with ic:= [] } :cm):cm)) (os':= [(2,aV ma et.length eU)]) ((aL.id cm).comp tN) sE (ae rfl) (ae rfl) hO rfl rfl rfl rfl ?_
    refine bM ?_
    refine aD ?_
    refine aB ?_
    refine ah.b6 6 rfl ?_
    obtain⟨fk,mT,h⟩:=aw h
    refine eD 1 gd (fX mT) fun GW=> ?_
    refine bj mJ ?_
    refine aN ?_
    refine ai.freeze (α:=Bool) 1 11 rfl rfl ?_
    obtain⟨bO,cM,h⟩:=aw h
    refine jd (γ:=(Option Nat × Nat)) [0,1,4,5,6,7,9,10,11,30,31,32,33,45,46,47,70] (fun br=> []) (fun br=> [(0,⟨some cv,.var (bO.1:bw)⟩),(8,⟨some a7,.cj (bO.2.1:cm) [(2,aV br.1 bO.2.2.length br.2)]⟩),(9,⟨br.1,.row 207 (bO.2.2:List c4) br.2⟩)]) (fun br=> ?_) (fun hm ar=> ?_) fun hm ar=> ?_
    ·clear cM
     refine ag.next ?_
     refine aD ?_
     refine aB ?_
     refine ah.b6 0 rfl ?_
     obtain⟨hz,p0,h⟩:=aw h
     refine eD 1 mb (lT p0) fun pb=> ?_
     refine aN ?_
     obtain⟨cD,dS,h⟩:=aw h
     refine jd (γ:=(Option Nat × Nat)) [0,1,4,5,6,7,9,10,11,30,31,32,33,45,46,47,70,86] (fun cr=> []) (fun cr=> [(0,⟨some cv,.var (cD.1:bw)⟩),(5,⟨some bU,.cj (cD.2.1:cm) [(2,aV cr.1 cD.2.2.length cr.2)]⟩),(6,⟨cr.1,.row 207 (cD.2.2:List c4) cr.2⟩)]) (fun cr=> ?_) (fun hm ar=> ?_) fun hm ar=> ?_
     ·clear dS
      refine ag.ea ?_
      refine ag.next ?_
      refine ai.cl ?_
      refine bj dg ?_
      refine aB ?_
      refine ah.nil ?_
      refine ag.b6 6 rfl ?_
      refine ag.b6 6 rfl ?_
      refine ag.b6 6 rfl ?_
      refine ag.b6 6 rfl ?_
      refine ag.b6 6 rfl ?_
      refine ag.b6 6 rfl ?_
      obtain rfl:=aI h
      exact fo ((cr.1,cr.2),(br.1,br.2),(ma,eU)) 3
     ·have h:=ht ar dS
      obtain⟨iR,sR,h⟩:=aw h
      obtain⟨h7,sS,h⟩:=aw h
      obtain⟨c8,ho,h⟩:=aw h
      obtain⟨jg,yx,h⟩:=aw h
      refine k5 [0,1,4,5,6,7,9,10,11,30,31,32,33,45,46,47,70,85,86] ?_
      refine ai.jS mixed (bq 87 [] [] _ :: bq 88 (0 :: []) (5 :: []) _ :: bq 89 [] [] _ :: bq 90 (2 :: []) (3 :: []) _ :: bq 91 [] [] _ :: ⟨some 92,(4 :: []),(0 :: []),(0 :: []),fun _=>I.of (iR.1),fun hd _=>⟨some cv,.var (iR.2:bw)⟩⟩ :: bq 93 [] [] _ :: ⟨some 94,(5 :: 6 :: []),(0 :: []),(0 :: []),fun _=>I.of (h7.1),fun hd _=>⟨some cv,.var (h7.2:bw)⟩⟩ :: bq 95 [] [] _ :: bq 96 (3 :: 5 :: 7 :: 8 :: []) [] _ :: bq 97 (9 :: []) [] _ :: ⟨some 98,(1 :: 10 :: []),(6 :: []),(6 :: []),fun hd=>I.eq (aV (hd 11 0) jg.length ((hd 11 1).getD 0)),fun hd _=>⟨(hd 11 0),.row 207 (jg:List c4) ((hd 11 1).getD 0)⟩⟩ :: bq 99 [] [] _ :: ⟨none,(1 :: 11 :: 12 :: []),(5 :: []),(5 :: []),fun _=>I.any,fun hd _=>⟨some bU,.cj (({ s1.2.1 with ic:= [] } :cm):cm) [(2,aV (hd 11 0) jg.length ((hd 11 1).getD 0))]⟩⟩ :: []) _ (0 :: 1 :: 4 :: 5 :: 6 :: 7 :: 9 :: 10 :: 11 :: 30 :: 31 :: 32 :: 33 :: 45 :: 46 :: 47 :: 70 :: 85 :: 86 :: []) rfl rfl (by kernel_rfl) ⟨fD (a0 uD),cS fun hd E' ay aK au=>ie (i:=5) (q:=0) (β:=cm) (γ:=c4) sE (ae (aK _ _ rfl)) (au 5 _ rfl rfl) rfl,fD (a0 sr),oZ 3 nO bG,gW,?_,gW,?_,gW,cS fun hd E' ay aK au=>(cC (b:= { dq:=(aA aj a4).bF,pF:=iR.1,pz:=h7.1,b1:=aX.2.2.2.1:c4 }) rfl EK pR (.cons CM rfl (ae (aK _ _ rfl)) rfl (.cons CS rfl (ae (aK _ _ rfl)) rfl (.cons CN rfl (ae (aK _ _ rfl)) rfl (.cons CT rfl (ae (aK _ _ rfl)) rfl (.nil)))))).as (aI ho),cS fun hd E' ay aK au=>iZ (r:= [c8]) Tryz.underlying202 u0 pR rfl rfl (.cons (by simp) (ae (aK _ _ rfl)) (.nil)),?_,fD (a0 uD),?_,trivial⟩ fun gp=> ?_
      ·intro hd E' ay aK au
       refine ah.b6 0 (au 0 _ rfl rfl) ?_
       refine ah.lu (Lin:= [⟨some cv,.var (hz.2:bw)⟩]) (Lr:=ay.eraseIdx 0) mb (lT sR) ⟨ae (aK _ _ rfl),trivial⟩ rfl fun FM=> ?_
       refine ah.nil ?_
       refine ag.back 0 (au 0 _ rfl rfl) ?_
       exact ag.fin (ft []) rfl rfl
      ·intro hd E' ay aK au
       refine ah.b6 0 (au 0 _ rfl rfl) ?_
       refine ah.lu (Lin:= [⟨some cv,.var (iR.2:bw)⟩]) (Lr:=ay.eraseIdx 0) mb (lT sS) ⟨ae (aK _ _ rfl),trivial⟩ rfl fun Xa=> ?_
       refine ah.nil ?_
       refine ag.back 0 (au 0 _ rfl rfl) ?_
       exact ag.fin (ft []) rfl rfl
      ·intro hd E' ay aK au
       refine ah.app (i:=6) Tryz.underlying202 u0 pR (bytes:=40) (by kernel_rfl) (ae (aK _ _ rfl)) (au 6 _ rfl rfl) (ae (aK _ _ rfl)) yx rfl fun pX nx=> ?_
       refine ah.nil ?_
       exact ag.fin (ft [pX,some nx]) rfl rfl
      ·intro hd E' ay aK au
       refine ah.iz (i:=5) (γ:=c4) (b':=(({ s1.2.1 with ic:= [] } :cm):cm)) (os':= [(2,aV (hd 11 0) jg.length ((hd 11 1).getD 0))]) ((aL.id cm).comp tN) sE (ae (aK _ _ rfl)) (ae (aK _ _ rfl)) hO (au 5 _ rfl rfl) rfl rfl rfl ?_
       refine ah.nil ?_
       exact ag.fin (ft []) rfl rfl
      refine ag.fg (L2:= [⟨some cv,.var (h7.2:bw)⟩,⟨none,.dead⟩,⟨none,.dead⟩,⟨some cR,.var (aA aj a4:bN)⟩,⟨none,.row 207 (([]:List c4):List c4) 0⟩,⟨some bU,.cj (({ s1.2.1 with ic:= [] } :cm):cm) [(2,aV (gp 11 0) jg.length ((gp 11 1).getD 0))]⟩,⟨(gp 11 0),.row 207 (jg:List c4) ((gp 11 1).getD 0)⟩,⟨none,.row 207 (([]:List c4):List c4) 0⟩,⟨some a7,.cj (bO.2.1:cm) [(2,aV br.1 bO.2.2.length br.2)]⟩,⟨br.1,.row 207 (bO.2.2:List c4) br.2⟩,⟨none,.row 207 (([]:List c4):List c4) 0⟩,⟨some aT,.cj (({ s1.2.2.2.2.2.2.1 with ic:= [] } :cm):cm) [(2,aV ma et.length eU)]⟩,⟨ma,.row 207 (et:List c4) eU⟩]) rfl ?_
      refine lD [0,1,4,5,6,7,9,10,11,30,31,32,33,45,46,47,70,85,86,87,89,90,91,92,93,94,95,96,97,98,99] ?_
      obtain rfl:=aI h
      exact dI 0 (hm ((gp 11 0),((gp 11 1).getD 0)))
     ·have h:=hv ar dS
      refine ai.skip ?_
      obtain rfl:=aI h
      exact dI 0 (hm (ax.1.1,ax.1.2))
    ·have h:=ht ar cM
     obtain⟨kl,yy,h⟩:=aw h
     obtain⟨ry,Ul,h⟩:=aw h
     obtain⟨e8,jf,h⟩:=aw h
     obtain⟨rz,Um,h⟩:=aw h
     refine k5 [0,1,4,5,6,7,9,10,11,30,31,32,33,45,46,47,59,61,62,63,64,65,66,67,68,69,70] ?_
     refine ai.jS mixed (bq 71 [] [] _ :: bq 72 (0 :: []) (8 :: []) _ :: bq 73 [] [] _ :: bq 74 (2 :: []) (3 :: []) _ :: bq 75 [] [] _ :: ⟨some 76,(4 :: []),(0 :: []),(0 :: []),fun _=>I.of (kl.1),fun hd _=>⟨some cv,.var (kl.2:bw)⟩⟩ :: bq 77 (5 :: []) [] _ :: bq 78 [] [] _ :: ⟨some 79,(5 :: 7 :: []),(0 :: []),(0 :: []),fun _=>I.of (ry.1),fun hd _=>⟨some cv,.var (ry.2:bw)⟩⟩ :: bq 80 [] [] _ :: bq 81 (3 :: 6 :: 8 :: 9 :: []) [] _ :: bq 82 (10 :: []) [] _ :: ⟨some 83,(1 :: 11 :: []),(9 :: []),(9 :: []),fun hd=>I.eq (aV (hd 12 0) rz.length ((hd 12 1).getD 0)),fun hd _=>⟨(hd 12 0),.row 207 (rz:List c4) ((hd 12 1).getD 0)⟩⟩ :: bq 84 [] [] _ :: ⟨none,(1 :: 12 :: 13 :: []),(8 :: []),(8 :: []),fun _=>I.any,fun hd _=>⟨some a7,.cj (({ s1.2.2.2.2.1 with ic:= [] } :cm):cm) [(2,aV (hd 12 0) rz.length ((hd 12 1).getD 0))]⟩⟩ :: []) _ (0 :: 1 :: 4 :: 5 :: 6 :: 7 :: 9 :: 10 :: 11 :: 30 :: 31 :: 32 :: 33 :: 45 :: 46 :: 47 :: 59 :: 61 :: 62 :: 63 :: 64 :: 65 :: 66 :: 67 :: 68 :: 69 :: 70 :: []) rfl rfl (by kernel_rfl) ⟨fD (a0 uD),cS fun hd E' ay aK au=>ie (i:=8) (q:=0) (β:=cm) (γ:=c4) sE (ae (aK _ _ rfl)) (au 8 _ rfl rfl) rfl,fD (a0 sr),oZ 3 nO bG,gW,?_,Cx mJ,gW,?_,gW,cS fun hd E' ay aK au=>(cC (b:= { dq:=(aA aj a4).bF,pF:=decide (kl.1 > 0),pz:=ry.1,b1:=aX.2.2.1:c4 }) rfl EK pR (.cons CM rfl (ae (aK _ _ rfl)) rfl (.cons CS rfl (ae (aK _ _ rfl)) rfl (.cons CN rfl (ae (aK _ _ rfl)) rfl (.cons CT rfl (ae (aK _ _ rfl)) rfl (.nil)))))).as (aI jf),cS fun hd E' ay aK au=>iZ (r:= [e8]) Tryz.underlying202 u0 pR rfl rfl (.cons (by simp) (ae (aK _ _ rfl)) (.nil)),?_,fD (a0 uD),?_,trivial⟩ fun jh=> ?_
     ·intro hd E' ay aK au
      refine ah.b6 0 (au 0 _ rfl rfl) ?_
      refine ah.lu (Lin:= [⟨some cv,.var (fk.2:bw)⟩]) (Lr:=ay.eraseIdx 0) gd (fX yy) ⟨ae (aK _ _ rfl),bz 4,trivial⟩ rfl fun Xb=> ?_
      refine ah.nil ?_
      refine ag.back 0 (au 0 _ rfl rfl) ?_
      exact ag.fin (ft []) rfl rfl
     ·intro hd E' ay aK au
      refine ah.b6 0 (au 0 _ rfl rfl) ?_
      refine ah.lu (Lin:= [⟨some cv,.var (kl.2:bw)⟩]) (Lr:=ay.eraseIdx 0) mb (lT Ul) ⟨ae (aK _ _ rfl),trivial⟩ rfl fun Xc=> ?_
      refine ah.nil ?_
      refine ag.back 0 (au 0 _ rfl rfl) ?_
      exact ag.fin (ft []) rfl rfl
     ·intro hd E' ay aK au
      refine ah.app (i:=9) Tryz.underlying202 u0 pR (bytes:=40) (by kernel_rfl) (ae (aK _ _ rfl)) (au 9 _ rfl rfl) (ae (aK _ _ rfl)) Um rfl fun oW oV=> ?_
      refine ah.nil ?_
      exact ag.fin (ft [oW,some oV]) rfl rfl
     ·intro hd E' ay aK au
      refine ah.iz (i:=8) (γ:=c4) (b':=(({ s1.2.2.2.2.1 with ic:= [] } :cm):cm)) (os':= [(2,aV (hd 12 0) rz.length ((hd 12 1).getD 0))]) ((aL.id cm).comp tN) sE (ae (aK _ _ rfl)) (ae (aK _ _ rfl)) hO (au 8 _ rfl rfl) rfl rfl rfl ?_
      refine ah.nil ?_
      exact ag.fin (ft []) rfl rfl
     refine ag.fg (L2:= [⟨some cv,.var (ry.2:bw)⟩,⟨none,.dead⟩,⟨none,.dead⟩,⟨some cR,.var (aA aj a4:bN)⟩,⟨none,.row 207 (([]:List c4):List c4) 0⟩,⟨some bU,.cj (s1.2.1:cm) [(2,aV ax.1.1 s1.2.2.1.length ax.1.2)]⟩,⟨ax.1.1,.row 207 (s1.2.2.1:List c4) ax.1.2⟩,⟨none,.row 207 (([]:List c4):List c4) 0⟩,⟨some a7,.cj (({ s1.2.2.2.2.1 with ic:= [] } :cm):cm) [(2,aV (jh 12 0) rz.length ((jh 12 1).getD 0))]⟩,⟨(jh 12 0),.row 207 (rz:List c4) ((jh 12 1).getD 0)⟩,⟨none,.row 207 (([]:List c4):List c4) 0⟩,⟨some aT,.cj (({ s1.2.2.2.2.2.2.1 with ic:= [] } :cm):cm) [(2,aV ma et.length eU)]⟩,⟨ma,.row 207 (et:List c4) eU⟩]) rfl ?_
     refine lD [0,1,4,5,6,7,9,10,11,30,31,32,33,45,46,47,59,61,62,63,64,65,66,67,68,69,70,71,73,74,75,76,77,78,79,80,81,82,83,84] ?_
     obtain rfl:=aI h
     exact dI 0 (hm ((jh 12 0),((jh 12 1).getD 0)))
    ·have h:=hv ar cM
     refine ai.skip ?_
     obtain rfl:=aI h
     exact dI 0 (hm (ax.2.1.1,ax.2.1.2))
  ·refine ai.exit ?_
   refine ag.exit ?_
   obtain rfl:=aI h
   exact eh ((ax.1.1,ax.1.2),(ax.2.1.1,ax.2.1.2),(ax.2.2.1,ax.2.2.2)) 0
 ·clear aq
  refine ag.fe ?_
  refine ag.next ?_
  refine aD ?_
  refine ah.ih (β:=cm) (γ:=c4) (b':=(({ az.2.2.2.2.2.2.2.1 with ic:=az.2.2.2.2.2.2.2.2 } :cm):cm)) ((aL.id cm).comp tN) 8 9 0 rfl rfl rfl rfl rfl rfl ?_
  refine ah.mI 8 rfl ?_
  obtain⟨gN,lF,h⟩:=aw h
  refine cZ lF (gx (i:=8) (aL.id cm) (r:=({ az.2.2.2.2.2.2.2.1 with ic:=az.2.2.2.2.2.2.2.2 } :cm)) oM (ae rfl) rfl rfl rfl) ?_
  refine ah.ih (β:=cm) (γ:=c4) (b':=(({ az.2.2.2.2.2.1 with ic:=az.2.2.2.2.2.2.1 } :cm):cm)) ((aL.id cm).comp tN) 5 6 0 rfl rfl rfl rfl rfl rfl ?_
  refine ah.mI 5 rfl ?_
  refine cc 5 oM ?_
  refine ah.ih (β:=cm) (γ:=c4) (b':=(({ az.2.2.1 with ic:=az.2.2.2.1 } :cm):cm)) ((aL.id cm).comp tN) 1 2 0 rfl rfl rfl rfl rfl rfl ?_
  refine ah.mI 1 rfl ?_
  refine cc 1 oM ?_
  obtain⟨gO,mR,h⟩:=aw h
  refine cZ mR (iZ (r:= [gN,({ az.2.2.2.2.2.1 with ic:=az.2.2.2.2.2.2.1 } :cm),({ az.2.2.1 with ic:=az.2.2.2.1 } :cm)]) Tryz.underlying30 oM q8 rfl rfl (.cons (by simp) (ae rfl) (.cons (by simp) (ae rfl) (.cons (by simp) (ae rfl) (.nil))))) ?_
  refine aQ ?_
  refine aN ?_
  refine ai.ret ?_
  refine ag.b6 3 rfl ?_
  obtain rfl:=aI h
  exact kj ()
end Go.Proofs.YtmnggbjcnoffeaaGreat
namespace Go.Proofs.YtmnggbjcnoffeaaGreat
open Go Gv
set_option linter.unusedVariables false
set_option linter.unusedSimpArgs false
set_option maxRecDepth 100000
set_option maxHeartbeats 2000000
theorem Hz {aa:bw} {cv:Nat} {r:a3 × bw} (h:tO aa=some r):cz Tryz.prog 16 [I.eq (.pointer (some ⟨cv,0,none⟩))] [⟨some cv,.var (aa:bw)⟩] (δ:=Unit) (fun d=>I.of (r.1)) (fun d=> [⟨some cv,.var (r.2:bw)⟩]):=by
 unfold tO at h
 refine cz.of Tryz.func16 rfl Tryz.ntmps16 rfl fun W A=> ?_
 refine aD ?_
 refine cG yz fun aT=> ?_
 refine bS ?_
 refine aB ?_
 refine ah.b6 1 rfl ?_
 obtain⟨ak,bB,h⟩:=aw h
 refine eD 1 gd (fX bB) fun aE=> ?_
 refine bj dg ?_
 refine aB ?_
 refine ah.b6 0 rfl ?_
 obtain⟨aP,cg,h⟩:=aw h
 refine eD 1 gd (fX cg) fun da=> ?_
 refine bj dg ?_
 refine bp (oD (b:=({ (default:a3) with w2:=bD (2 + ak.1),xe:=bD (12 + aP.1) } :a3)) [5,7] I4 rfl Un yz (.cons Nm rfl (ae rfl) rfl (by rfl) (.cons Nq rfl (ae rfl) rfl (by rfl) (.nil)))) ?_
 refine ah.own (α:=fa) 127 ?_
 refine ah.own (α:=ez) 129 ?_
 refine ah.nU (z:=(default:a3)) [5,7] I4 yz rfl fun a7=> ?_
 refine ah.own (α:=fa) 127 ?_
 refine ah.own (α:=ez) 129 ?_
 refine ah.pE (i:=2) fy (ae rfl) (ae rfl) rfl ?_
 refine bS ?_
 obtain⟨bk,dc,h⟩:=aw h
 refine cZ dc (cC (b:= { bF:=1,b7:=ByteArray.mk #[105,110,103,114,101,115,115],eO:=16:eS }) rfl pS nm (.cons m9 rfl (bz 1) rfl (.cons ph rfl (de (ByteArray.mk #[105,110,103,114,101,115,115])) rfl (.cons m7 rfl (bz 16) rfl (.nil))))) ?_
 obtain⟨c8,ho,h⟩:=aw h
 refine cZ ho (cC (b:= { bF:=2,b7:=ByteArray.mk #[101,103,114,101,115,115],eO:=16:eS }) rfl pS nm (.cons m9 rfl (bz 2) rfl (.cons ph rfl (de (ByteArray.mk #[101,103,114,101,115,115])) rfl (.cons m7 rfl (bz 16) rfl (.nil))))) ?_
 obtain⟨e8,jf,h⟩:=aw h
 refine cZ jf (cC (b:= { bF:=3,b7:=ByteArray.mk #[109,101,116,97],eO:=8:eS }) rfl pS nm (.cons m9 rfl (bz 3) rfl (.cons ph rfl (de (ByteArray.mk #[109,101,116,97])) rfl (.cons m7 rfl (bz 8) rfl (.nil))))) ?_
 refine g2 pS nm { bF:=4,b7:=ByteArray.mk #[97],eO:=4:eS } (ij m9 (ij ph (ij m7 .nil))) ?_
 refine g2 pS nm { bF:=5,b7:=ByteArray.mk #[98],eO:=4:eS } (ij m9 (ij ph (ij m7 .nil))) ?_
 obtain⟨gN,lF,h⟩:=aw h
 refine cZ lF (cC (b:= { bF:=6,b7:=ByteArray.mk #[101],eO:=8:eS }) rfl pS nm (.cons m9 rfl (bz 6) rfl (.cons ph rfl (de (ByteArray.mk #[101])) rfl (.cons m7 rfl (bz 8) rfl (.nil))))) ?_
 obtain⟨gO,mR,h⟩:=aw h
 refine cZ mR (cC (b:= { bF:=7,b7:=ByteArray.mk #[100],eO:=32:eS }) rfl pS nm (.cons m9 rfl (bz 7) rfl (.cons ph rfl (de (ByteArray.mk #[100])) rfl (.cons m7 rfl (bz 32) rfl (.nil))))) ?_
 obtain⟨jm,p8,h⟩:=aw h
 refine cZ p8 (cC (b:= { bF:=8,b7:=ByteArray.mk #[102],eO:=12:eS }) rfl pS nm (.cons m9 rfl (bz 8) rfl (.cons ph rfl (de (ByteArray.mk #[102])) rfl (.cons m7 rfl (bz 12) rfl (.nil))))) ?_
 obtain⟨iU,p9,h⟩:=aw h
 refine cZ p9 (cC (b:= { bF:=9,b7:=ByteArray.mk #[103],eO:=4:eS }) rfl pS nm (.cons m9 rfl (bz 9) rfl (.cons ph rfl (de (ByteArray.mk #[103])) rfl (.cons m7 rfl (bz 4) rfl (.nil))))) ?_
 obtain⟨gV,qa,h⟩:=aw h
 refine cZ qa (iZ (r:= [bk,c8,e8,{ bF:=4,b7:=ByteArray.mk #[97],eO:=4:eS },{ bF:=5,b7:=ByteArray.mk #[98],eO:=4:eS },gN,gO,jm,iU]) Tryz.underlying24 n0 nm rfl rfl (.cons (by simp) (ae rfl) (.cons (by simp) (ae rfl) (.cons (by simp) (ae rfl) (.cons (by simp) (ae rfl) (.cons (by simp) (ae rfl) (.cons (by simp) (ae rfl) (.cons (by simp) (ae rfl) (.cons (by simp) (ae rfl) (.cons (by simp) (ae rfl) (.nil))))))))))) ?_
 refine aW (a0 uK) ?_
 obtain⟨ku,s6,h⟩:=aw h
 refine ah.q1 (i:=2) ((aL.id a3).comp tJ) (v:=(gV:List eS)) (b':=(ku:a3)) sM (ae rfl) (ae rfl) rfl rfl (aI s6) (by rfl) ?_
 refine bS ?_
 refine fM ([4,5,6]:List Int) Tryz.underlying63 bG hy ?_
 obtain⟨jY,sO,h⟩:=aw h
 refine cZ sO (cC (b:= { bF:=1,b7:=ByteArray.mk #[111,110,101],e2:=([4,5,6]:List Int):iv }) rfl EL xT (.cons Ar rfl (bz 1) rfl (.cons CO rfl (de (ByteArray.mk #[111,110,101])) rfl (.cons CH rfl (ae rfl) rfl (.nil))))) ?_
 refine fM ([7]:List Int) Tryz.underlying63 bG hy ?_
 obtain⟨jC,sP,h⟩:=aw h
 refine cZ sP (cC (b:= { bF:=2,b7:=ByteArray.mk #[116,119,111],e2:=([7]:List Int):iv }) rfl EL xT (.cons Ar rfl (bz 2) rfl (.cons CO rfl (de (ByteArray.mk #[116,119,111])) rfl (.cons CH rfl (ae rfl) rfl (.nil))))) ?_
 refine fM ([8,9]:List Int) Tryz.underlying63 bG hy ?_
 obtain⟨kL,sQ,h⟩:=aw h
 refine cZ sQ (cC (b:= { bF:=3,b7:=ByteArray.mk #[116,104,114,101,101],e2:=([8,9]:List Int):iv }) rfl EL xT (.cons Ar rfl (bz 3) rfl (.cons CO rfl (de (ByteArray.mk #[116,104,114,101,101])) rfl (.cons CH rfl (ae rfl) rfl (.nil))))) ?_
 refine fM [jY,jC,kL] Tryz.underlying25 Br xT ?_
 refine aW (a0 Ka) ?_
 refine ah.q1 (i:=2) ((aL.id a3).comp Hu) (v:=([jY,jC,kL]:List iv)) (b':=(({ ku with kA:= [jY,jC,kL] } :a3):a3)) Fb (ae rfl) (ae rfl) rfl rfl rfl (by rfl) ?_
 refine bS ?_
 refine aB ?_
 refine ah.b6 5 rfl ?_
 obtain⟨bc,ek,h⟩:=aw h
 refine eD 1 Uo (NG ek) fun fi=> ?_
 refine aB ?_
 refine ah.b6 0 rfl ?_
 obtain⟨bf,fh,h⟩:=aw h
 refine eD 1 Up (Nx fh) fun iq=> ?_
 refine aB ?_
 refine ah.b6 0 rfl ?_
 obtain⟨cb,gL,h⟩:=aw h
 refine eD 1 Uq (NH gL) fun dM=> ?_
 refine aW (a0 Kb) ?_
 obtain⟨jD,yr,h⟩:=aw h
 refine ah.q1 (i:=3) ((aL.id a3).comp Hw) (v:=(bc.1:List db)) (b':=(jD:a3)) Fc (ae rfl) (ae rfl) rfl rfl (aI yr) (by rfl) ?_
 refine aW (a0 Ea) ?_
 refine ah.q1 (i:=3) ((aL.id a3).comp CF) (v:=(bf.1:List dp)) (b':=(({ jD with cX:=bf.1 } :a3):a3)) BI (ae rfl) (ae rfl) rfl rfl rfl (by rfl) ?_
 refine aW (a0 lp) ?_
 obtain⟨jZ,yt,h⟩:=aw h
 refine ah.q1 (i:=3) ((aL.id a3).comp lk) (v:=(cb.1:List bN)) (b':=(jZ:a3)) k1 (ae rfl) (ae rfl) rfl rfl (aI yt) (by rfl) ?_
 refine bS ?_
 refine aB ?_
 refine aW (a0 lp) ?_
 refine L3 3 lk k1 ?_
 refine ah.b6 0 rfl ?_
 obtain⟨cN,g4,h⟩:=aw h
 refine eD 1 Ur (NP g4) fun g8=> ?_
 refine aW (a0 Kc) ?_
 refine ah.q1 (i:=3) ((aL.id a3).comp Hx) (v:=(cN.1:List cm)) (b':=(({ jZ with ix:=cN.1 } :a3):a3)) Fe (ae rfl) (ae rfl) rfl rfl rfl (by rfl) ?_
 refine bS ?_
 refine g2 xX re { dq:=1,hl:=1:fa } (ij wh (ij CL .nil)) ?_
 refine g2 xX re { dq:=2,hl:=2:fa } (ij wh (ij CL .nil)) ?_
 refine g2 xX re ({ (default:fa) with dq:=3 } :fa) (ij wh .nil) ?_
 refine g2 xX re { dq:=4,hl:=3:fa } (ij wh (ij CL .nil)) ?_
 obtain⟨mS,yu,h⟩:=aw h
 refine ah.LB (α:=fa) (r0:= [{ dq:=1,hl:=1:fa },{ dq:=2,hl:=2:fa },({ (default:fa) with dq:=3 } :fa),{ dq:=4,hl:=3:fa }]) (r:=mS) Tryz.underlying29 EM re rfl rfl (.cons (by simp) (ae rfl) (.cons (by simp) (ae rfl) (.cons (by simp) (ae rfl) (.cons (by simp) (ae rfl) (.nil))))) (aI yu) rfl fun gH=> ?_
 refine aW (a0 Ee) ?_
 refine ah.iz (i:=4) (γ:=fa) (b':=(({ ({ jZ with ix:=cN.1 } :a3) with lX:= [] } :a3):a3)) (os':= [(5,aV gH mS.length 4),(7,aV none ([]:List ez).length 0)]) ((aL.id a3).comp CI) BK (ae rfl) (ae rfl) hO rfl rfl rfl rfl ?_
 refine bM ?_
 refine aD ?_
 refine aB ?_
 refine ah.b6 1 rfl ?_
 obtain⟨dm,kK,h⟩:=aw h
 refine eD 1 mb (lT kK) fun Cy=> ?_
 refine aN ?_
 obtain⟨bO,cM,h⟩:=aw h
 refine jd (γ:=(Option Nat × Nat)) [0,2,3,51] (fun ax=> []) (fun ax=> [(1,⟨ax.1,.row 127 (bO:List fa) ax.2⟩),(4,⟨some a7,.cj (({ ({ jZ with ix:=cN.1 } :a3) with lX:= [] } :a3):a3) [(5,aV ax.1 bO.length ax.2),(7,aV none ([]:List ez).length 0)]⟩)]) (fun ax=> ?_) (fun hm ar=> ?_) fun hm ar=> ?_
 ·clear cM
  refine ag.next ?_
  refine ai.seq ?_
  refine aD ?_
  refine aB ?_
  refine ah.b6 0 rfl ?_
  obtain⟨et,kk,h⟩:=aw h
  refine eD 1 mb (lT kk) fun GW=> ?_
  refine aN ?_
  obtain⟨cD,dS,h⟩:=aw h
  refine jd (γ:=(Option Nat × Nat)) [0,2,3,51,59] (fun a1=> []) (fun a1=> [(4,⟨some a7,.cj (cD.1:a3) [(5,aV ax.1 bO.length ax.2),(7,aV a1.1 cD.2.length a1.2)]⟩),(5,⟨a1.1,.row 129 (cD.2:List ez) a1.2⟩)]) (fun a1=> ?_) (fun hm ar=> ?_) fun hm ar=> ?_
  ·clear dS
   refine ag.next ?_
   refine ai.seq ?_
   refine aD ?_
   refine aB ?_
   refine ah.b6 0 rfl ?_
   obtain⟨fk,mT,h⟩:=aw h
   refine eD 1 mb (lT mT) fun pb=> ?_
   refine aB ?_
   refine dU (a0 lp) ?_
   refine eY (fun hb=>DQ (i:=4) ((aL.id a3).comp lk) (r:=cD.1.bH) k1 (cY rfl hb) rfl rfl rfl (by rfl)) ?_
   obtain⟨a4,cw,h⟩:=aw h
   refine eY (fun hb=>oK (k:=a4) Tryz.underlying28 fQ (cY rfl hb) (bz 2) (cu (ib cw hb))) ?_
   refine eY (fun hb=>xY iM kc (cY rfl hb) rfl rfl) ?_
   refine dU (cL jT) ?_
   refine dU (eJ Tryz.underlying62) ?_
   refine jX gb ?_
   refine k6 ?_
   refine aN ?_
   obtain⟨fj,hh,h⟩:=aw h
   refine jd (γ:=(Option Nat × Nat)) [0,2,3,51,59,76] (fun br=> []) (fun br=> [(4,⟨some a7,.cj (fj.1:a3) [(5,aV ax.1 bO.length ax.2),(7,aV br.1 fj.2.length br.2)]⟩),(5,⟨br.1,.row 129 (fj.2:List ez) br.2⟩)]) (fun br=> ?_) (fun hm ar=> ?_) fun hm ar=> ?_
   ·clear hh
    refine ag.next ?_
    refine ai.seq ?_
    refine aD ?_
    refine aB ?_
    refine ah.b6 0 rfl ?_
    obtain⟨hz,p0,h⟩:=aw h
    refine eD 1 mb (lT p0) fun FM=> ?_
    refine aB ?_
    refine dU (a0 lp) ?_
    refine eY (fun hb=>DQ (i:=4) ((aL.id a3).comp lk) (r:=fj.1.bH) k1 (cY rfl hb) rfl rfl rfl (by rfl)) ?_
    obtain⟨bZ,c7,h⟩:=aw h
    refine eY (fun hb=>oK (k:=bZ) Tryz.underlying28 fQ (cY rfl hb) (bz 3) (cu (ib c7 hb))) ?_
    refine eY (fun hb=>xY iM kc (cY rfl hb) rfl rfl) ?_
    refine dU (cL jT) ?_
    refine dU (eJ Tryz.underlying62) ?_
    refine jX gb ?_
    refine k6 ?_
    refine aN ?_
    obtain⟨nJ,yX,h⟩:=aw h
    refine jd (γ:=(Option Nat × Nat)) [0,2,3,51,59,76,93] (fun cr=> []) (fun cr=> [(4,⟨some a7,.cj (nJ.1:a3) [(5,aV ax.1 bO.length ax.2),(7,aV cr.1 nJ.2.length cr.2)]⟩),(5,⟨cr.1,.row 129 (nJ.2:List ez) cr.2⟩)]) (fun cr=> ?_) (fun hm ar=> ?_) fun hm ar=> ?_
    ·clear yX
     refine ag.next ?_
     refine aD ?_
     refine ah.ih (β:=a3) (γ:=fa) (b':=(({ nJ.1 with lX:=bO } :a3):a3)) ((aL.id a3).comp CI) 4 1 0 rfl rfl rfl rfl rfl rfl ?_
     refine ah.ih (β:=a3) (γ:=ez) (b':=(({ ({ nJ.1 with lX:=bO } :a3) with mC:=nJ.2 } :a3):a3)) ((aL.id a3).comp Ae) 4 5 0 rfl rfl rfl rfl rfl rfl ?_
     refine ah.mI 4 rfl ?_
     obtain⟨nD,yv,h⟩:=aw h
     refine cZ yv (gx (i:=4) (aL.id a3) (r:=({ ({ nJ.1 with lX:=bO } :a3) with mC:=nJ.2 } :a3)) fy (ae rfl) rfl rfl rfl) ?_
     refine ca 7 fy ?_
     refine aN ?_
     refine ai.ret ?_
     refine ag.b6 0 rfl ?_
     obtain rfl:=aI h
     exact ag.gR () (.cons_cons _ (List.nil_sublist _)) rfl rfl (nq (i:=7) fy rfl rfl)
    ·have h:=ht ar yX
     refine ai.cl ?_
     refine aW (a0 uN) ?_
     refine bp (ie (i:=4) (q:=1) (β:=a3) (γ:=ez) sT (ae rfl) rfl rfl) ?_
     obtain⟨lG,Ff,h⟩:=aw h
     refine cZ Ff (cC (b:=({ (default:ez) with dq:=4,sF:=1,nP:=1 } :ez)) rfl Bx oN (.cons Au rfl (bz 4) rfl (.cons HH rfl (bz 1) rfl (.cons Af rfl (bz 1) rfl (.nil))))) ?_
     obtain⟨qb,yw,h⟩:=aw h
     refine cZ yw (cC (b:=({ (default:ez) with dq:=4,kB:=5,nP:=1 } :ez)) rfl Bx oN (.cons Au rfl (bz 4) rfl (.cons HA rfl (bz 5) rfl (.cons Af rfl (bz 1) rfl (.nil))))) ?_
     refine fM [lG,qb] Tryz.underlying31 u1 oN ?_
     obtain⟨iR,sR,h⟩:=aw h
     refine je 5 Tryz.underlying31 u1 oN sR fun jx eU=> ?_
     refine aW (a0 uN) ?_
     refine ah.iz (i:=4) (γ:=ez) (b':=(({ fj.1 with mC:= [] } :a3):a3)) (os':= [(5,aV ax.1 bO.length ax.2),(7,aV jx iR.length eU)]) ((aL.id a3).comp Ae) sT (ae rfl) (ae rfl) hO rfl rfl rfl rfl ?_
     refine ah.nil ?_
     obtain rfl:=aI h
     exact dI 0 (hm (jx,eU))
    ·have h:=hv ar yX
     refine ai.skip ?_
     obtain rfl:=aI h
     exact dI 0 (hm (br.1,br.2))
   ·have h:=ht ar hh
    refine ai.cl ?_
    refine aW (a0 uN) ?_
    refine bp (ie (i:=4) (q:=1) (β:=a3) (γ:=ez) sT (ae rfl) rfl rfl) ?_
    obtain⟨o3,vh,h⟩:=aw h
    refine cZ vh (cC (b:=({ (default:ez) with dq:=3,sF:=2,nP:=1 } :ez)) rfl Bx oN (.cons Au rfl (bz 3) rfl (.cons HH rfl (bz 2) rfl (.cons Af rfl (bz 1) rfl (.nil))))) ?_
    refine fM [o3] Tryz.underlying31 u1 oN ?_
    obtain⟨h7,sS,h⟩:=aw h
    refine je 5 Tryz.underlying31 u1 oN sS fun ma nx=> ?_
    refine aW (a0 uN) ?_
    refine ah.iz (i:=4) (γ:=ez) (b':=(({ cD.1 with mC:= [] } :a3):a3)) (os':= [(5,aV ax.1 bO.length ax.2),(7,aV ma h7.length nx)]) ((aL.id a3).comp Ae) sT (ae rfl) (ae rfl) hO rfl rfl rfl rfl ?_
    refine ah.nil ?_
    obtain rfl:=aI h
    exact dI 0 (hm (ma,nx))
   ·have h:=hv ar hh
    refine ai.skip ?_
    obtain rfl:=aI h
    exact dI 0 (hm (a1.1,a1.2))
  ·have h:=ht ar dS
   refine ai.cl ?_
   refine aW (a0 uN) ?_
   refine bp (ie (i:=4) (q:=1) (β:=a3) (γ:=ez) sT (ae rfl) rfl rfl) ?_
   obtain⟨FN,Us,h⟩:=aw h
   refine cZ Us (cC (b:=({ (default:ez) with dq:=2,kB:=4,nP:=1 } :ez)) rfl Bx oN (.cons Au rfl (bz 2) rfl (.cons HA rfl (bz 4) rfl (.cons Af rfl (bz 1) rfl (.nil))))) ?_
   refine fM [FN] Tryz.underlying31 u1 oN ?_
   obtain⟨jg,yx,h⟩:=aw h
   refine je 5 Tryz.underlying31 u1 oN yx fun pX oV=> ?_
   refine aW (a0 uN) ?_
   refine ah.iz (i:=4) (γ:=ez) (b':=(({ ({ ({ jZ with ix:=cN.1 } :a3) with lX:= [] } :a3) with mC:= [] } :a3):a3)) (os':= [(5,aV ax.1 bO.length ax.2),(7,aV pX jg.length oV)]) ((aL.id a3).comp Ae) sT (ae rfl) (ae rfl) hO rfl rfl rfl rfl ?_
   refine ah.nil ?_
   obtain rfl:=aI h
   exact dI 0 (hm (pX,oV))
  ·have h:=hv ar dS
   refine ai.skip ?_
   obtain rfl:=aI h
   exact dI 0 (hm (none,0))
 ·have h:=ht ar cM
  refine ai.cl ?_
  refine aW (a0 Ee) ?_
  refine bp (ie (i:=4) (q:=0) (β:=a3) (γ:=fa) BK (ae rfl) rfl rfl) ?_
  refine g2 xX re ({ (default:fa) with dq:=1 } :fa) (ij wh .nil) ?_
  refine fM [({ (default:fa) with dq:=1 } :fa)] Tryz.underlying29 EM re ?_
  obtain⟨kl,yy,h⟩:=aw h
  refine je 1 Tryz.underlying29 EM re yy fun oW yo=> ?_
  refine aW (a0 Ee) ?_
  refine ah.iz (i:=4) (γ:=fa) (b':=(({ ({ jZ with ix:=cN.1 } :a3) with lX:= [] } :a3):a3)) (os':= [(5,aV oW kl.length yo),(7,aV none ([]:List ez).length 0)]) ((aL.id a3).comp CI) BK (ae rfl) (ae rfl) hO rfl rfl rfl rfl ?_
  refine ah.nil ?_
  obtain rfl:=aI h
  exact dI 0 (hm (oW,yo))
 ·have h:=hv ar cM
  refine ai.skip ?_
  obtain rfl:=aI h
  exact dI 0 (hm (gH,4))
end Go.Proofs.YtmnggbjcnoffeaaGreat
namespace Go.Proofs.YtmnggbjcnoffeaaGreat
open Go Gv
set_option linter.unusedVariables false
set_option linter.unusedSimpArgs false
set_option maxRecDepth 100000
set_option maxHeartbeats 2000000
end Go.Proofs.YtmnggbjcnoffeaaGreat
namespace Go.Proofs.YtmnggbjcnoffeaaGreat
open Go Gv
set_option linter.unusedVariables false
set_option linter.unusedSimpArgs false
set_option maxRecDepth 100000
set_option maxHeartbeats 2000000
end Go.Proofs.YtmnggbjcnoffeaaGreat
namespace Go.Proofs.YtmnggbjcnoffeaaGreat
open Go Gv
set_option linter.unusedVariables false
set_option linter.unusedSimpArgs false
set_option maxRecDepth 100000
set_option maxHeartbeats 2000000
theorem Nc {aa:List cn} {aj:cn→Option Bool} {r:Bool} (h:vU aa aj=some r):bx Tryz.prog 112 [I.of (aa),I.n9 Tryz.prog aj] (I.of (r)):=by
 unfold vU at h
 refine bx.of Tryz.func112 rfl Tryz.ntmps112 rfl fun W A=> ?_
 refine aD ?_
 refine aQ ?_
 refine bS ?_
 refine aB ?_
 refine aB ?_
 obtain⟨ak,bB,h⟩:=aw h
 refine dF KO (Hs bB) ?_
 refine bj kX ?_
 refine aQ ?_
 refine aN ?_
 refine ai.ret ?_
 obtain rfl:=aI h
 exact c9
end Go.Proofs.YtmnggbjcnoffeaaGreat
namespace Go.Proofs.YtmnggbjcnoffeaaGreat
open Go Gv
set_option linter.unusedVariables false
set_option linter.unusedSimpArgs false
set_option maxRecDepth 100000
set_option maxHeartbeats 2000000
end Go.Proofs.YtmnggbjcnoffeaaGreat
namespace Go.Proofs.YtmnggbjcnoffeaaGreat
open Go Gv
set_option linter.unusedVariables false
set_option linter.unusedSimpArgs false
set_option maxRecDepth 100000
set_option maxHeartbeats 2000000
theorem Ia {aa:a2} {aj:a2} {r:a2 × Bool} (h:uk aa aj=some r):bx Tryz.prog 154 [I.of (aa),I.of (aj)] (I.cF [I.of (r.1),I.of (r.2)]):=by
 unfold uk at h
 refine bx.of Tryz.func154 rfl Tryz.ntmps154 rfl fun W A=> ?_
 refine aD ?_
 refine cd fun aT=> ?_
 refine cd fun a7=> ?_
 refine cG hJ fun bU=> ?_
 refine aQ ?_
 refine bS ?_
 refine aW (a0 l0) ?_
 refine b3 2 kz fI ?_
 refine aW (a0 l0) ?_
 refine b3 1 kz fI ?_
 obtain⟨ak,bB,h⟩:=aw h
 refine bp (hP xZ (wI bB) ⟨ae rfl,ae rfl,xf pO (fun _ _ _=>pr),trivial⟩) ?_
 refine cG pW fun cR=> ?_
 refine ca 0 fI ?_
 refine bM ?_
 refine ai.seq ?_
 obtain⟨aP,cg,h⟩:=aw h
 obtain⟨bc,ek,h⟩:=aw h
 refine ai.draw mixed 9 [some 12,some 13,some 14,some 15,some 16,some 17,some 18,some 19,some 20] [[],[0],[],[2],[1,3],[],[4,5],[],[6,7]] [.val _,.val _,.val _,.val _,.val _,.val _,.val _,.val _,.val _] [false,false,false,false,false,false,false,false,false] (by kernel_rfl) rfl rfl rfl (fun dx=>⟨H1 (a0 nR),ee 3 lS fI,H1 (a0 nR),ee 2 lS fI,dT fun ay au=>hP xZ (wI cg) ⟨ae rfl,ae rfl,xf Bp (fun _ _ _=>AH),trivial⟩,fA 0 fI,dT fun ay au=>hP xZ (wI ek) ⟨ae rfl,ae rfl,xf pO (fun _ _ _=>pr),trivial⟩,dT fun ay au=>Qb (b:=(default:Vector ao 4)) (sz:=2) rfl Tryz.underlying45 (by kernel_rfl) pW (.nil),mZ (Ez EN rfl SF rfl),trivial⟩) fun dx=> ?_
 refine aN ?_
 refine ck h (fun h=>?_) fun h=>?_
 ·refine aD ?_
  refine g2 u2 hJ (default:a2) .nil ?_
  refine ca 1 c0 ?_
  refine aQ ?_
  refine aN ?_
  refine ai.ret ?_
  refine ag.ret ?_
  obtain rfl:=aI h
  exact ag.oU rfl (eL 1 c0) (kh rfl)
 ·refine cO ?_
  refine ai.seq ?_
  obtain⟨bf,fh,h⟩:=aw h
  obtain⟨cb,gL,h⟩:=aw h
  refine ai.draw mixed 11 [some 22,some 23,some 24,some 25,some 26,some 27,some 28,some 29,some 30,some 31,some 32] [[],[0],[],[2],[1,3],[],[5],[],[7],[6,8],[4,9]] [.val _,.val _,.val _,.val _,.val _,.val _,.val _,.val _,.val _,.val _,.val _] [false,false,false,false,false,false,false,false,false,false,false] (by kernel_rfl) rfl rfl rfl (fun il=>⟨H1 (a0 nR),ee 3 lS fI,H1 (a0 nR),ee 2 lS fI,dT fun ay au=>hP xZ (wI fh) ⟨ae rfl,ae rfl,xf pP (fun _ _ _=>pt),trivial⟩,H1 (a0 l0),ee 3 kz fI,H1 (a0 l0),ee 2 kz fI,dT fun ay au=>hP xZ (wI gL) ⟨ae rfl,ae rfl,xf pP (fun _ _ _=>pt),trivial⟩,dT fun ay au=>cC (b:= { bR:=bf,bK:=cb:a2 }) rfl u2 hJ (.cons lS rfl (ae rfl) rfl (.cons kz rfl (ae rfl) rfl (.nil))),trivial⟩) fun il=> ?_
  refine ca 1 c0 ?_
  refine aQ ?_
  refine aN ?_
  refine ai.ret ?_
  obtain rfl:=aI h
  exact ag.oU rfl (eL 1 c0) (kh rfl)
theorem Na {aa:List a2} {aj:a2→Option Bool} {oO:Option Nat} {gy:Nat} {r:(List a2)} (h:tF aa aj=some r):cz Tryz.prog 151 [I.eq (aV oO aa.length gy),I.n9 Tryz.prog aj] [⟨oO,.row 155 (aa:List a2) gy⟩] (δ:=Unit) (fun d=>I.of (r)) (fun d=> []):=by
 unfold tF at h
 refine cz.of Tryz.func151 rfl Tryz.ntmps151 rfl fun W A=> ?_
 refine aD ?_
 refine bp (eG (look_nil (α:=a2))) ?_
 refine bS ?_
 refine aB ?_
 refine aB ?_
 obtain⟨ak,bB,h⟩:=aw h
 refine bp (bX.LD (α:=a2) 0 8 rfl rfl qP (hP KP (Hq bB) ⟨ae rfl,ae rfl,trivial⟩)) ?_
 refine aQ ?_
 refine bM ?_
 refine aD ?_
 refine aB ?_
 refine bj gb ?_
 refine aN ?_
 refine ck h (fun h=>?_) fun h=>?_
 ·refine aD ?_
  refine aB ?_
  refine aQ ?_
  refine aN ?_
  refine ai.ret ?_
  refine ag.ret ?_
  refine ag.kV (α:=a2) 0 [4,0,8,13] ⟨rfl,rfl,rfl,rfl,trivial⟩ rfl ?_
  obtain rfl:=aI h
  exact kj ()
 ·refine cO ?_
  refine ai.seq ?_
  refine aD ?_
  refine aB ?_
  refine bj dg ?_
  refine aQ ?_
  refine aN ?_
  refine ai.block ?_
  obtain⟨az,aq,h⟩:=aw h
  refine gB (γ:=(Option Nat × Nat)) (δ:=(Option Nat × Nat)) aq [1,4,12] (fun s1 ax=> [(0,I.eq (aV ax.1 s1.2.2.length ax.2)),(5,I.of (s1.1)),(6,I.of (s1.2.1))]) (fun s1 ax=> [(0,⟨ax.1,.row 155 (s1.2.2:List a2) ax.2⟩)]) (fun aE=>Exit.exit 0) (fun aE ax=> [(0,I.eq (aV ax.1 aE.2.2.2.length ax.2)),(5,I.of (aE.1)),(6,I.of (aE.2.1)),(19,I.of (aE.2.2.1))]) (fun aE ax=> [(0,⟨ax.1,.row 155 (aE.2.2.2:List a2) ax.2⟩)]) (oO,gy) (fun s1 r h ax=> ?_) fun ax=> ?_
  ·clear aq
   refine ai.seq ?_
   refine aD ?_
   refine aB ?_
   refine aB ?_
   refine bp (su (i:=0) Tryz.underlying156 (ae rfl) rfl rfl) ?_
   refine bj dZ ?_
   refine aN ?_
   refine ck h (fun h=>?_) fun h=>?_
   ·refine cO ?_
    refine ai.seq ?_
    refine ai.block ?_
    refine aD ?_
    refine aB ?_
    refine aB ?_
    obtain⟨a4,cw,h⟩:=aw h
    refine bp (rb (i:=0) (k:=a4) (xs:=(s1.2.2:List a2)) Tryz.underlying156 c0 (ae rfl) (ae rfl) rfl (cu cw)) ?_
    refine bp (JB (i:=0) (k:=a4) (aL.id a2) (r:=(aA s1.2.2 a4)) c0 (ae rfl) rfl (cu cw).1 rfl rfl) ?_
    refine cG hJ fun aT=> ?_
    refine ca 0 c0 ?_
    refine bS ?_
    refine aB ?_
    refine cc 0 c0 ?_
    obtain⟨aP,cg,h⟩:=aw h
    refine bp (ux (ae rfl) (ae rfl) cg) ?_
    refine aW ju ?_
    refine aN ?_
    obtain⟨bO,cM,h⟩:=aw h
    refine jd (γ:=(Option Nat × Nat)) [1,4,6,7,12,19,29] (fun a1=> [(0,I.eq (aV a1.1 bO.2.length a1.2)),(5,I.of (bO.1))]) (fun a1=> [(1,⟨a1.1,.row 155 (bO.2:List a2) a1.2⟩)]) (fun a1=> ?_) (fun hm ar=> ?_) fun hm ar=> ?_
    ·clear cM
     refine ag.ea ?_
     refine ag.next ?_
     refine ai.cl ?_
     refine aB ?_
     refine bj dg ?_
     refine aQ ?_
     refine ah.nil ?_
     obtain rfl:=aI h
     exact fo (a1.1,a1.2) 1
    ·have h:=ht ar cM
     refine aD ?_
     refine aB ?_
     refine aB ?_
     refine cc 0 c0 ?_
     obtain⟨bZ,c7,h⟩:=aw h
     refine bp (rb (i:=1) (k:=bZ) (xs:=(s1.2.2:List a2)) Tryz.underlying156 c0 (ae rfl) (ae rfl) rfl (cu c7)) ?_
     refine ah.uM (i:=1) (k:=bZ) (aL.id a2) (v:=((aA s1.2.2 a4):a2)) (r:=(gI s1.2.2 bZ (aA s1.2.2 a4):List a2)) c0 (ae rfl) (ae rfl) rfl (cu c7).1 rfl rfl ?_
     refine ah.ke (m:=(gI s1.2.2 bZ (aA s1.2.2 a4)).length) 0 rfl (ll rfl) ?_
     refine ah.ke (m:=(gI s1.2.2 bZ (aA s1.2.2 a4)).length) 17 rfl (ll rfl) ?_
     refine ah.ke (m:=(gI s1.2.2 bZ (aA s1.2.2 a4)).length) 22 rfl (ll rfl) ?_
     refine ah.ke (m:=(gI s1.2.2 bZ (aA s1.2.2 a4)).length) 30 rfl (ll rfl) ?_
     refine aN ?_
     refine ai.cl ?_
     refine aB ?_
     refine bj dg ?_
     refine aQ ?_
     refine ah.nil ?_
     obtain rfl:=aI h
     exact dI 0 (hm (ax.1,ax.2))
    ·have h:=hv ar cM
     refine ai.skip ?_
     obtain rfl:=aI h
     exact dI 0 (hm (ax.1,ax.2))
   ·refine ai.exit ?_
    refine ag.exit ?_
    obtain rfl:=aI h
    exact eh (ax.1,ax.2) 0
  ·clear aq
   refine ag.fe ?_
   refine ag.next ?_
   refine aD ?_
   refine aB ?_
   refine aB ?_
   obtain⟨bc,ek,h⟩:=aw h
   refine bp (AU (i:=0) (xs:=(az.2.2.2:List a2)) (m:=bc.1) (n:=bc.2) Tryz.underlying156 c0 (ae rfl) rfl (.some (ae rfl)) .none (uv ek).1 (uv ek).2.1 (uv ek).2.2) ?_
   obtain⟨bk,dc,h⟩:=aw h
   refine ah.clear (i:=0) (r:=bk) Tryz.underlying156 c0 hJ rfl (ae rfl) rfl (by have:=(uv ek).2.2; omega) (aI dc) ?_
   refine ah.ke (m:=bk.length) 0 rfl (Im (by have:=(uv ek).2.2; omega) (aI dc)) ?_
   refine ah.ke (m:=bk.length) 36 rfl (Im (by have:=(uv ek).2.2; omega) (aI dc)) ?_
   refine bS ?_
   refine aB ?_
   refine aB ?_
   obtain⟨dj,fB,h⟩:=aw h
   refine bp (AU (i:=0) (xs:=(bk:List a2)) (m:=0) (n:=dj) Tryz.underlying156 c0 (ae rfl) rfl .none (.some (ae rfl)) rfl (cu fB).2 ⟨Nat.zero_le _,Nat.le_of_lt_succ (cu fB).1⟩) ?_
   obtain⟨c8,ho,h⟩:=aw h
   refine ah.SG (i:=0) (n:=dj) (xs:=(bk:List a2)) (r:=c8) 41 rfl rfl (Nat.le_of_lt_succ (cu fB).1) (aI ho) ?_
   refine aQ ?_
   refine aN ?_
   refine ai.ret ?_
   refine ag.kV (α:=a2) 0 [4,41] ⟨rfl,rfl,trivial⟩ rfl ?_
   obtain rfl:=aI h
   exact kj ()
theorem Nb {aa:List a2} {aj:a2→Option Bool} {r:Bool} (h:vT aa aj=some r):bx Tryz.prog 155 [I.of (aa),I.n9 Tryz.prog aj] (I.of (r)):=by
 unfold vT at h
 refine bx.of Tryz.func155 rfl Tryz.ntmps155 rfl fun W A=> ?_
 refine aD ?_
 refine aQ ?_
 refine bS ?_
 refine aB ?_
 refine aB ?_
 obtain⟨ak,bB,h⟩:=aw h
 refine dF KP (Hq bB) ?_
 refine bj kX ?_
 refine aQ ?_
 refine aN ?_
 refine ai.ret ?_
 obtain rfl:=aI h
 exact c9
end Go.Proofs.YtmnggbjcnoffeaaGreat
namespace Go.Proofs.YtmnggbjcnoffeaaGreat
open Go Gv
set_option linter.unusedVariables false
set_option linter.unusedSimpArgs false
set_option maxRecDepth 100000
set_option maxHeartbeats 2000000
theorem Ny {aa:aM} {aj:Int} {r:Bool} (h:z9 aa aj=some r):bx Tryz.prog 111 [I.of (aa),I.ptr aj] (I.of (r)):=by
 unfold z9 at h
 refine bx.of Tryz.func111 rfl Tryz.ntmps111 rfl fun W A=> ?_
 refine aD ?_
 refine cd fun aT=> ?_
 refine aQ ?_
 refine bS ?_
 refine aW (a0 kW) ?_
 refine b3 0 jL bG ?_
 refine aW (cL bG) ?_
 refine bj gb ?_
 refine aQ ?_
 refine aN ?_
 refine ai.ret ?_
 obtain rfl:=aI h
 exact c9
theorem Nz {aa:cn} {r:Bool} (h:Aa aa=some r):bx Tryz.prog 113 [I.of (aa)] (I.of (r)):=by
 unfold Aa at h
 refine bx.of Tryz.func113 rfl Tryz.ntmps113 rfl fun W A=> ?_
 refine aD ?_
 refine cd fun aT=> ?_
 refine aQ ?_
 refine bS ?_
 refine aW (a0 pB) ?_
 refine b3 0 ka bG ?_
 refine bj gb ?_
 refine aQ ?_
 refine aN ?_
 refine ai.ret ?_
 obtain rfl:=aI h
 exact c9
theorem Oa {aa:a3} {aj:List aM} {aR:aM} {r:(List aM) × a3 × aM} (h:C1 aa aj aR=some r):bx Tryz.prog 115 [I.of (aa),I.of (aj),I.of (aR)] (I.gT 149 [I.ptr r.1,I.ptr r.2.1,I.ptr r.2.2]):=by
 unfold C1 at h
 refine bx.of Tryz.func115 rfl Tryz.ntmps115 rfl fun W A=> ?_
 refine aD ?_
 refine cd fun aT=> ?_
 refine cd fun a7=> ?_
 refine cd fun bU=> ?_
 refine bp (eG (D8 .nilFunc)) ?_
 refine bS ?_
 refine ah.share (α:=List aM) 1 4 rfl rfl ?_
 refine ah.share (α:=a3) 2 3 rfl rfl ?_
 refine ah.share (α:=aM) 0 5 rfl rfl ?_
 refine bp (KF (f:=149) (τs:= [I.ptr aj,I.ptr aa,I.ptr aR]) ⟨ae rfl,ae rfl,ae rfl,trivial⟩) ?_
 refine aQ ?_
 refine aN ?_
 refine ai.ret ?_
 obtain rfl:=aI h
 exact c9
end Go.Proofs.YtmnggbjcnoffeaaGreat
namespace Go.Proofs.YtmnggbjcnoffeaaGreat
open Go Gv
set_option linter.unusedVariables false
set_option linter.unusedSimpArgs false
set_option maxRecDepth 100000
set_option maxHeartbeats 2000000
theorem Ob {aa:a2} {aj:a2} {r:Bool} (h:tT aa aj=some r):bx Tryz.prog 153 [I.of (aa),I.ptr aj] (I.of (r)):=by
 unfold tT at h
 refine bx.of Tryz.func153 rfl Tryz.ntmps153 rfl fun W A=> ?_
 refine aD ?_
 refine cd fun aT=> ?_
 refine aQ ?_
 refine bS ?_
 refine aW (cL c0) ?_
 refine cc 0 c0 ?_
 obtain⟨ak,bB,h⟩:=aw h
 refine dF KQ (Ia bB) ?_
 refine aB ?_
 refine gf ?_
 refine gf ?_
 refine cG hJ fun a7=> ?_
 refine ca 0 c0 ?_
 refine aQ ?_
 refine bS ?_
 refine aB ?_
 refine aW ju ?_
 refine aQ ?_
 refine aN ?_
 refine ai.ret ?_
 obtain rfl:=aI h
 exact c9
theorem OB {aa:a2} {aj:a2} {r:Bool} (h:wU aa aj=some r):bx Tryz.prog 157 [I.of (aa),I.of (aj)] (I.of (r)):=by
 unfold wU at h
 refine bx.of Tryz.func157 rfl Tryz.ntmps157 rfl fun W A=> ?_
 refine aD ?_
 refine cd fun aT=> ?_
 refine cd fun a7=> ?_
 refine aQ ?_
 refine bS ?_
 refine cc 1 c0 ?_
 refine cc 0 c0 ?_
 obtain⟨ak,bB,h⟩:=aw h
 refine dF KQ (Ia bB) ?_
 refine aB ?_
 refine gf ?_
 refine gf ?_
 refine cG hJ fun bU=> ?_
 refine ca 0 c0 ?_
 refine aQ ?_
 refine bS ?_
 refine aB ?_
 refine aB ?_
 refine eY (fun hb=>gx (i:=0) (aL.id a2) (r:=ak.1) c0 (ae rfl) rfl rfl rfl) ?_
 refine eY (fun hb=>gx (i:=2) (aL.id a2) (r:=aa) c0 (ae rfl) rfl rfl rfl) ?_
 refine jX (KR Kd rfl Ke rfl) ?_
 refine k6 ?_
 refine aQ ?_
 refine aN ?_
 refine ai.ret ?_
 obtain rfl:=aI h
 exact c9
theorem Ib {aa:ao} {aj:Int} {r:ao} (h:um aa aj=some r):bx Tryz.prog 194 [I.of (aa),I.of (aj)] (I.of (r)):=by
 unfold um at h
 refine bx.of Tryz.func194 rfl Tryz.ntmps194 rfl fun W A=> ?_
 refine aD ?_
 refine cd fun aT=> ?_
 refine cG dP fun a7=> ?_
 refine bM ?_
 obtain⟨ak,bB,h⟩:=aw h
 obtain⟨aP,cg,h⟩:=aw h
 refine ai.draw mixed 10 [some 5,some 6,some 7,some 8,some 9,some 10,some 11,some 12,some 13,some 14] [[],[0],[],[2],[3],[],[5],[6],[4,7],[1,8]] [.val _,.val _,.val _,.val _,.val _,.val _,.val _,.val _,.val _,.val _] [false,false,false,false,false,false,false,false,false,false] (by kernel_rfl) rfl rfl rfl (fun dx=>⟨cW,fb Bo (AE bB),H1 (a0 nh),ee 1 ia fH,H1 JC,H1 (a0 jP),ee 1 ev fH,H1 JC,dT fun ay au=>cC (b:= { dD:= ~~~aa.dD,bY:= ~~~aa.bY:ao }) rfl gS dP (.cons ia rfl (ae rfl) rfl (.cons ev rfl (ae rfl) rfl (.nil))),fb pO (pr cg),trivial⟩) fun dx=> ?_
 refine ca 0 bT ?_
 refine aN ?_
 refine ai.ret ?_
 obtain rfl:=aI h
 exact ag.gG rfl (eL 0 bT)
theorem Ic {aa:Vector ao 4} {aj:Int} {r:Bool} (h:uo aa aj=some r):bx Tryz.prog 195 [I.of (aa),I.of (aj)] (I.of (r)):=by
 unfold uo at h
 refine bx.of Tryz.func195 rfl Tryz.ntmps195 rfl fun W A=> ?_
 refine aD ?_
 refine cd fun aT=> ?_
 refine aQ ?_
 refine bS ?_
 refine aB ?_
 obtain⟨ak,bB,h⟩:=aw h
 refine bp (KK (ae rfl) (bz 128) (IF bB)) ?_
 obtain⟨a4,cw,h⟩:=aw h
 refine bp (eV (k:=a4) g1 (ae rfl) (ae rfl) (cu cw)) ?_
 refine b3 0 ((aL.id (Vector ao 4)).comp (aL.idx (α:=ao) 4 a4 (cu cw).1)) bT ?_
 refine aB ?_
 obtain⟨aP,cg,h⟩:=aw h
 refine bp (xR (ae rfl) (bz 128) (w6 cg)) ?_
 refine bj kY ?_
 obtain⟨bc,ek,h⟩:=aw h
 refine dF Bq (AI ek) ?_
 refine aQ ?_
 refine aN ?_
 refine ai.ret ?_
 obtain rfl:=aI h
 exact c9
theorem Pl {aa:Vector ao 4} {aj:Int} {r:Bool} (h:w3 aa aj=some r):bx Tryz.prog 163 [I.of (aa),I.of (aj)] (I.of (r)):=by
 unfold w3 at h
 refine bx.of Tryz.func163 rfl Tryz.ntmps163 rfl fun W A=> ?_
 refine aD ?_
 refine cd fun aT=> ?_
 refine aQ ?_
 refine bS ?_
 refine aB ?_
 obtain⟨ak,bB,h⟩:=aw h
 refine dF KS (H2 bB) ?_
 refine aB ?_
 refine gf ?_
 refine gf ?_
 refine aQ ?_
 refine aQ ?_
 refine bS ?_
 refine aB ?_
 obtain⟨a4,cw,h⟩:=aw h
 refine bp (eV (k:=a4) g1 (ae rfl) (ae rfl) (cu cw)) ?_
 refine b3 0 ((aL.id (Vector ao 4)).comp (aL.idx (α:=ao) 4 a4 (cu cw).1)) bT ?_
 refine aB ?_
 obtain⟨aP,cg,h⟩:=aw h
 refine dF Bq (AI cg) ?_
 refine aQ ?_
 refine aN ?_
 refine ai.ret ?_
 obtain rfl:=aI h
 exact c9
end Go.Proofs.YtmnggbjcnoffeaaGreat
namespace Go.Proofs.YtmnggbjcnoffeaaGreat
open Go Gv
set_option linter.unusedVariables false
set_option linter.unusedSimpArgs false
set_option maxRecDepth 100000
set_option maxHeartbeats 2000000
theorem OK {aa:ch} {aj:Int} {aR:Int} {r:ao} (h:wX aa aj aR=some r):bx Tryz.prog 147 [I.of (aa),I.of (aj),I.of (aR)] (I.of (r)):=by
 unfold wX at h
 refine bx.of Tryz.func147 rfl Tryz.ntmps147 rfl fun W A=> ?_
 refine aD ?_
 refine cd fun aT=> ?_
 refine cG dP fun a7=> ?_
 refine bM ?_
 refine ai.block ?_
 refine aD ?_
 refine aW (a0 RC) ?_
 refine b3 1 rY k8 ?_
 refine aW ju ?_
 refine aQ ?_
 refine aN ?_
 refine ck h (fun h=>?_) fun h=>?_
 ·refine aD ?_
  refine g2 gS dP (default:ao) .nil ?_
  refine ca 0 bT ?_
  refine aN ?_
  refine ai.ret ?_
  refine ag.eC ?_
  refine ag.ret ?_
  obtain rfl:=aI h
  exact ag.gG rfl (eL 0 bT)
 ·refine aD ?_
  refine aB ?_
  refine bj gb ?_
  refine aQ ?_
  refine aN ?_
  refine ck h (fun h=>?_) fun h=>?_
  ·refine aD ?_
   refine aB ?_
   obtain⟨ak,bB,h⟩:=aw h
   refine dF Bo (AE bB) ?_
   refine ca 0 bT ?_
   refine aN ?_
   refine ai.ret ?_
   refine ag.eC ?_
   refine ag.ret ?_
   obtain rfl:=aI h
   exact ag.gG rfl (eL 0 bT)
  ·refine aD ?_
   refine aB ?_
   refine bj gb ?_
   refine aQ ?_
   refine aN ?_
   refine ck h (fun h=>?_) fun h=>?_
   ·refine aD ?_
    refine aB ?_
    refine aW (a0 A8) ?_
    refine b3 1 rZ bG ?_
    obtain⟨aP,cg,h⟩:=aw h
    refine dF KT (HK cg) ?_
    refine ca 0 bT ?_
    refine aN ?_
    refine ai.ret ?_
    refine ag.eC ?_
    refine ag.ret ?_
    obtain rfl:=aI h
    exact ag.gG rfl (eL 0 bT)
   ·refine ai.skip ?_
    refine ag.ea ?_
    refine ag.next ?_
    refine aD ?_
    refine aW (a0 RD) ?_
    refine b3 1 An bT ?_
    refine ca 0 bT ?_
    refine aN ?_
    refine ai.ret ?_
    obtain rfl:=aI h
    exact ag.gG rfl (eL 0 bT)
theorem H3 {aa:a2} {aj:List a2} {r:(List a2)} (h:uh aa aj=some r):bx Tryz.prog 116 [I.of (aa),I.of (aj)] (I.of (r)):=by
 unfold uh at h
 refine bx.of Tryz.func116 rfl Tryz.ntmps116 rfl fun W A=> ?_
 refine aD ?_
 refine cd fun aT=> ?_
 refine bp (eG (look_nil (α:=a2))) ?_
 refine bS ?_
 refine aB ?_
 obtain⟨ak,bB,h⟩:=aw h
 refine eD 0 SH (Ni bB) fun aE=> ?_
 refine ah.share (α:=a2) 1 2 rfl rfl ?_
 refine bp (uL (F:=(fun fu=>tT fu aa)) (τs:= [I.ptr aa]) SI ⟨ae rfl,trivial⟩ (fun _ _ h=>Ob h)) ?_
 refine ah.b6 0 rfl ?_
 obtain⟨aP,cg,h⟩:=aw h
 refine eD 1 SJ (Na cg) fun da=> ?_
 refine aQ ?_
 refine aN ?_
 refine ai.ret ?_
 obtain rfl:=aI h
 exact c9
theorem NR {aa:a2} {aj:a2} {r:Bool} (h:wx aa aj=some r):bx Tryz.prog 156 [I.of (aa),I.ptr aj] (I.of (r)):=by
 unfold wx at h
 refine bx.of Tryz.func156 rfl Tryz.ntmps156 rfl fun W A=> ?_
 refine aD ?_
 refine cd fun aT=> ?_
 refine aQ ?_
 refine bS ?_
 refine aW (cL c0) ?_
 refine cc 0 c0 ?_
 obtain⟨ak,bB,h⟩:=aw h
 refine dF SK (OB bB) ?_
 refine aQ ?_
 refine aN ?_
 refine ai.ret ?_
 obtain rfl:=aI h
 exact c9
end Go.Proofs.YtmnggbjcnoffeaaGreat
namespace Go.Proofs.YtmnggbjcnoffeaaGreat
open Go Gv
set_option linter.unusedVariables false
set_option linter.unusedSimpArgs false
set_option maxRecDepth 100000
set_option maxHeartbeats 2000000
end Go.Proofs.YtmnggbjcnoffeaaGreat
namespace Go.Proofs.YtmnggbjcnoffeaaGreat
open Go Gv
set_option linter.unusedVariables false
set_option linter.unusedSimpArgs false
set_option maxRecDepth 100000
set_option maxHeartbeats 2000000
theorem Io {aa:a2} {aj:Int} {aR:Bool} {r:a2} (h:se aa aj aR=some r):bx Tryz.prog 123 [I.of (aa),I.of (aj),I.of (aR)] (I.of (r)):=by
 unfold se at h
 refine bx.of Tryz.func123 rfl Tryz.ntmps123 rfl fun W A=> ?_
 refine aD ?_
 refine cd fun aT=> ?_
 refine cG hJ fun a7=> ?_
 refine bM ?_
 refine aD ?_
 refine aB ?_
 refine bj dZ ?_
 refine aB ?_
 refine dU cQ ?_
 refine jX kX ?_
 refine o1 ?_
 refine aB ?_
 refine dU (a0 l0) ?_
 refine eY (fun hb=>gx (i:=1) ((aL.id a2).comp kz) (r:=aa.bK) fI (cY rfl hb) rfl rfl rfl) ?_
 refine dU cQ ?_
 obtain⟨ak,bB,h⟩:=aw h
 refine eY (fun hb=>hP SL (Pl (ib bB hb)) ⟨cY rfl hb,cY rfl hb,trivial⟩) ?_
 refine o1 ?_
 refine aN ?_
 refine ck h (fun h=>?_) fun h=>?_
 ·refine aD ?_
  refine cc 1 c0 ?_
  refine ca 0 c0 ?_
  refine aN ?_
  refine ai.ret ?_
  refine ag.ret ?_
  obtain rfl:=aI h
  exact ag.gG rfl (eL 0 c0)
 ·refine cO ?_
  refine aD ?_
  refine aB ?_
  obtain⟨aP,cg,h⟩:=aw h
  refine dF KS (H2 cg) ?_
  refine aB ?_
  refine gf ?_
  refine gf ?_
  refine aQ ?_
  refine aQ ?_
  refine bS ?_
  obtain⟨bc,ek,h⟩:=aw h
  refine bp (hP SM (Pk ek) ⟨hc 1 rfl,trivial⟩) ?_
  refine aB ?_
  obtain⟨bf,fh,h⟩:=aw h
  refine dF SN (OJ fh) ?_
  refine cG dP fun bU=> ?_
  refine ca 0 bT ?_
  refine bM ?_
  obtain⟨a4,cw,h⟩:=aw h
  obtain⟨cb,gL,h⟩:=aw h
  obtain⟨bZ,c7,h⟩:=aw h
  refine ai.draw mixed 9 [some 31,some 32,some 33,some 34,some 35,some 36,some 37,some 38,some 39] [[],[],[],[1,2],[3],[],[4,5],[],[0,7]] [.val _,.val _,.val _,.val _,.val _,.val _,.val _,.val _,.val _] [false,false,false,false,false,false,false,false,false] (by kernel_rfl) rfl rfl rfl (fun dx=>⟨cW,cW,H1 (a0 l0),dT fun ay au=>eV (k:=a4) g1 (ae rfl) (ae rfl) (cu cw),ee 2 (((aL.id a2).comp kz).comp (aL.idx (α:=ao) 4 a4 (cu cw).1)) bT,fA 0 bT,fb pP (pt gL),H1 (a0 l0),dT fun ay au=>eV (k:=bZ) g1 (ae rfl) (ae rfl) (cu c7),trivial⟩) fun dx=> ?_
  refine nB 2 (((aL.id a2).comp kz).comp (aL.idx (α:=ao) 4 bZ (cu c7).1)) bT ?_
  refine bM ?_
  refine aD ?_
  refine aB ?_
  refine aN ?_
  obtain⟨bO,cM,h⟩:=aw h
  refine jd (γ:=Unit) [0,1,2,3,6,7,8,9,21,40] (fun ax=> []) (fun ax=> [(2,⟨some aT,.var (bO:a2)⟩)]) (fun ax=> ?_) (fun hm ar=> ?_) fun hm ar=> ?_
  ·clear cM
   refine ag.next ?_
   refine aD ?_
   refine cc 2 c0 ?_
   refine ca 1 c0 ?_
   refine aN ?_
   refine ai.ret ?_
   obtain rfl:=aI h
   exact ag.gG rfl (eL 1 c0)
  ·have h:=ht ar cM
   obtain⟨dj,fB,h⟩:=aw h
   obtain⟨cN,g4,h⟩:=aw h
   obtain⟨hj,k7,h⟩:=aw h
   refine ai.draw mixed 9 [some 41,some 42,some 43,some 44,some 45,some 46,some 47,some 48,some 49] [[],[],[],[1,2],[3],[],[4,5],[],[0,7]] [.val _,.val _,.val _,.val _,.val _,.val _,.val _,.val _,.val _] [false,false,false,false,false,false,false,false,false] (by kernel_rfl) rfl rfl rfl (fun il=>⟨cW,cW,H1 (a0 nR),dT fun ay au=>eV (k:=dj) g1 (ae rfl) (ae rfl) (cu fB),ee 2 (((aL.id a2).comp lS).comp (aL.idx (α:=ao) 4 dj (cu fB).1)) bT,fA 0 bT,fb pP (pt g4),H1 (a0 nR),dT fun ay au=>eV (k:=hj) g1 (ae rfl) (ae rfl) (cu k7),trivial⟩) fun il=> ?_
   obtain⟨bk,dc,h⟩:=aw h
   refine B3 2 (((aL.id a2).comp lS).comp (aL.idx (α:=ao) 4 hj (cu k7).1)) bT (hb:=by exact dc) ?_
   refine ah.nil ?_
   obtain rfl:=aI h
   exact dI 0 (hm ())
  ·have h:=hv ar cM
   refine ai.skip ?_
   obtain rfl:=aI h
   exact dI 0 (hm ())
end Go.Proofs.YtmnggbjcnoffeaaGreat
namespace Go.Proofs.YtmnggbjcnoffeaaGreat
open Go Gv
set_option linter.unusedVariables false
set_option linter.unusedSimpArgs false
set_option maxRecDepth 100000
set_option maxHeartbeats 2000000
theorem OC {aa:List Int} {r:Int} (h:wV aa=some r):bx Tryz.prog 133 [I.of (aa)] (I.of (r)):=by
 unfold wV at h
 refine bx.of Tryz.func133 rfl Tryz.ntmps133 rfl fun W A=> ?_
 refine aD ?_
 refine aQ ?_
 refine bM ?_
 refine aD ?_
 refine aB ?_
 refine aW (eJ Tryz.underlying63) ?_
 refine aB ?_
 refine aN ?_
 refine ai.block ?_
 obtain⟨az,aq,h⟩:=aw h
 refine gB (γ:=Unit) (δ:=Unit) aq [0,5,6] (fun s1 ax=> [(2,I.of (0:Int)),(7,I.of (s1))]) (fun s1 ax=> []) (fun aE=>Sum.elim (fun aE=>Exit.exit 0) (fun aE=>Exit.ret) aE) (fun aE ax=>Sum.elim (fun aE=> [(2,I.of (0:Int)),(7,I.of (aE.1)),(8,I.of (aE.2))]) (fun aE=> [(2,I.of (aE.1)),(4,I.of (aE.2.1)),(7,I.of (aE.2.2.1)),(8,I.of (aE.2.2.2.1)),(12,I.of (aE.2.2.2.2))]) aE) (fun aE ax=>Sum.elim (fun aE=> []) (fun aE=> []) aE) () (fun s1 r h ax=> ?_) fun ax=> ?_
 ·clear aq
  refine aD ?_
  refine bj dZ ?_
  refine bM ?_
  refine ck h (fun h=>?_) fun h=>?_
  ·refine cO ?_
   refine ai.seq ?_
   refine ai.block ?_
   refine aD ?_
   obtain⟨a4,cw,h⟩:=aw h
   refine fL cw Tryz.underlying63 bG ?_
   refine aW (cL bG) ?_
   refine aQ ?_
   refine bS ?_
   refine aB ?_
   refine bj sC ?_
   refine aN ?_
   refine ck h (fun h=>?_) fun h=>?_
   ·refine aD ?_
    refine aB ?_
    refine aQ ?_
    refine aN ?_
    refine ai.ret ?_
    refine ag.eC ?_
    refine ag.ret ?_
    obtain rfl:=aI h
    exact eh () 0
   ·refine ai.skip ?_
    refine ag.ea ?_
    refine ag.next ?_
    refine ai.cl ?_
    refine bj dg ?_
    refine aB ?_
    refine ah.nil ?_
    obtain rfl:=aI h
    exact fo () 0
  ·refine ai.exit ?_
   refine ag.exit ?_
   obtain rfl:=aI h
   exact eh () 0
 ·clear aq
  rcases az with az | az
  ·simp only [Sum.elim_inl] at h
   refine ag.fe ?_
   refine ag.next ?_
   refine aD ?_
   refine aQ ?_
   refine aN ?_
   refine ai.ret ?_
   obtain rfl:=aI h
   exact c9
  ·simp only [Sum.elim_inr] at h
   refine ag.eC ?_
   refine ag.ret ?_
   obtain rfl:=aI h
   exact c9
end Go.Proofs.YtmnggbjcnoffeaaGreat
namespace Go.Proofs.YtmnggbjcnoffeaaGreat
open Go Gv
set_option linter.unusedVariables false
set_option linter.unusedSimpArgs false
set_option maxRecDepth 100000
set_option maxHeartbeats 2000000
theorem HD {hp:bb Cell} {aa:Ref} {aj:ao} {aR:Int} {r:Bool} (h:tQ hp aa aj aR=some r):cz Tryz.prog 251 [I.of (aa),I.of (aj),I.of (aR)] ([] ++ bd hp) (δ:=Unit) (fun _=>I.of (r)) (fun _=> [] ++ bd hp):=by
 unfold tQ at h
 refine cz.of Tryz.func251 rfl Tryz.ntmps251 rfl fun W A=> ?_
 refine aD ?_
 refine cd fun aT=> ?_
 refine aQ ?_
 refine bM ?_
 obtain⟨dK,fz,h⟩:=aw h
 obtain⟨cK,hg,h⟩:=aw h
 obtain⟨cB,g3,h⟩:=aw h
 obtain⟨dL,ik,h⟩:=aw h
 obtain⟨ak,bB,h⟩:=aw h
 obtain⟨aP,cg,h⟩:=aw h
 obtain⟨bk,dc,h⟩:=aw h
 refine ai.draw mixed 26 ((some 7) :: (some 8) :: (some 9) :: (some 10) :: (some 11) :: (some 12) :: (some 13) :: (some 14) :: (some 15) :: (some 16) :: (some 17) :: (some 18) :: (some 19) :: (some 20) :: (some 21) :: (some 22) :: (some 23) :: (some 24) :: (some 25) :: (some 26) :: (some 27) :: (some 28) :: (some 29) :: (some 30) :: (some 31) :: (some 32) :: []) ([] :: [0] :: [1] :: [2] :: [2,3] :: [2,4] :: [5] :: [6] :: [6] :: [6,8] :: [6,9] :: [6,10] :: [6,7,11] :: [6,12] :: [13] :: [14] :: [14] :: [14,16] :: [14,17] :: [14,18] :: [14] :: [14,19,20] :: [14,15,21] :: [14] :: [14,22,23] :: [14,24] :: []) (.val _ :: .val _ :: .val _ :: .val _ :: .val _ :: .val _ :: .val _ :: .val _ :: .val _ :: .val _ :: .val _ :: .val _ :: .val _ :: .val _ :: .val _ :: .val _ :: .val _ :: .val _ :: .val _ :: .val _ :: .val _ :: .val _ :: .val _ :: .val _ :: .val _ :: .val _ :: []) (false :: false :: false :: false :: false :: false :: false :: false :: false :: false :: false :: false :: false :: false :: false :: false :: false :: false :: false :: false :: false :: false :: false :: false :: false :: false :: []) (by kernel_rfl) rfl rfl rfl (fun dx=>⟨cW,dT fun ay au=>IG Tryz.underlying321 (ae rfl),cW,hX fun ay au=>fun hb=>cQ (ae rfl),hX fun ay au=>fun hb=>kX (cY rfl hb) (bz 0),dT fun ay au=>oJ (ae rfl) (ae rfl) (fun h=>h),cW,hX fun ay au=>fun hb=>cQ (ae rfl),hX fun ay au=>fun hb=>cQ (ae rfl),hX fun ay au=>fun hb=>fw (gQ (cY rfl hb) (ib fz hb)),hX fun ay au=>fun hb=>a0 A0 (cY rfl hb),hX fun ay au=>fun hb=>jt ((aL.id fY).comp wo) (r:=cK.eN) bG (cY rfl hb) (nw (fun i e q=>au i e q rfl) (h4 (n:=1) rfl (pD (ib hg hb)) rfl)) rfl rfl,hX fun ay au=>fun hb=>Bm (cY rfl hb) (cY rfl hb),dT fun ay au=>oJ (ae rfl) (ae rfl) (fun h=>h),cW,hX fun ay au=>fun hb=>gx (i:=0) (aL.id ao) (r:=aj) bT (ae rfl) (au _ _ rfl rfl) rfl rfl,hX fun ay au=>fun hb=>cQ (ae rfl),hX fun ay au=>fun hb=>fw (gQ (cY rfl hb) (ib g3 hb)),hX fun ay au=>fun hb=>a0 A0 (cY rfl hb),hX fun ay au=>fun hb=>jt ((aL.id fY).comp wo) (r:=dL.eN) bG (cY rfl hb) (nw (fun i e q=>au i e q rfl) (h4 (n:=1) rfl (pD (ib ik hb)) rfl)) rfl rfl,hX fun ay au=>fun hb=>cQ (ae rfl),hX fun ay au=>fun hb=>hP KT (HK (ib bB hb)) ⟨cY rfl hb,cY rfl hb,trivial⟩,hX fun ay au=>fun hb=>hP pO (pr (ib cg hb)) ⟨cY rfl hb,cY rfl hb,trivial⟩,hX fun ay au=>fun hb=>gx (i:=0) (aL.id ao) (r:=aj) bT (ae rfl) (au _ _ rfl rfl) rfl rfl,hX fun ay au=>fun hb=>KR sG rfl SO rfl (cY rfl hb) (cY rfl hb),GX dc fun ay au=>oJ (ae rfl) (ae rfl) (fun h=>h),trivial⟩) fun dx=> ?_
 refine aQ ?_
 refine aN ?_
 refine ai.ret ?_
 obtain rfl:=aI h
 exact ag.gR () (.cons _ (.refl _)) rfl rfl (fP rfl)
theorem OL {aa:List aM} {oO:Option Nat} {gy:Nat} {r:(List aM)} (h:ui aa=some r):cz Tryz.prog 269 [I.eq (aV oO aa.length gy)] [⟨oO,.row 52 (aa:List aM) gy⟩] (δ:=Unit) (fun d=>I.of (r)) (fun d=> [⟨oO,.row 52 (aa:List aM) gy⟩]):=by
 unfold ui at h
 refine cz.of Tryz.func269 rfl Tryz.ntmps269 rfl fun W A=> ?_
 refine aD ?_
 refine bp (eG (look_nil (α:=aM))) ?_
 refine bS ?_
 refine ah.own (α:=aM) 52 ?_
 refine bp (eG qO) ?_
 refine bM ?_
 refine aD ?_
 refine aB ?_
 refine bp (su (i:=1) Tryz.underlying38 (ae rfl) rfl rfl) ?_
 refine aB ?_
 refine aN ?_
 refine ai.block ?_
 obtain⟨az,aq,h⟩:=aw h
 refine gB (γ:=(Option Nat × Nat)) (δ:=(Option Nat × Nat)) aq [0,2,6,7] (fun s1 ax=> [(3,I.eq (aV ax.1 s1.2.length ax.2)),(8,I.of (s1.1))]) (fun s1 ax=> [(0,⟨ax.1,.row 52 (s1.2:List aM) ax.2⟩)]) (fun aE=>Exit.exit 0) (fun aE ax=> [(3,I.eq (aV ax.1 aE.2.2.length ax.2)),(8,I.of (aE.1)),(9,I.of (aE.2.1))]) (fun aE ax=> [(0,⟨ax.1,.row 52 (aE.2.2:List aM) ax.2⟩)]) (none,0) (fun s1 r h ax=> ?_) fun ax=> ?_
 ·clear aq
  refine aD ?_
  refine bj dZ ?_
  refine bM ?_
  refine ck h (fun h=>?_) fun h=>?_
  ·refine cO ?_
   refine ai.seq ?_
   refine ai.block ?_
   refine aD ?_
   obtain⟨a4,cw,h⟩:=aw h
   refine bp (rb (i:=1) (k:=a4) (xs:=(aa:List aM)) Tryz.underlying38 cV (ae rfl) (ae rfl) rfl (cu cw)) ?_
   refine bp (JB (i:=1) (k:=a4) (aL.id aM) (r:=(aA aa a4)) cV (ae rfl) rfl (cu cw).1 rfl rfl) ?_
   refine cG h6 fun aT=> ?_
   refine ca 0 cV ?_
   refine aN ?_
   refine ai.cl ?_
   refine aB ?_
   refine cc 0 cV ?_
   obtain⟨ak,bB,h⟩:=aw h
   refine dF Fg (C2 bB) ?_
   refine fM [ak] Tryz.underlying38 cV h6 ?_
   obtain⟨aP,cg,h⟩:=aw h
   refine je 1 Tryz.underlying38 cV h6 cg fun gH eU=> ?_
   refine aQ ?_
   refine ah.nil ?_
   refine ag.ea ?_
   refine ag.next ?_
   refine ai.cl ?_
   refine bj dg ?_
   refine aB ?_
   refine ah.nil ?_
   obtain rfl:=aI h
   exact fo (gH,eU) 1
  ·refine ai.exit ?_
   refine ag.exit ?_
   obtain rfl:=aI h
   exact eh (ax.1,ax.2) 0
 ·clear aq
  refine ag.fe ?_
  refine ag.next ?_
  refine aD ?_
  refine aB ?_
  refine aQ ?_
  refine aN ?_
  refine ai.ret ?_
  refine ag.kV (α:=aM) 0 [2,3,18] ⟨rfl,rfl,rfl,trivial⟩ rfl ?_
  refine ag.b6 1 rfl ?_
  obtain rfl:=aI h
  exact kj ()
theorem HQ {aa:a3} {aj:bE} {r:Int} (h:ue aa aj=some r):bx Tryz.prog 190 [I.of (aa),I.of (aj)] (I.of (r)):=by
 unfold ue at h
 refine bx.of Tryz.func190 rfl Tryz.ntmps190 rfl fun W A=> ?_
 refine aD ?_
 refine cd fun aT=> ?_
 refine cd fun a7=> ?_
 refine aQ ?_
 refine bS ?_
 refine cc 1 fy ?_
 refine cc 0 h5 ?_
 obtain⟨ak,bB,h⟩:=aw h
 refine dF SP (Oz bB) ?_
 refine aB ?_
 refine gf ?_
 refine gf ?_
 refine cG k2 fun bU=> ?_
 refine ca 0 fQ ?_
 refine aQ ?_
 refine bS ?_
 refine aW (a0 kc) ?_
 refine b3 0 iM jT ?_
 obtain⟨aP,cg,h⟩:=aw h
 refine bp (hP KO (Hs cg) ⟨ae rfl,I5 SQ (fun _ _=>N0),trivial⟩) ?_
 refine aQ ?_
 refine bM ?_
 refine aD ?_
 refine aB ?_
 refine aW ju ?_
 refine aB ?_
 refine dU cQ ?_
 refine jX dZ ?_
 refine o1 ?_
 refine aB ?_
 refine dU cQ ?_
 refine dU (a0 kD) ?_
 refine eY (fun hb=>gx (i:=1) ((aL.id bE).comp jM) (r:=aj.cA) kg (cY rfl hb) rfl rfl rfl) ?_
 refine dU (eJ Tryz.underlying47) ?_
 refine jX kX ?_
 obtain⟨bk,dc,h⟩:=aw h
 refine cZ dc (vi (ae rfl) (ae rfl) (fun h=>h)) ?_
 refine aN ?_
 refine ck h (fun h=>?_) fun h=>?_
 ·refine aD ?_
  refine aQ ?_
  refine aN ?_
  refine ai.ret ?_
  refine ag.ret ?_
  obtain rfl:=aI h
  exact c9
 ·refine cO ?_
  refine aD ?_
  refine aW (a0 kD) ?_
  refine b3 1 jM kg ?_
  refine aB ?_
  obtain⟨a4,cw,h⟩:=aw h
  refine fL cw Tryz.underlying47 gA ?_
  refine vy rZ A8 ?_
  refine aW (cL bG) ?_
  refine aQ ?_
  refine aN ?_
  refine ai.ret ?_
  obtain rfl:=aI h
  exact c9
end Go.Proofs.YtmnggbjcnoffeaaGreat
namespace Go.Proofs.YtmnggbjcnoffeaaGreat
open Go Gv
set_option linter.unusedVariables false
set_option linter.unusedSimpArgs false
set_option maxRecDepth 100000
set_option maxHeartbeats 2000000
theorem HI {hp:bb Cell} {aa:Ref} {aj:ao} {aR:Int} {r:Ref} (h:tU hp aa aj aR=some r):cz Tryz.prog 247 [I.of (aa),I.of (aj),I.of (aR)] ([] ++ bd hp) (δ:=Unit) (fun _=>I.of (r)) (fun _=> [] ++ bd hp):=by
 unfold tU at h
 refine cz.ofM Tryz.func247 rfl Tryz.ntmps247 rfl fun W A=> ?_
 refine aD ?_
 refine cd fun aT=> ?_
 refine cG EO fun a7=> ?_
 refine bM ?_
 refine aD ?_
 refine aB ?_
 refine cc 1 bT ?_
 refine aB ?_
 obtain⟨ak,bB,h⟩:=aw h
 refine ah.pa (iF.q6 2 rfl KU (HD bB) ⟨ae rfl,ae rfl,ae rfl,trivial⟩) rfl rfl rfl ?_
 refine aW ju ?_
 refine aN ?_
 refine ck h (fun h=>?_) fun h=>?_
 ·refine aD ?_
  refine ah.store (i:=0) (aL.id Ref) (v:=((none:Ref):Ref)) (b':=((none:Ref):Ref)) fx (ae rfl) (qG) rfl rfl rfl ?_
  refine aN ?_
  refine ai.ret ?_
  refine ag.ret ?_
  obtain rfl:=aI h
  refine ag.yA ?_
  exact ag.gR () (.cons _ (.cons _ (.refl _))) rfl rfl (nq (i:=0) fx rfl rfl)
 ·refine cO ?_
  refine aD ?_
  refine aB ?_
  obtain⟨dK,fz,h⟩:=aw h
  refine bp (fw (gQ (ae rfl) fz)) ?_
  refine aW (a0 A2) ?_
  obtain⟨cK,hg,h⟩:=aw h
  refine bp (jt ((aL.id fY).comp Ao) (r:=cK.c5) fx (ae rfl) (h4 (n:=2) rfl (pD hg) rfl) rfl rfl) ?_
  refine cG EO fun bU=> ?_
  refine ca 0 fx ?_
  refine bM ?_
  refine aD ?_
  refine aB ?_
  refine cc 2 bT ?_
  refine aB ?_
  obtain⟨aP,cg,h⟩:=aw h
  refine dF KV (HG cg) ?_
  refine aN ?_
  refine ai.block ?_
  obtain⟨az,aq,h⟩:=aw h
  refine PA (hp:=hp) (γ:=Unit) (g0:=()) (Ls:=fun s1 ax=>(⟨some bU,.var (s1:Ref)⟩ :: ⟨some a7,.var ((default:Ref):Ref)⟩ :: ⟨some aT,.var (aj:ao)⟩ :: bd hp)) (Lx:=fun aE ax=>(⟨some bU,.var (aE.1:Ref)⟩ :: ⟨some a7,.var (aE.2:Ref)⟩ :: ⟨some aT,.var (aj:ao)⟩ :: bd hp)) (fun s1 ax=> [⟨some bU,.var (s1:Ref)⟩,⟨some a7,.var ((default:Ref):Ref)⟩,⟨some aT,.var (aj:ao)⟩]) (fun aE=> .ret) rfl KW rfl Nv aq (fun _ _=>rfl) rfl rfl (fun vz s1 r h ax km kv kn l D rec yY=> ?_) (fun s1 aS ax D=> ?_) (fun aE aS ax D=> ?_)
  ·clear aq
   refine ai.cl ?_
   refine aQ ?_
   refine ah.nil ?_
   refine ag.begin 0 rfl yY ?_
   refine ai.block ?_
   refine ai.seq ?_
   refine aD ?_
   refine cc 2 fx ?_
   refine bp (qN Tryz.underlying331 (ae rfl)) ?_
   refine aN ?_
   refine ck h (fun h=>?_) fun h=>?_
   ·refine aD ?_
    refine ah.store (i:=3) (aL.id Ref) (v:=((none:Ref):Ref)) (b':=((none:Ref):Ref)) fx (ae rfl) (qG) rfl rfl rfl ?_
    refine aN ?_
    refine ai.ret ?_
    refine ag.ret ?_
    refine ag.eC ?_
    obtain rfl:=aI h
    exact ag.RE () 0 rfl rfl rfl
   ·refine cO ?_
    refine ai.cl ?_
    refine cc 2 fx ?_
    refine aB ?_
    obtain⟨cB,g3,h⟩:=aw h
    refine bp (fw (gQ (ae rfl) g3)) ?_
    refine aW (a0 A3) ?_
    obtain⟨a4,cw,h⟩:=aw h
    refine bp (eV (k:=a4) By (ae rfl) (ae rfl) (cu cw)) ?_
    obtain⟨dL,ik,h⟩:=aw h
    refine bp (jt (((aL.id ew).comp z4).comp (aL.idx (α:=Ref) 2 a4 (cu cw).1)) (r:=cf dL.e6 a4) fx (ae rfl) (h4 (n:=5) rfl (mD ik) rfl) rfl rfl) ?_
    refine ca 2 fx ?_
    refine ah.nil ?_
    refine ag.ea ?_
    obtain rfl:=aI h
    exact ag.L4 () 0 rfl
  ·clear aq; subst aS; simp only [Sum.elim_inl] at h
   refine ag.fg (L2:=(⟨some D,.di⟩ :: ⟨some bU,.var (s1:Ref)⟩ :: ⟨some a7,.var ((default:Ref):Ref)⟩ :: ⟨some aT,.var (aj:ao)⟩ :: bd hp)) rfl ?_
   refine ag.ea ?_
   refine ag.next ?_
   refine aD ?_
   refine cc 1 fx ?_
   refine ca 2 fx ?_
   refine aN ?_
   refine ai.ret ?_
   obtain rfl:=aI h
   refine ag.BL 0 rfl rfl ?_
   exact ag.gR () (.cons _ (.cons _ (.cons _ (.cons _ (.refl _))))) rfl rfl (nq (i:=2) fx rfl rfl)
  ·clear aq; subst aS; simp only [Sum.elim_inr] at h
   refine ai.ret ?_
   refine ag.fg (L2:=(⟨some D,.di⟩ :: ⟨some bU,.var (aE.1:Ref)⟩ :: ⟨some a7,.var (aE.2:Ref)⟩ :: ⟨some aT,.var (aj:ao)⟩ :: bd hp)) rfl ?_
   refine ag.eC ?_
   refine ag.ret ?_
   obtain rfl:=aI h
   refine ag.BL 0 rfl rfl ?_
   exact ag.gR () (.cons _ (.cons _ (.cons _ (.cons _ (.refl _))))) rfl rfl (nq (i:=2) fx rfl rfl)
theorem Nr {aa:dr} {cv:Nat} {oE:Option Nat} {oF:Nat} {r:(List aM)} (h:v5 aa=some r):cz Tryz.prog 264 [I.eq (.pointer (some ⟨cv,0,none⟩))] [⟨some cv,.cj (({ aa with dE:= [] } :dr):dr) [(10,aV oE aa.dE.length oF)]⟩,⟨oE,.row 52 (aa.dE:List aM) oF⟩] (δ:=Unit) (fun d=>I.of (r)) (fun d=> [⟨some cv,.cj (({ aa with dE:= [] } :dr):dr) [(10,aV oE (aa.dE).length oF)]⟩,⟨oE,.row 52 (aa.dE:List aM) oF⟩]):=by
 unfold v5 at h
 refine cz.of Tryz.func264 rfl Tryz.ntmps264 rfl fun W A=> ?_
 refine aD ?_
 refine bp (eG (look_nil (α:=aM))) ?_
 refine bM ?_
 refine aD ?_
 refine aB ?_
 refine bp (Kf Tryz.underlying170 (ae rfl)) ?_
 refine aN ?_
 refine ai.uX (ae rfl) rfl ?_
 refine cO ?_
 refine aD ?_
 refine aB ?_
 refine aW fw ?_
 refine aW (a0 xo) ?_
 refine bp (ie (i:=0) (q:=0) (β:=dr) (γ:=aM) sN (ae rfl) rfl rfl) ?_
 obtain⟨ak,bB,h⟩:=aw h
 refine ah.pa (iF.call [1] SR (OL bB) ⟨ae rfl,trivial⟩ rfl ⟨rfl,trivial⟩ rfl) rfl rfl rfl ?_
 refine aQ ?_
 refine aN ?_
 refine ai.ret ?_
 refine ag.b6 1 rfl ?_
 refine ag.b6 1 rfl ?_
 obtain rfl:=aI h
 exact kj ()
theorem C6 {aa:a3} {aj:aM} {aR:aM} {r:Bool} (h:r8 aa aj aR=some r):bx Tryz.prog 150 [I.of (aa),I.of (aj),I.of (aR)] (I.of (r)):=by
 unfold r8 at h
 refine bx.of Tryz.func150 rfl Tryz.ntmps150 rfl fun W A=> ?_
 refine aD ?_
 refine cd fun aT=> ?_
 refine cd fun a7=> ?_
 refine cd fun bU=> ?_
 refine aQ ?_
 refine bM ?_
 obtain⟨ak,bB,h⟩:=aw h
 obtain⟨aP,cg,h⟩:=aw h
 obtain⟨bc,ek,h⟩:=aw h
 obtain⟨bf,fh,h⟩:=aw h
 obtain⟨cb,gL,h⟩:=aw h
 obtain⟨cN,g4,h⟩:=aw h
 refine ai.draw mixed 24 ((some 7) :: (some 8) :: (some 9) :: (some 10) :: (some 11) :: (some 12) :: (some 13) :: (some 14) :: (some 15) :: (some 16) :: (some 17) :: (some 18) :: (some 19) :: (some 20) :: (some 21) :: (some 22) :: (some 23) :: (some 24) :: (some 25) :: (some 26) :: (some 27) :: (some 28) :: (some 29) :: (some 30) :: []) ([] :: [0] :: [1] :: [] :: [3] :: [4] :: [2,5] :: [] :: [] :: [8] :: [7,9] :: [] :: [] :: [12] :: [11,13] :: [10,14] :: [] :: [16] :: [] :: [18] :: [17,19] :: [6,15,20] :: [21] :: [22] :: []) (.val _ :: .val _ :: .val _ :: .val _ :: .val _ :: .val _ :: .val _ :: .val _ :: .val _ :: .val _ :: .val _ :: .val _ :: .val _ :: .val _ :: .val _ :: .val _ :: .val _ :: .val _ :: .val _ :: .val _ :: .val _ :: .val _ :: .val _ :: .val _ :: []) (false :: false :: false :: false :: false :: false :: false :: false :: false :: false :: false :: false :: false :: false :: false :: false :: false :: false :: false :: false :: false :: false :: false :: false :: []) (by kernel_rfl) rfl rfl rfl (fun dx=>⟨H1 (a0 jQ),H1 (a0 pC),ee 1 (iL.comp nN) bG,H1 (a0 jQ),H1 (a0 pC),ee 0 (iL.comp nN) bG,fb Fh (C0 bB),fA 2 fy,H1 (a0 jQ),ee 1 iL h5,fb KX (HQ cg),fA 2 fy,H1 (a0 jQ),ee 0 iL h5,fb KX (HQ ek),fb Fh (C0 fh),H1 (a0 kW),ee 1 jL bG,H1 (a0 kW),ee 0 jL bG,fb Fh (C0 gL),dT fun ay au=>iZ (r:= [ak,bf,cb]) Tryz.underlying63 bG hy rfl rfl (.cons (by simp) (ae rfl) (.cons (by simp) (ae rfl) (.cons (by simp) (ae rfl) (.nil)))),fb SS (OC g4),mZ mJ,trivial⟩) fun dx=> ?_
 refine aQ ?_
 refine aN ?_
 refine ai.ret ?_
 obtain rfl:=aI h
 exact c9
end Go.Proofs.YtmnggbjcnoffeaaGreat
