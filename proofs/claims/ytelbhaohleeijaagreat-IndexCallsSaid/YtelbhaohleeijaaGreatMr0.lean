/-
  IndexCalls holds for every input: the call returns true and each argument reads afterwards as it read before. Conditions: none.
-/
import Derived.ProofKit
import Derived.OpenShut
import Derived.Test.YtelbhaohleeijaaGreatMl0
import Derived.Test.YtelbhaohleeijaaGreatMl2
import Derived.Test.YtelbhaohleeijaaGreatMp1
import Derived.Test.YtelbhaohleeijaaGreatMc2
set_option linter.unusedVariables false
set_option maxRecDepth 100000
namespace Go.Proofs.YtelbhaohleeijaaGreat
open Go Gv Go.ChangeShapes Go.WideShapes Go.ChangeAt Go.RowKit
theorem afx:Arg Tryz.prog 5 (BitVec 8):=Arg.u8 Tryz.underlying5 (by kernel_rfl)
theorem Rj:u5 Tryz.prog 22 (List (BitVec 8)):=u5.af3 Tryz.underlying22 afx (by kernel_rfl)
theorem afy:Arg Tryz.prog 3 Int:=Arg.int Tryz.underlying3 (by kernel_rfl)
theorem adt:u5 Tryz.prog 3 Int:= .of afy
theorem WC:ownKnob Tryz.prog.godebug=none:=by kernel_rfl
theorem Wu:laidOutB Tryz.prog=true:=by kernel_rfl
theorem Wm:∀ t∈Tryz.f3.params.toList,Tryz.prog.readableRec t=true∧t<Tryz.prog.types.size:=by
 rw [Tryz.params3];intro t bP;simp only [List.mem_cons,List.not_mem_nil,or_false] at bP;rcases bP with rfl | rfl | rfl <;> exact⟨by kernel_rfl,of_decide_eq_true (by kernel_rfl)⟩
set_option maxHeartbeats 1600000 in
theorem V7 (os:Os)(started:os.Started)(H:Type)(enc:TypeId×Value→H):
 ReturnsInHanded {} Tryz.checked os 3 .any (Rows.indexCallsSpec.pre6 enc Tryz.prog Tryz.f3 Rows.indexCallsRow.domain false) (Rows.indexCallsSpec.post enc Tryz.prog Tryz.f3 false true false false):=by
 refine returnsInHanded_of_change (C:=Tryz.checked) WC started (by kernel_rfl) Tryz.func3
  (ChangeSpec.witness6 (enc:=enc) (C:=Tryz.checked) false ⟨#[],#[.slice none 0 0,.slice none 0 0,.int .i64 0],[]⟩ 8 (by kernel_rfl) (by kernel_rfl) (by kernel_rfl) (by kernel_rfl)) ?_
 intro W base args ds gs before adu Aj ahL _
 have zM:∀ (j:Nat) t v,Tryz.f3.params[j]? =some t→args[j]? =some v→Value.okWide Tryz.prog W .any base t v:=adu
 have ahc:DataW.Whole enc Tryz.prog Tryz.f3.params.toList Rows.indexCallsSpec.vars false W args.toList ds gs before:=Aj
 obtain⟨p,q,ahd,MU,Hi,ah9,h7⟩:=Aj
 have gk:DataW.TrodAll enc Tryz.prog W 0 (fun _=>true) true [22,22,3] args.toList ds p:=ahd
 have iD:∀ (j:Nat) u v,[22,22,3][j]? =some u→args.toList[j]? =some v→Value.okWide Tryz.prog W .any base u v:=fun j u v h1 ad=>zM j u v (by rw [Tryz.params3];simpa using h1) (by simpa using ad)
 obtain⟨J,v0,aia,aib,aic,d0,iS,g0,bR,gk,iD⟩:=IT Rj gk iD
 obtain⟨ai,v1,LL,LM,ba,d1,aw,g1,h1,gk,iD⟩:=IT Rj gk iD
 obtain⟨aL,v2,aid,aie,jB,d2,aX,g2,ad,gk,iD⟩:=IT adt gk iD
 obtain⟨dc,g3,_⟩:=trodAll_nil gk
 subst dc g3
 subst aX
 subst aw
 obtain rfl:args= #[v0,v1,v2]:=by cases args;simpa using iS
 subst g2
 subst g1
 subst g0
 have w3:=(bZ.law (V0 (WB J ai aL)) fun _ h=>h) [] W [v0,v1,v2] (by simp) (.cons bR (.cons h1 (.cons ad (.nil))))
 refine w3.mono fun e W' ⟨v,he,jy,a6⟩=>?_
 rw [of_bool] at a6
 subst a6
 exact⟨_,he,YV Wu Wm rfl Tryz.underlying4 rfl rfl ahc jy⟩
theorem WD:(Rows.indexCallsRow.inPlace==Tryz.prog.inPlace 3)=true:=by kernel_rfl
theorem WE:(Rows.indexCallsRow.unfollowed==Tryz.prog.unfollowed 3)=true:=by kernel_rfl
theorem WG:(Rows.indexCallsRow.recurses==Tryz.prog.recurses 3)=true:=by kernel_rfl
theorem WH:(Rows.indexCallsRow.named==Tryz.prog.varsNamed 3)=true:=by kernel_rfl
theorem Wa:joinedFacts Tryz.prog 3 Tryz.f3 Rows.indexCallsSpec Rows.indexCallsRow=true:=by
 unfold joinedFacts;rw [WD,WE,WG,WH];kernel_rfl
theorem IndexCalls_holds:Rows.IndexCallsSaid:=
 OpenClaim.holds_of_wide 3 Tryz.f3 rfl rfl rfl rfl rfl rfl rfl ⟨rfl,rfl,rfl,rfl,rfl⟩ rfl rfl rfl rfl rfl (by kernel_rfl) Tryz.func3 Wa
  (of_decide_eq_true (by kernel_rfl)) (by unfold Func.isWrapper;first | (rw [if_pos (by decide +kernel)];kernel_rfl) | (rw [if_neg (by decide +kernel)];exact⟨rfl,rfl⟩))
  (fun os started H enc _=>V7 os started H enc)
end Go.Proofs.YtelbhaohleeijaaGreat
