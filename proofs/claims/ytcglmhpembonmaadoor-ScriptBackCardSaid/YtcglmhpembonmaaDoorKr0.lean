/-
  ScriptBack holds for every input: the call returns true and each argument reads afterwards as it read before; its card. Conditions: none.
-/
import Derived.Test.YtcglmhpembonmaaDoorTie
import Derived.Test.YtcglmhpembonmaaDoorCards
import Derived.SevenTiedAt
import Derived.Test.YtcglmhpembonmaaDoorKp0
import Derived.Test.YtcglmhpembonmaaDoorKc0
namespace Go.Proofs.YtcglmhpembonmaaDoor
open Go Gv Go.ChangeShapes Go.WideShapes Go.ChangeAt Go.RowKit
set_option linter.unusedVariables false
set_option maxRecDepth 100000
theorem readsScriptBack : ∀ t ∈ Tryd.f4.params.toList, Tryd.prog.readableRec t = true ∧ t < Tryd.prog.types.size := by
  rw [Tryd.params4]
  intro t ht
  simp only [List.mem_cons, List.not_mem_nil, or_false] at ht
  rcases ht with rfl | rfl <;> exact ⟨by kernel_rfl, of_decide_eq_true (by kernel_rfl)⟩
set_option maxHeartbeats 1600000 in
theorem ScriptBack_lifted (os : Os) (started : os.Started) (H : Type) (enc : TypeId × Value → H) :
    ReturnsInHanded {} Tryd.checked os 4 .any (fun w args => (Rows.scriptBackSpec.pre enc Tryd.prog Tryd.f4 Rows.scriptBackRow.domain false w args ∧ laidMetH Tryd.prog theLaid w) ∧ sizedMet enc Tryd.prog Tryd.f4 (OpenSpec.ofChange Rows.scriptBackSpec) false w args)
      (Rows.scriptBackSpec.post enc Tryd.prog Tryd.f4 false true false false) := by
  refine handed_shaped (C := Tryd.checked) (X := fun w _ => laidMetH Tryd.prog theLaid w) (fun _ _ _ hh h => h.of_heap hh) ownK started (by kernel_rfl) Tryd.func4
    (ChangeSpec.witness_shaped (enc := enc) (C := Tryd.checked) (os := os) (X := fun w _ => laidMetH Tryd.prog theLaid w) false (World.laidAll Tryd.prog os theLaid) #[.slice none 0 0, .string ⟨#[]⟩] 8 (World.laidAll_os _ _ _)
      (World.shaped_of_ZipB (by kernel_rfl) (by kernel_rfl)) (by kernel_rfl) (by kernel_rfl) (by kernel_rfl)
      (by rw [MakeChecks.laidMetH_plain _ _ _ (by kernel_rfl)]; exact laidMet_laidAll _ (by kernel_rfl) (by kernel_rfl))) ?_
  intro W base args ds gs before hsh hval0 hW hL0
  have hL : laidMetH Tryd.prog theLaid W := hL0
  have hval : ∀ (j : Nat) t v, Tryd.f4.params[j]? = some t → args[j]? = some v → Value.okWide Tryd.prog W .any base t v := hval0
  have hW' : DataW.Whole enc Tryd.prog Tryd.f4.params.toList Rows.scriptBackSpec.vars false W args.toList ds gs before := hW
  have hG : G0.is W := ground hL hsh
  obtain ⟨p, q, hA0, hV, hpq, hfz, hnd⟩ := hW
  have hA : DataW.TrodAll enc Tryd.prog W 0 (fun _ => true) true [22, 9] args.toList ds p := hA0
  have hok : ∀ (j : Nat) u v, [22, 9][j]? = some u → args.toList[j]? = some v → Value.okWide Tryd.prog W .any base u v := fun j u v h1 h2 => hval j u v (by rw [Tryd.params4]; simpa using h1) (by simpa using h2)
  obtain ⟨x0, v0, vs0, ds0, ps0, d0, e0, g0, ⟨h0, k0⟩, hA, hok⟩ := args_consR argL hA hok
  obtain ⟨x1, v1, vs1, ds1, ps1, d1, e1, g1, ⟨h1, k1⟩, hA, hok⟩ := args_consR (.of argS) hA hok
  obtain ⟨e2d, g2d, _⟩ := trodAll_nil hA
  subst e2d g2d
  subst e1
  obtain rfl : args = #[v0, v1] := by cases args; simpa using e0
  subst g1
  subst g0
  have hcall := C_law33_ScriptBack (back_ok k0) [] W [v0, v1] hG (by simp) (.cons h0 (.cons h1 (.nil)))
  refine hcall.mono fun e W' ⟨v, he, hF, hv⟩ => ?_
  rw [of_bool] at hv
  subst hv
  exact ⟨_, he, post_law lobK readsScriptBack rfl Tryd.underlying4 rfl rfl hW' hF⟩

theorem inpScriptBack : (Rows.scriptBackRow.inPlace == Tryd.prog.inPlace 4) = true := by kernel_rfl
theorem unfScriptBack : (Rows.scriptBackRow.unfollowed == Tryd.prog.unfollowed 4) = true := by kernel_rfl
theorem recScriptBack : (Rows.scriptBackRow.recurses == Tryd.prog.recurses 4) = true := by kernel_rfl
theorem namScriptBack : (Rows.scriptBackRow.named == Tryd.prog.varsNamed 4) = true := by kernel_rfl
theorem plkScriptBack : (Rows.scriptBackRow.plainKeys == Tryd.prog.plainKeys) = true := by kernel_rfl
theorem lfdScriptBack : (Rows.scriptBackRow.lifted == Tryd.prog.liftsFinal) = true := by kernel_rfl
theorem joinedScriptBack : joinedFacts Tryd.prog 4 Tryd.f4 Rows.scriptBackSpec Rows.scriptBackRow = true := by
  unfold joinedFacts
  rw [inpScriptBack, unfScriptBack, recScriptBack, namScriptBack, lobK, mprK, shdK, myeK, plkScriptBack, lfdScriptBack]
  kernel_rfl
theorem ScriptBack_holds : Rows.ScriptBackSaid :=
  OpenClaim.holds_of_wide 4 Tryd.f4 rfl rfl rfl rfl rfl rfl rfl ⟨rfl, rfl, rfl, rfl, rfl⟩ rfl rfl rfl rfl rfl (by kernel_rfl) Tryd.func4 joinedScriptBack
    (of_decide_eq_true (by kernel_rfl)) (by unfold Func.isWrapper; first | (rw [if_pos (by decide +kernel)]; kernel_rfl) | (rw [if_neg (by decide +kernel)]; exact ⟨rfl, rfl⟩))
    (fun os started H enc _ => ScriptBack_lifted os started H enc)
theorem ScriptBackCard_holds : Rows.ScriptBackCardSaid :=
  Claim7.holds_tied_plain_at .later [] [.data, .data, .data, .sentinel, .sentinel] true (true, "183d0548c8f49a76015b0f37adf11643287768e03ae92bc7b30366bc708bf704") true ScriptBack_holds (fun _ h => by cases h) (by kernel_rfl) (fun _ h => by cases h) scriptBack_row_tie rfl ⟨rfl, rfl⟩ (by kernel_rfl) rfl
    (fun f fn hf hfn => by
      obtain rfl : f = 4 := Option.some.inj ((show Tryd.prog.funcNamed "matchguard/matchguardlaw33.ScriptBack" = some 4 by kernel_rfl).symm.trans hf) |>.symm
      obtain rfl : fn = Tryd.f4 := (Option.some.inj (Tryd.func4.symm.trans hfn)).symm
      exact ⟨by kernel_rfl, fun j t ht => by
        rw [Tryd.params4] at ht
        have hm : t ∈ [22, 9] := by simpa using Array.mem_of_getElem? ht
        have hall : ([22, 9].all fun u => !Tryd.prog.wantsStandIn u) = true := by kernel_rfl
        exact (show Tryd.prog.wantsStandIn t = false by simpa using List.all_eq_true.1 hall t hm)⟩)
    (by kernel_rfl)
end Go.Proofs.YtcglmhpembonmaaDoor

