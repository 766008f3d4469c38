/-
  ScriptTexts holds for every input: the call returns true and each argument reads afterwards as it read before; its card. Conditions: none.
-/
import Derived.Test.YtcglmhpembonmaaDoorTie
import Derived.Test.YtcglmhpembonmaaDoorCards
import Derived.SevenTiedAt
import Derived.Test.YtcglmhpembonmaaDoorJp0
import Derived.Test.YtcglmhpembonmaaDoorJc0
namespace Go.Proofs.YtcglmhpembonmaaDoor
open Go Gv Go.ChangeShapes Go.WideShapes Go.ChangeAt Go.RowKit
set_option linter.unusedVariables false
set_option maxRecDepth 100000
theorem readsScriptTexts : ∀ t ∈ Tryd.f3.params.toList, Tryd.prog.readableRec t = true ∧ t < Tryd.prog.types.size := by
  rw [Tryd.params3]
  intro t ht
  simp only [List.mem_cons, List.not_mem_nil, or_false] at ht
  rcases ht with rfl | rfl | rfl | rfl <;> exact ⟨by kernel_rfl, of_decide_eq_true (by kernel_rfl)⟩
set_option maxHeartbeats 1600000 in
theorem ScriptTexts_lifted (os : Os) (started : os.Started) (H : Type) (enc : TypeId × Value → H) :
    ReturnsInHanded {} Tryd.checked os 3 .any (fun w args => (Rows.scriptTextsSpec.pre enc Tryd.prog Tryd.f3 Rows.scriptTextsRow.domain false w args ∧ laidMetH Tryd.prog theLaid w) ∧ sizedMet enc Tryd.prog Tryd.f3 (OpenSpec.ofChange Rows.scriptTextsSpec) false w args)
      (Rows.scriptTextsSpec.post enc Tryd.prog Tryd.f3 false true false false) := by
  refine handed_shaped (C := Tryd.checked) (X := fun w _ => laidMetH Tryd.prog theLaid w) (fun _ _ _ hh h => h.of_heap hh) ownK started (by kernel_rfl) Tryd.func3
    (ChangeSpec.witness_shaped (enc := enc) (C := Tryd.checked) (os := os) (X := fun w _ => laidMetH Tryd.prog theLaid w) false (World.laidAll Tryd.prog os theLaid) #[.slice none 0 0, .string ⟨#[]⟩, .int .i64 0, .int .u8 0] 8 (World.laidAll_os _ _ _)
      (World.shaped_of_ZipB (by kernel_rfl) (by kernel_rfl)) (by kernel_rfl) (by kernel_rfl) (by kernel_rfl)
      (by rw [MakeChecks.laidMetH_plain _ _ _ (by kernel_rfl)]; exact laidMet_laidAll _ (by kernel_rfl) (by kernel_rfl))) ?_
  intro W base args ds gs before hsh hval0 hW hL0
  have hL : laidMetH Tryd.prog theLaid W := hL0
  have hval : ∀ (j : Nat) t v, Tryd.f3.params[j]? = some t → args[j]? = some v → Value.okWide Tryd.prog W .any base t v := hval0
  have hW' : DataW.Whole enc Tryd.prog Tryd.f3.params.toList Rows.scriptTextsSpec.vars false W args.toList ds gs before := hW
  have hG : G0.is W := ground hL hsh
  obtain ⟨p, q, hA0, hV, hpq, hfz, hnd⟩ := hW
  have hA : DataW.TrodAll enc Tryd.prog W 0 (fun _ => true) true [22, 9, 3, 5] args.toList ds p := hA0
  have hok : ∀ (j : Nat) u v, [22, 9, 3, 5][j]? = some u → args.toList[j]? = some v → Value.okWide Tryd.prog W .any base u v := fun j u v h1 h2 => hval j u v (by rw [Tryd.params3]; simpa using h1) (by simpa using h2)
  obtain ⟨x0, v0, vs0, ds0, ps0, d0, e0, g0, ⟨h0, k0⟩, hA, hok⟩ := args_consR argL hA hok
  obtain ⟨x1, v1, vs1, ds1, ps1, d1, e1, g1, ⟨h1, k1⟩, hA, hok⟩ := args_consR (.of argS) hA hok
  obtain ⟨x2, v2, vs2, ds2, ps2, d2, e2, g2, ⟨h2, k2⟩, hA, hok⟩ := args_consR argI hA hok
  obtain ⟨x3, v3, vs3, ds3, ps3, d3, e3, g3, ⟨h3, k3⟩, hA, hok⟩ := args_consR (.of argB) hA hok
  obtain ⟨e4d, g4d, _⟩ := trodAll_nil hA
  subst e4d g4d
  subst e3
  subst e2
  subst e1
  obtain rfl : args = #[v0, v1, v2, v3] := by cases args; simpa using e0
  subst g3
  subst g2
  subst g1
  subst g0
  have hcall := C_law33_ScriptTexts (texts_ok k0) [] W [v0, v1, v2, v3] hG (by simp) (.cons h0 (.cons h1 (.cons h2 (.cons h3 (.nil)))))
  refine hcall.mono fun e W' ⟨v, he, hF, hv⟩ => ?_
  rw [of_bool] at hv
  subst hv
  exact ⟨_, he, post_law lobK readsScriptTexts rfl Tryd.underlying4 rfl rfl hW' hF⟩

theorem inpScriptTexts : (Rows.scriptTextsRow.inPlace == Tryd.prog.inPlace 3) = true := by kernel_rfl
theorem unfScriptTexts : (Rows.scriptTextsRow.unfollowed == Tryd.prog.unfollowed 3) = true := by kernel_rfl
theorem recScriptTexts : (Rows.scriptTextsRow.recurses == Tryd.prog.recurses 3) = true := by kernel_rfl
theorem namScriptTexts : (Rows.scriptTextsRow.named == Tryd.prog.varsNamed 3) = true := by kernel_rfl
theorem plkScriptTexts : (Rows.scriptTextsRow.plainKeys == Tryd.prog.plainKeys) = true := by kernel_rfl
theorem lfdScriptTexts : (Rows.scriptTextsRow.lifted == Tryd.prog.liftsFinal) = true := by kernel_rfl
theorem joinedScriptTexts : joinedFacts Tryd.prog 3 Tryd.f3 Rows.scriptTextsSpec Rows.scriptTextsRow = true := by
  unfold joinedFacts
  rw [inpScriptTexts, unfScriptTexts, recScriptTexts, namScriptTexts, lobK, mprK, shdK, myeK, plkScriptTexts, lfdScriptTexts]
  kernel_rfl
theorem ScriptTexts_holds : Rows.ScriptTextsSaid :=
  OpenClaim.holds_of_wide 3 Tryd.f3 rfl rfl rfl rfl rfl rfl rfl ⟨rfl, rfl, rfl, rfl, rfl⟩ rfl rfl rfl rfl rfl (by kernel_rfl) Tryd.func3 joinedScriptTexts
    (of_decide_eq_true (by kernel_rfl)) (by unfold Func.isWrapper; first | (rw [if_pos (by decide +kernel)]; kernel_rfl) | (rw [if_neg (by decide +kernel)]; exact ⟨rfl, rfl⟩))
    (fun os started H enc _ => ScriptTexts_lifted os started H enc)
theorem ScriptTextsCard_holds : Rows.ScriptTextsCardSaid :=
  Claim7.holds_tied_plain_at .later [] [.data, .data, .data, .sentinel, .sentinel] true (true, "183d0548c8f49a76015b0f37adf11643287768e03ae92bc7b30366bc708bf704") true ScriptTexts_holds (fun _ h => by cases h) (by kernel_rfl) (fun _ h => by cases h) scriptTexts_row_tie rfl ⟨rfl, rfl⟩ (by kernel_rfl) rfl
    (fun f fn hf hfn => by
      obtain rfl : f = 3 := Option.some.inj ((show Tryd.prog.funcNamed "matchguard/matchguardlaw33.ScriptTexts" = some 3 by kernel_rfl).symm.trans hf) |>.symm
      obtain rfl : fn = Tryd.f3 := (Option.some.inj (Tryd.func3.symm.trans hfn)).symm
      exact ⟨by kernel_rfl, fun j t ht => by
        rw [Tryd.params3] at ht
        have hm : t ∈ [22, 9, 3, 5] := by simpa using Array.mem_of_getElem? ht
        have hall : ([22, 9, 3, 5].all fun u => !Tryd.prog.wantsStandIn u) = true := by kernel_rfl
        exact (show Tryd.prog.wantsStandIn t = false by simpa using List.all_eq_true.1 hall t hm)⟩)
    (by kernel_rfl)
end Go.Proofs.YtcglmhpembonmaaDoor

