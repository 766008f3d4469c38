/-
  ShadowBudget holds for every input: the call returns true and each argument reads afterwards as it read before. Conditions: none.
-/
import Derived.Test.YtodajdohokmjnaaGvX
import Derived.Test.YtodajdohokmjnaaBud
import Derived.Test.YtodajdohokmjnaaDc7
import Derived.ProofKit
import Derived.OpenShut
namespace Go.Proofs.Ytodajdohokmjnaa
open Go Gv Go.ChangeShapes Go.WideShapes Go.ChangeAt Go.RowKit
set_option linter.unusedVariables false
set_option maxRecDepth 100000
theorem arg5 : Arg Try.prog 5 (BitVec 8) := Arg.u8 Try.underlying5 (by kernel_rfl)
theorem argT22 : ArgT Try.prog 22 (List (BitVec 8)) := ArgT.sli Try.underlying22 arg5 (by kernel_rfl)
theorem arg3 : Arg Try.prog 3 Int := Arg.int Try.underlying3 (by kernel_rfl)
theorem argT3 : ArgT Try.prog 3 Int := .of arg3

theorem ownShadowBudget : ownKnob Try.prog.godebug = none := by kernel_rfl
theorem laidShadowBudget : laidOutB Try.prog = true := by kernel_rfl
theorem readsShadowBudget : ∀ t ∈ Try.f8.params.toList, Try.prog.readableRec t = true ∧ t < Try.prog.types.size := by
  rw [Try.params8]
  intro t ht
  simp only [List.mem_cons, List.not_mem_nil, or_false] at ht
  rcases ht with rfl | rfl <;> exact ⟨by kernel_rfl, of_decide_eq_true (by kernel_rfl)⟩
set_option maxHeartbeats 1600000 in
theorem ShadowBudget_lifted (os : Os) (started : os.Started) (H : Type) (enc : TypeId × Value → H) :
    ReturnsInHanded {} Try.checked os 8 .any (Rows.shadowBudgetSpec.pre6 enc Try.prog Try.f8 Rows.shadowBudgetRow.domain false) (Rows.shadowBudgetSpec.post enc Try.prog Try.f8 false true false false) := by
  refine returnsInHanded_of_change (C := Try.checked) ownShadowBudget started (by kernel_rfl) Try.func8
    (ChangeSpec.witness6 (enc := enc) (C := Try.checked) false ⟨#[], #[.slice none 0 0, .int .i64 0], []⟩ 8 (by kernel_rfl) (by kernel_rfl) (by kernel_rfl) (by kernel_rfl)) ?_
  intro W base args ds gs before hval0 hW hcnd _
  have hval : ∀ (j : Nat) t v, Try.f8.params[j]? = some t → args[j]? = some v → Value.okWide Try.prog W .any base t v := hval0
  have hW' : DataW.Whole enc Try.prog Try.f8.params.toList Rows.shadowBudgetSpec.vars false W args.toList ds gs before := hW
  obtain ⟨p, q, hA0, hV, hpq, hfz, hnd⟩ := hW
  have hA : DataW.TrodAll enc Try.prog W 0 (fun _ => true) true [22, 3] args.toList ds p := hA0
  have hok : ∀ (j : Nat) u v, [22, 3][j]? = some u → args.toList[j]? = some v → Value.okWide Try.prog W .any base u v := fun j u v h1 h2 => hval j u v (by rw [Try.params8]; simpa using h1) (by simpa using h2)
  obtain ⟨x0, v0, vs0, ds0, ps0, d0, e0, g0, h0, hA, hok⟩ := args_consT argT22 hA hok
  obtain ⟨x1, v1, vs1, ds1, ps1, d1, e1, g1, h1, hA, hok⟩ := args_consT argT3 hA hok
  obtain ⟨e2, g2, _⟩ := trodAll_nil hA
  subst e2 g2
  subst e1
  obtain rfl : args = #[v0, v1] := by cases args; simpa using e0
  subst g1
  subst g0
  have hcall := C_law27_ShadowBudget (budget_ok x0 x1) [] W [v0, v1] (by simp) (.cons h0 (.cons h1 (.nil)))
  refine hcall.mono fun e W' ⟨v, he, hF, hv⟩ => ?_
  rw [of_bool] at hv
  subst hv
  exact ⟨_, he, post_law laidShadowBudget readsShadowBudget rfl Try.underlying4 rfl rfl hW' hF⟩

theorem ShadowBudget_holds : Rows.ShadowBudgetSaid :=
  OpenClaim.holds_of_wide 8 Try.f8 rfl rfl rfl rfl rfl rfl rfl ⟨rfl, rfl, rfl, rfl, rfl⟩ rfl rfl rfl rfl rfl (by kernel_rfl) Try.func8 (by kernel_rfl)
    (of_decide_eq_true (by kernel_rfl)) (by unfold Func.isWrapper; first | (rw [if_pos (by decide +kernel)]; kernel_rfl) | (rw [if_neg (by decide +kernel)]; exact ⟨rfl, rfl⟩))
    (fun os started H enc _ => ShadowBudget_lifted os started H enc)
end Go.Proofs.Ytodajdohokmjnaa
