/-
  OrderedOwn holds for every input: the call returns true and each argument reads afterwards as it read before. Conditions: none.
-/
import Derived.ProofKit
import Derived.OpenShut
import Derived.Test.YtmlgdkccoomiaaaJl0
import Derived.Test.YtmlgdkccoomiaaaJp0
import Derived.Test.YtmlgdkccoomiaaaJc1
namespace Go.Proofs.Ytmlgdkccoomiaaa
open Go Gv Go.ChangeShapes Go.WideShapes Go.ChangeAt Go.RowKit
set_option linter.unusedVariables false
set_option maxRecDepth 100000
theorem arg5 : Arg Try.prog 5 (BitVec 8) := Arg.u8 Try.underlying5 (by kernel_rfl)
theorem argT22 : ArgT Try.prog 22 (List (BitVec 8)) := ArgT.sli Try.underlying22 arg5 (by kernel_rfl)
theorem arg3 : Arg Try.prog 3 Int := Arg.int Try.underlying3 (by kernel_rfl)
theorem argT3 : ArgT Try.prog 3 Int := .of arg3

theorem ownOrderedOwn : ownKnob Try.prog.godebug = none := by kernel_rfl
theorem laidOrderedOwn : laidOutB Try.prog = true := by kernel_rfl
theorem readsOrderedOwn : ∀ t ∈ Try.f3.params.toList, Try.prog.readableRec t = true ∧ t < Try.prog.types.size := by
  rw [Try.params3]
  intro t ht
  simp only [List.mem_cons, List.not_mem_nil, or_false] at ht
  rcases ht with rfl | rfl | rfl <;> exact ⟨by kernel_rfl, of_decide_eq_true (by kernel_rfl)⟩
set_option maxHeartbeats 1600000 in
theorem OrderedOwn_lifted (os : Os) (started : os.Started) (H : Type) (enc : TypeId × Value → H) :
    ReturnsInHanded {} Try.checked os 3 .any (Rows.orderedOwnSpec.pre6 enc Try.prog Try.f3 Rows.orderedOwnRow.domain false) (Rows.orderedOwnSpec.post enc Try.prog Try.f3 false true false false) := by
  refine returnsInHanded_of_change (C := Try.checked) ownOrderedOwn started (by kernel_rfl) Try.func3
    (ChangeSpec.witness6 (enc := enc) (C := Try.checked) false ⟨#[], #[.slice none 0 0, .slice none 0 0, .int .i64 0], []⟩ 8 (by kernel_rfl) (by kernel_rfl) (by kernel_rfl) (by kernel_rfl)) ?_
  intro W base args ds gs before hval0 hW hcnd _
  have hval : ∀ (j : Nat) t v, Try.f3.params[j]? = some t → args[j]? = some v → Value.okWide Try.prog W .any base t v := hval0
  have hW' : DataW.Whole enc Try.prog Try.f3.params.toList Rows.orderedOwnSpec.vars false W args.toList ds gs before := hW
  obtain ⟨p, q, hA0, hV, hpq, hfz, hnd⟩ := hW
  have hA : DataW.TrodAll enc Try.prog W 0 (fun _ => true) true [22, 22, 3] args.toList ds p := hA0
  have hok : ∀ (j : Nat) u v, [22, 22, 3][j]? = some u → args.toList[j]? = some v → Value.okWide Try.prog W .any base u v := fun j u v h1 h2 => hval j u v (by rw [Try.params3]; simpa using h1) (by simpa using h2)
  obtain ⟨x0, v0, vs0, ds0, ps0, d0, e0, g0, h0, hA, hok⟩ := args_consT argT22 hA hok
  obtain ⟨x1, v1, vs1, ds1, ps1, d1, e1, g1, h1, hA, hok⟩ := args_consT argT22 hA hok
  obtain ⟨x2, v2, vs2, ds2, ps2, d2, e2, g2, h2, hA, hok⟩ := args_consT argT3 hA hok
  obtain ⟨e3, g3, _⟩ := trodAll_nil hA
  subst e3 g3
  subst e2
  subst e1
  obtain rfl : args = #[v0, v1, v2] := by cases args; simpa using e0
  subst g2
  subst g1
  subst g0
  have hcall := (C_law13_OrderedOwn (own13_ok x0 x1 x2)) [] W [v0, v1, v2] (by simp) (.cons h0 (.cons h1 (.cons h2 (.nil))))
  refine hcall.mono fun e W' ⟨v, he, hF, hv⟩ => ?_
  rw [of_bool] at hv
  subst hv
  exact ⟨_, he, post_law laidOrderedOwn readsOrderedOwn rfl Try.underlying4 rfl rfl hW' hF⟩

theorem inpOrderedOwn : (Rows.orderedOwnRow.inPlace == Try.prog.inPlace 3) = true := by kernel_rfl
theorem unfOrderedOwn : (Rows.orderedOwnRow.unfollowed == Try.prog.unfollowed 3) = true := by kernel_rfl
theorem recOrderedOwn : (Rows.orderedOwnRow.recurses == Try.prog.recurses 3) = true := by kernel_rfl
theorem namOrderedOwn : (Rows.orderedOwnRow.named == Try.prog.varsNamed 3) = true := by kernel_rfl
theorem joinedOrderedOwn : joinedFacts Try.prog 3 Try.f3 Rows.orderedOwnSpec Rows.orderedOwnRow = true := by
  unfold joinedFacts
  rw [inpOrderedOwn, unfOrderedOwn, recOrderedOwn, namOrderedOwn]
  kernel_rfl
theorem OrderedOwn_holds : Rows.OrderedOwnSaid :=
  OpenClaim.holds_of_wide 3 Try.f3 rfl rfl rfl rfl rfl rfl rfl ⟨rfl, rfl, rfl, rfl, rfl⟩ rfl rfl rfl rfl rfl (by kernel_rfl) Try.func3 joinedOrderedOwn
    (of_decide_eq_true (by kernel_rfl)) (by unfold Func.isWrapper; first | (rw [if_pos (by decide +kernel)]; kernel_rfl) | (rw [if_neg (by decide +kernel)]; exact ⟨rfl, rfl⟩))
    (fun os started H enc _ => OrderedOwn_lifted os started H enc)
end Go.Proofs.Ytmlgdkccoomiaaa

