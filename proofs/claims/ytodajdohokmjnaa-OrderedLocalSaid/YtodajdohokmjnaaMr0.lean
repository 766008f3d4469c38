/-
  OrderedLocal holds for every input: the call returns true and each argument reads afterwards as it read before. Conditions: none.
-/
import Derived.ProofKit
import Derived.OpenShut
import Derived.Test.YtodajdohokmjnaaMl0
import Derived.Test.YtodajdohokmjnaaMp0
import Derived.Test.YtodajdohokmjnaaMc4
namespace Go.Proofs.Ytodajdohokmjnaa
open Go Gv Go.ChangeShapes Go.WideShapes Go.ChangeAt Go.RowKit
set_option linter.unusedVariables false
set_option maxRecDepth 100000
theorem arg5 : Arg Try.prog 5 (BitVec 8) := Arg.u8 Try.underlying5 (by kernel_rfl)
theorem argT22 : ArgT Try.prog 22 (List (BitVec 8)) := ArgT.sli Try.underlying22 arg5 (by kernel_rfl)
theorem arg3 : Arg Try.prog 3 Int := Arg.int Try.underlying3 (by kernel_rfl)
theorem argT3 : ArgT Try.prog 3 Int := .of arg3
theorem arg45 : Arg Try.prog 45 (BitVec 64) := Arg.u64 Try.underlying45 (by kernel_rfl)
theorem arg47 : Arg Try.prog 47 T_api_Value where
  cells := by kernel_rfl
  read h := by
    obtain ⟨xs, n, _, _, hl, hlen, hf⟩ := DataW.trod_struct Try.underlying47 h
    obtain ⟨a0, h0⟩ := fld_read 0 arg45 rfl hlen hf
    obtain ⟨a1, h1⟩ := fld_read 1 arg45 rfl hlen hf
    exact ⟨{ f_Hi := a0, f_Lo := a1 }, hl.trans (by kernel_rfl), h0, h1⟩
  form h := agg_form (.inl ⟨_, Try.underlying47⟩) h
theorem arg81 : Arg Try.prog 81 (Vector T_api_Value 4) := Arg.arr Try.underlying81 arg47 (by kernel_rfl)
theorem argT81 : ArgT Try.prog 81 (Vector T_api_Value 4) := .of arg81

theorem ownOrderedLocal : ownKnob Try.prog.godebug = none := by kernel_rfl
theorem laidOrderedLocal : laidOutB Try.prog = true := by kernel_rfl
theorem readsOrderedLocal : ∀ t ∈ Try.f7.params.toList, Try.prog.readableRec t = true ∧ t < Try.prog.types.size := by
  rw [Try.params7]
  intro t ht
  simp only [List.mem_cons, List.not_mem_nil, or_false] at ht
  rcases ht with rfl | rfl | rfl | rfl <;> exact ⟨by kernel_rfl, of_decide_eq_true (by kernel_rfl)⟩
set_option maxHeartbeats 1600000 in
theorem OrderedLocal_lifted (os : Os) (started : os.Started) (H : Type) (enc : TypeId × Value → H) :
    ReturnsInHanded {} Try.checked os 7 .any (Rows.orderedLocalSpec.pre6 enc Try.prog Try.f7 Rows.orderedLocalRow.domain false) (Rows.orderedLocalSpec.post enc Try.prog Try.f7 false true false false) := by
  refine returnsInHanded_of_change (C := Try.checked) ownOrderedLocal started (by kernel_rfl) Try.func7
    (ChangeSpec.witness6 (enc := enc) (C := Try.checked) false ⟨#[], #[.slice none 0 0, .slice none 0 0, .int .i64 0, .agg #[.int .u64 0, .int .u64 0, .int .u64 0, .int .u64 0, .int .u64 0, .int .u64 0, .int .u64 0, .int .u64 0]], []⟩ 8 (by kernel_rfl) (by kernel_rfl) (by kernel_rfl) (by kernel_rfl)) ?_
  intro W base args ds gs before hval0 hW hcnd _
  have hval : ∀ (j : Nat) t v, Try.f7.params[j]? = some t → args[j]? = some v → Value.okWide Try.prog W .any base t v := hval0
  have hW' : DataW.Whole enc Try.prog Try.f7.params.toList Rows.orderedLocalSpec.vars false W args.toList ds gs before := hW
  obtain ⟨p, q, hA0, hV, hpq, hfz, hnd⟩ := hW
  have hA : DataW.TrodAll enc Try.prog W 0 (fun _ => true) true [22, 22, 3, 81] args.toList ds p := hA0
  have hok : ∀ (j : Nat) u v, [22, 22, 3, 81][j]? = some u → args.toList[j]? = some v → Value.okWide Try.prog W .any base u v := fun j u v h1 h2 => hval j u v (by rw [Try.params7]; simpa using h1) (by simpa using h2)
  obtain ⟨x0, v0, vs0, ds0, ps0, d0, e0, g0, h0, hA, hok⟩ := args_consT argT22 hA hok
  obtain ⟨x1, v1, vs1, ds1, ps1, d1, e1, g1, h1, hA, hok⟩ := args_consT argT22 hA hok
  obtain ⟨x2, v2, vs2, ds2, ps2, d2, e2, g2, h2, hA, hok⟩ := args_consT argT3 hA hok
  obtain ⟨x3, v3, vs3, ds3, ps3, d3, e3, g3, h3, hA, hok⟩ := args_consT argT81 hA hok
  obtain ⟨e4, g4, _⟩ := trodAll_nil hA
  subst e4 g4
  subst e3
  subst e2
  subst e1
  obtain rfl : args = #[v0, v1, v2, v3] := by cases args; simpa using e0
  subst g3
  subst g2
  subst g1
  subst g0
  have hcall := C_law13_OrderedLocal (local_ok x0 x1 x2 x3) [] W [v0, v1, v2, v3] (by simp) (.cons h0 (.cons h1 (.cons h2 (.cons h3 (.nil)))))
  refine hcall.mono fun e W' ⟨v, he, hF, hv⟩ => ?_
  rw [of_bool] at hv
  subst hv
  exact ⟨_, he, post_law laidOrderedLocal readsOrderedLocal rfl Try.underlying4 rfl rfl hW' hF⟩

theorem OrderedLocal_holds : Rows.OrderedLocalSaid :=
  OpenClaim.holds_of_wide 7 Try.f7 rfl rfl rfl rfl rfl rfl rfl ⟨rfl, rfl, rfl, rfl, rfl⟩ rfl rfl rfl rfl rfl (by kernel_rfl) Try.func7 (by kernel_rfl)
    (of_decide_eq_true (by kernel_rfl)) (by unfold Func.isWrapper; first | (rw [if_pos (by decide +kernel)]; kernel_rfl) | (rw [if_neg (by decide +kernel)]; exact ⟨rfl, rfl⟩))
    (fun os started H enc _ => OrderedLocal_lifted os started H enc)
end Go.Proofs.Ytodajdohokmjnaa

