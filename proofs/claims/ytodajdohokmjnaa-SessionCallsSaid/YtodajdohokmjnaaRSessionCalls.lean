/-
  SessionCalls holds for every input: the call returns true and each argument reads afterwards as it read before. Conditions: none.
-/
import Derived.Test.YtodajdohokmjnaaGvX
import Derived.Test.YtodajdohokmjnaaSec
import Derived.Test.YtodajdohokmjnaaDc17
import Derived.ProofKit
import Derived.OpenShut
namespace Go.Proofs.Ytodajdohokmjnaa
open Go Gv Go.ChangeShapes Go.WideShapes Go.ChangeAt Go.RowKit
set_option linter.unusedVariables false
set_option maxRecDepth 100000
theorem arg5 : Arg Try.prog 5 (BitVec 8) := Arg.u8 Try.underlying5 (by kernel_rfl)
theorem argT22 : ArgT Try.prog 22 (List (BitVec 8)) := ArgT.sli Try.underlying22 arg5 (by kernel_rfl)
theorem arg3 : Arg Try.prog 3 Int := Arg.int Try.underlying3 (by kernel_rfl)
theorem arg45 : Arg Try.prog 45 (BitVec 64) := Arg.u64 Try.underlying45 (by kernel_rfl)
theorem arg47 : Arg Try.prog 47 T_api_Value where
  cells := by kernel_rfl
  read h := by
    obtain ⟨xs, n, _, _, hl, hlen, hf⟩ := DataW.trod_struct Try.underlying47 h
    obtain ⟨a0, h0⟩ := fld_read 0 arg45 rfl hlen hf
    obtain ⟨a1, h1⟩ := fld_read 1 arg45 rfl hlen hf
    exact ⟨{ f_Hi := a0, f_Lo := a1 }, hl.trans (by kernel_rfl), h0, h1⟩
  form h := agg_form (.inl ⟨_, Try.underlying47⟩) h
theorem arg49 : Arg Try.prog 49 T_law20_Op where
  cells := by kernel_rfl
  read h := by
    obtain ⟨xs, n, _, _, hl, hlen, hf⟩ := DataW.trod_struct Try.underlying49 h
    obtain ⟨a0, h0⟩ := fld_read 0 arg5 rfl hlen hf
    obtain ⟨a1, h1⟩ := fld_read 1 arg5 rfl hlen hf
    obtain ⟨a2, h2⟩ := fld_read 2 arg3 rfl hlen hf
    obtain ⟨a3, h3⟩ := fld_read 3 arg3 rfl hlen hf
    obtain ⟨a4, h4⟩ := fld_read 4 arg47 rfl hlen hf
    exact ⟨{ f_Kind := a0, f_Raw := a1, f_Controller := a2, f_Role := a3, f_Election := a4 }, hl.trans (by kernel_rfl), h0, h1, h2, h3, h4⟩
  form h := agg_form (.inl ⟨_, Try.underlying49⟩) h
theorem argT23 : ArgT Try.prog 23 (List T_law20_Op) := ArgT.sli Try.underlying23 arg49 (by kernel_rfl)

theorem ownSessionCalls : ownKnob Try.prog.godebug = none := by kernel_rfl
theorem laidSessionCalls : laidOutB Try.prog = true := by kernel_rfl
theorem readsSessionCalls : ∀ t ∈ Try.f3.params.toList, Try.prog.readableRec t = true ∧ t < Try.prog.types.size := by
  rw [Try.params3]
  intro t ht
  simp only [List.mem_cons, List.not_mem_nil, or_false] at ht
  rcases ht with rfl | rfl <;> exact ⟨by kernel_rfl, of_decide_eq_true (by kernel_rfl)⟩
set_option maxHeartbeats 1600000 in
theorem SessionCalls_lifted (os : Os) (started : os.Started) (H : Type) (enc : TypeId × Value → H) :
    ReturnsInHanded {} Try.checked os 3 .any (Rows.sessionCallsSpec.pre6 enc Try.prog Try.f3 Rows.sessionCallsRow.domain false) (Rows.sessionCallsSpec.post enc Try.prog Try.f3 false true false false) := by
  refine returnsInHanded_of_change (C := Try.checked) ownSessionCalls started (by kernel_rfl) Try.func3
    (ChangeSpec.witness6 (enc := enc) (C := Try.checked) false ⟨#[], #[.slice none 0 0, .slice none 0 0], []⟩ 8 (by kernel_rfl) (by kernel_rfl) (by kernel_rfl) (by kernel_rfl)) ?_
  intro W base args ds gs before hval0 hW hcnd _
  have hval : ∀ (j : Nat) t v, Try.f3.params[j]? = some t → args[j]? = some v → Value.okWide Try.prog W .any base t v := hval0
  have hW' : DataW.Whole enc Try.prog Try.f3.params.toList Rows.sessionCallsSpec.vars false W args.toList ds gs before := hW
  obtain ⟨p, q, hA0, hV, hpq, hfz, hnd⟩ := hW
  have hA : DataW.TrodAll enc Try.prog W 0 (fun _ => true) true [22, 23] args.toList ds p := hA0
  have hok : ∀ (j : Nat) u v, [22, 23][j]? = some u → args.toList[j]? = some v → Value.okWide Try.prog W .any base u v := fun j u v h1 h2 => hval j u v (by rw [Try.params3]; simpa using h1) (by simpa using h2)
  obtain ⟨x0, v0, vs0, ds0, ps0, d0, e0, g0, h0, hA, hok⟩ := args_consT argT22 hA hok
  obtain ⟨x1, v1, vs1, ds1, ps1, d1, e1, g1, h1, hA, hok⟩ := args_consT argT23 hA hok
  obtain ⟨e2, g2, _⟩ := trodAll_nil hA
  subst e2 g2
  subst e1
  obtain rfl : args = #[v0, v1] := by cases args; simpa using e0
  subst g1
  subst g0
  have hcall := C_law20_SessionCalls (SessionCalls_plain x0 x1) [] W [v0, v1] (by simp) (.cons h0 (.cons h1 (.nil)))
  refine hcall.mono fun e W' ⟨v, he, hF, hv⟩ => ?_
  rw [of_bool] at hv
  subst hv
  exact ⟨_, he, post_law laidSessionCalls readsSessionCalls rfl Try.underlying4 rfl rfl hW' hF⟩

theorem SessionCalls_holds : Rows.SessionCallsSaid :=
  OpenClaim.holds_of_wide 3 Try.f3 rfl rfl rfl rfl rfl rfl rfl ⟨rfl, rfl, rfl, rfl, rfl⟩ rfl rfl rfl rfl rfl (by kernel_rfl) Try.func3 (by kernel_rfl)
    (of_decide_eq_true (by kernel_rfl)) (by unfold Func.isWrapper; first | (rw [if_pos (by decide +kernel)]; kernel_rfl) | (rw [if_neg (by decide +kernel)]; exact ⟨rfl, rfl⟩))
    (fun os started H enc _ => SessionCalls_lifted os started H enc)
end Go.Proofs.Ytodajdohokmjnaa
