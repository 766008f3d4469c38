/-
  IndexNone holds for every input: the call returns true and each argument reads afterwards as it read before. Conditions: none.
-/
import Derived.ProofKit
import Derived.OpenShut
import Derived.Test.YtmnggbjcnoffeaaGreatKl0
import Derived.Test.YtmnggbjcnoffeaaGreatKl2
import Derived.Test.YtmnggbjcnoffeaaGreatKp0
import Derived.Test.YtmnggbjcnoffeaaGreatKc6
namespace Go.Proofs.YtmnggbjcnoffeaaGreat
open Go Gv Go.ChangeShapes Go.WideShapes Go.ChangeAt Go.RowKit
set_option linter.unusedVariables false
set_option maxRecDepth 100000
theorem arg5 : Arg Tryz.prog 5 (BitVec 8) := Arg.u8 Tryz.underlying5 (by kernel_rfl)
theorem argT22 : ArgT Tryz.prog 22 (List (BitVec 8)) := ArgT.sli Tryz.underlying22 arg5 (by kernel_rfl)
theorem arg3 : Arg Tryz.prog 3 Int := Arg.int Tryz.underlying3 (by kernel_rfl)
theorem argT3 : ArgT Tryz.prog 3 Int := .of arg3
theorem arg4 : Arg Tryz.prog 4 Bool := Arg.bool Tryz.underlying4 (by kernel_rfl)
theorem arg41 : Arg Tryz.prog 41 (BitVec 64) := Arg.u64 Tryz.underlying41 (by kernel_rfl)
theorem arg43 : Arg Tryz.prog 43 T_api_Value where
  cells := by kernel_rfl
  read h := by
    obtain ⟨xs, n, _, _, hl, hlen, hf⟩ := DataW.trod_struct Tryz.underlying43 h
    obtain ⟨a0, h0⟩ := fld_read 0 arg41 rfl hlen hf
    obtain ⟨a1, h1⟩ := fld_read 1 arg41 rfl hlen hf
    exact ⟨{ f_Hi := a0, f_Lo := a1 }, hl.trans (by kernel_rfl), h0, h1⟩
  form h := agg_form (.inl ⟨_, Tryz.underlying43⟩) h
theorem arg88 : Arg Tryz.prog 88 T_api_Match where
  cells := by kernel_rfl
  read h := by
    obtain ⟨xs, n, _, _, hl, hlen, hf⟩ := DataW.trod_struct Tryz.underlying88 h
    obtain ⟨a0, h0⟩ := fld_read 0 arg4 rfl hlen hf
    obtain ⟨a1, h1⟩ := fld_read 1 arg43 rfl hlen hf
    obtain ⟨a2, h2⟩ := fld_read 2 arg43 rfl hlen hf
    obtain ⟨a3, h3⟩ := fld_read 3 arg3 rfl hlen hf
    obtain ⟨a4, h4⟩ := fld_read 4 arg43 rfl hlen hf
    exact ⟨{ f_Present := a0, f_Value := a1, f_Mask := a2, f_Prefix := a3, f_High := a4 }, hl.trans (by kernel_rfl), h0, h1, h2, h3, h4⟩
  form h := agg_form (.inl ⟨_, Tryz.underlying88⟩) h
theorem argT50 : ArgT Tryz.prog 50 T_api_Entry where
  top {H enc W n b v x} h hok := by
    obtain ⟨xs, n, _, _, hl, hlen, hf⟩ := DataW.trod_struct Tryz.underlying50 h
    obtain ⟨a0, h0⟩ := fld_read 0 arg3 rfl hlen hf
    obtain ⟨a1, h1⟩ := fld_sli (ts := [3, 47, 3, 3, 48]) 1 Tryz.underlying47 arg88 rfl (by kernel_rfl) Tryz.underlying50 (by kernel_rfl) rfl rfl hlen hl (by kernel_rfl) hf hok
    obtain ⟨a2, h2⟩ := fld_read 2 arg3 rfl hlen hf
    obtain ⟨a3, h3⟩ := fld_read 3 arg3 rfl hlen hf
    obtain ⟨a4, h4⟩ := fld_sli (ts := [3, 47, 3, 3, 48]) 4 Tryz.underlying48 arg43 rfl (by kernel_rfl) Tryz.underlying50 (by kernel_rfl) rfl rfl hlen hl (by kernel_rfl) hf hok
    exact ⟨{ f_Table := a0, f_Matches := a1, f_Priority := a2, f_Action := a3, f_Args := a4 }, agg_form (.inl ⟨_, Tryz.underlying50⟩) hok, hl.trans (by kernel_rfl), h0, h1, h2, h3, h4⟩

theorem ownIndexNone : ownKnob Tryz.prog.godebug = none := by kernel_rfl
theorem laidIndexNone : laidOutB Tryz.prog = true := by kernel_rfl
theorem readsIndexNone : ∀ t ∈ Tryz.f7.params.toList, Tryz.prog.readableRec t = true ∧ t < Tryz.prog.types.size := by
  rw [Tryz.params7]
  intro t ht
  simp only [List.mem_cons, List.not_mem_nil, or_false] at ht
  rcases ht with rfl | rfl | rfl <;> exact ⟨by kernel_rfl, of_decide_eq_true (by kernel_rfl)⟩
set_option maxHeartbeats 1600000 in
theorem IndexNone_lifted (os : Os) (started : os.Started) (H : Type) (enc : TypeId × Value → H) :
    ReturnsInHanded {} Tryz.checked os 7 .any (Rows.indexNoneSpec.pre6 enc Tryz.prog Tryz.f7 Rows.indexNoneRow.domain false) (Rows.indexNoneSpec.post enc Tryz.prog Tryz.f7 false true false false) := by
  refine returnsInHanded_of_change (C := Tryz.checked) ownIndexNone started (by kernel_rfl) Tryz.func7
    (ChangeSpec.witness6 (enc := enc) (C := Tryz.checked) false ⟨#[], #[.slice none 0 0, .int .i64 0, .agg #[.int .i64 0, .slice none 0 0, .int .i64 0, .int .i64 0, .slice none 0 0]], []⟩ 8 (by kernel_rfl) (by kernel_rfl) (by kernel_rfl) (by kernel_rfl)) ?_
  intro W base args ds gs before hval0 hW hcnd _
  have hval : ∀ (j : Nat) t v, Tryz.f7.params[j]? = some t → args[j]? = some v → Value.okWide Tryz.prog W .any base t v := hval0
  have hW' : DataW.Whole enc Tryz.prog Tryz.f7.params.toList Rows.indexNoneSpec.vars false W args.toList ds gs before := hW
  obtain ⟨p, q, hA0, hV, hpq, hfz, hnd⟩ := hW
  have hA : DataW.TrodAll enc Tryz.prog W 0 (fun _ => true) true [22, 3, 50] args.toList ds p := hA0
  have hok : ∀ (j : Nat) u v, [22, 3, 50][j]? = some u → args.toList[j]? = some v → Value.okWide Tryz.prog W .any base u v := fun j u v h1 h2 => hval j u v (by rw [Tryz.params7]; simpa using h1) (by simpa using h2)
  obtain ⟨x0, v0, vs0, ds0, ps0, d0, e0, g0, h0, hA, hok⟩ := args_consT argT22 hA hok
  obtain ⟨x1, v1, vs1, ds1, ps1, d1, e1, g1, h1, hA, hok⟩ := args_consT argT3 hA hok
  obtain ⟨x2, v2, vs2, ds2, ps2, d2, e2, g2, h2, hA, hok⟩ := args_consT argT50 hA hok
  obtain ⟨e3, g3, _⟩ := trodAll_nil hA
  subst e3 g3
  subst e2
  subst e1
  obtain rfl : args = #[v0, v1, v2] := by cases args; simpa using e0
  subst g2
  subst g1
  subst g0
  have hcall := (MeetsO.law (C_law14_IndexNone (indexNone_ok x0 x1 x2)) fun _ h => h) [] W [v0, v1, v2] (by simp) (.cons h0 (.cons h1 (.cons h2 (.nil))))
  refine hcall.mono fun e W' ⟨v, he, hF, hv⟩ => ?_
  rw [of_bool] at hv
  subst hv
  exact ⟨_, he, post_law laidIndexNone readsIndexNone rfl Tryz.underlying4 rfl rfl hW' hF⟩

theorem inpIndexNone : (Rows.indexNoneRow.inPlace == Tryz.prog.inPlace 7) = true := by kernel_rfl
theorem unfIndexNone : (Rows.indexNoneRow.unfollowed == Tryz.prog.unfollowed 7) = true := by kernel_rfl
theorem recIndexNone : (Rows.indexNoneRow.recurses == Tryz.prog.recurses 7) = true := by kernel_rfl
theorem namIndexNone : (Rows.indexNoneRow.named == Tryz.prog.varsNamed 7) = true := by kernel_rfl
theorem joinedIndexNone : joinedFacts Tryz.prog 7 Tryz.f7 Rows.indexNoneSpec Rows.indexNoneRow = true := by
  unfold joinedFacts
  rw [inpIndexNone, unfIndexNone, recIndexNone, namIndexNone]
  kernel_rfl
theorem IndexNone_holds : Rows.IndexNoneSaid :=
  OpenClaim.holds_of_wide 7 Tryz.f7 rfl rfl rfl rfl rfl rfl rfl ⟨rfl, rfl, rfl, rfl, rfl⟩ rfl rfl rfl rfl rfl (by kernel_rfl) Tryz.func7 joinedIndexNone
    (of_decide_eq_true (by kernel_rfl)) (by unfold Func.isWrapper; first | (rw [if_pos (by decide +kernel)]; kernel_rfl) | (rw [if_neg (by decide +kernel)]; exact ⟨rfl, rfl⟩))
    (fun os started H enc _ => IndexNone_lifted os started H enc)
end Go.Proofs.YtmnggbjcnoffeaaGreat

