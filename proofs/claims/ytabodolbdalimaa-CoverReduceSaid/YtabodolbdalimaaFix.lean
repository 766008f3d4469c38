/-
  The law CubeFixes, in plain Lean. Conditions: none.
-/
import Derived.Test.YtabodolbdalimaaVam
namespace Go.Proofs.Ytabodolbdalimaa
open Go Gv
set_option linter.unusedVariables false
set_option linter.unusedSimpArgs false
set_option maxRecDepth 100000

theorem begun_ok : L_law25_begun = some true := by kernel_rfl

theorem cell_eq_two {val mask : Vector T_api_Value 4} {i : Nat} : (cell val mask i == 2#8) = !cv mask i := by
  unfold cell
  cases cv mask i
  · simp
  · cases cv val i <;> simp

theorem fixes_ok (x0 x1 : Vector T_api_Value 4) (x2 : Int) (x3 : Bool) : L_law25_CubeFixes x0 x1 x2 x3 = some true := by
  suffices h : Tot (L_law25_CubeFixes x0 x1 x2 x3) (fun r => r = true) by
    obtain ⟨r, h1, h2⟩ := h
    rw [h1, h2]
  unfold L_law25_CubeFixes
  refine (canonical_eq _).bind fun y1 hy1 => (Mod_eq _ _).bind fun y2 _ => ?_
  obtain ⟨hm1, hv1⟩ := hy1
  simp only at hm1 hv1
  refine Tot.loop 7 (fun k s => s = k) (by omega) rfl (fun k s hk hi => ?_) (fun s hi => ?_)
  · subst hi
    refine Tot.cond (fun _ => ?_) (fun h => by simp at h; omega)
    refine .idx rfl hk ?_
    generalize lget [x2, y2, 0, 127, 128, 511, 512] k = p
    refine (bits_eq y1).bind fun y3 hy3 => ?_
    by_cases hp : 0 ≤ p ∧ p < 512
    · obtain ⟨n, rfl⟩ := Int.eq_ofNat_of_zero_le hp.1
      have hn : n < 512 := by omega
      have hz : (decide ((n : Int) ≥ 0) && decide ((n : Int) < 512)) = true := by simp; omega
      refine (Fix_eq y1 n hn x3).bind fun y4 hy4 => (bits_eq y4).bind fun y5 hy5 => .eq rfl ?_
      rw [hz]
      refine .condM (P := fun q => q = n) (fun _ => ⟨n, idx_nat hn, rfl⟩) fun k2 hk2 => ?_
      have hk2 := hk2 rfl
      subst hk2
      refine .bind (P := fun w => w = y5) (.cond (fun h => ?_) (fun h => ?_)) fun w hw => ?_
      · rw [Bool.true_and, hy3 _ hn, cell_eq_two, hm1] at h
        have hmf : cv x1 k2 = false := by simpa using h
        have h5 := hy4.2 (by rw [hm1]; exact hmf)
        refine .idx rfl hn (.bind (P := fun w => w = y5) (.cond (fun hb => .idx rfl hn (.ret ?_)) (fun hb => .ret ?_)) fun w hw => .ret hw)
        · refine vget_ext fun j hj => ?_
          rw [vget_vset _ _ hn, vget_vset _ _ hn, hy5 j hj, hy3 j hj]
          unfold cell
          rw [h5.1 j hj, h5.2 j hj, hb]
          by_cases hjn : j = k2
          · simp [hjn]
          · simp [hjn]
        · refine vget_ext fun j hj => ?_
          rw [vget_vset _ _ hn, hy5 j hj, hy3 j hj]
          unfold cell
          rw [h5.1 j hj, h5.2 j hj, hb]
          by_cases hjn : j = k2
          · have := hv1 k2 hn
            rw [hmf, Bool.and_false] at this
            simp [hjn, this]
          · simp [hjn]
      · rw [Bool.true_and, hy3 _ hn, cell_eq_two] at h
        have hc := hy4.1 (by simpa using h)
        refine .ret (vget_ext fun j hj => ?_)
        rw [hy3 j hj, hy5 j hj, hc]
      · subst hw
        refine .cond (fun h => by simp at h) (fun _ => .ret (w64_succ (by omega)))
    · have hz : (decide (p ≥ 0) && decide (p < 512)) = false := by simp; omega
      refine .eq (Fix_out y1 p x3 (by omega)) ((bits_eq y1).bind fun y5 hy5 => .eq rfl ?_)
      rw [hz]
      refine .condM (P := fun q => True) (fun h => by cases h) fun k2 _ => ?_
      refine .bind (P := fun w => w = y5) (.cond (fun h => by simp at h) (fun h => .ret (vget_ext fun j hj => ?_))) fun w hw => ?_
      · rw [hy3 j hj, hy5 j hj]
      · subst hw
        refine .cond (fun h => by simp at h) (fun _ => .ret (w64_succ (by omega)))
  · subst hi
    refine ⟨_, rfl, ?_⟩
    exact .eq begun_ok (.ret rfl)
end Go.Proofs.Ytabodolbdalimaa
