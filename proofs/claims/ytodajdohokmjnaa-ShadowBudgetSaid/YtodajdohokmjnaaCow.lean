/-
  The laws CoverDecides, CoverParts, CoverPoints. Plain Lean. Conditions: none.
-/
import Derived.Test.YtodajdohokmjnaaCor
namespace Go.Proofs.Ytodajdohokmjnaa
open Go Gv
set_option linter.unusedVariables false
set_option linter.unusedSimpArgs false
set_option maxRecDepth 100000

theorem word_sub (a b : BitVec 16) (s t : Nat) : (((a &&& b).setWidth 64 >>> s) &&& 3#64) <<< t &&& ((a.setWidth 64 >>> s) &&& 3#64) <<< t = (((a &&& b).setWidth 64 >>> s) &&& 3#64) <<< t := by
  apply BitVec.eq_of_getLsbD_eq
  intro i hi
  simp only [BitVec.getLsbD_and, BitVec.getLsbD_shiftLeft, BitVec.getLsbD_ushiftRight, BitVec.getLsbD_setWidth]
  cases h1 : a.getLsbD (s + (i - t)) <;> cases h2 : b.getLsbD (s + (i - t)) <;> simp

/-- canonical, word by word -/
def canW (c : T_cube_Cube) : Prop := ∀ k, k < 4 → (vget c.f_Value k).f_Hi &&& (vget c.f_Mask k).f_Hi = (vget c.f_Value k).f_Hi ∧ (vget c.f_Value k).f_Lo &&& (vget c.f_Mask k).f_Lo = (vget c.f_Value k).f_Lo
theorem canW_can {c : T_cube_Cube} (h : canW c) : can c := fun i hi hv => by
  unfold cv vb at *
  obtain ⟨h1, h2⟩ := h (i / 128) (by omega)
  split at hv
  · rename_i hlt
    rw [if_pos hlt]
    rw [← h2, BitVec.getLsbD_and, Bool.and_eq_true] at hv; exact hv.2
  · rename_i hlt
    rw [if_neg hlt]
    rw [← h1, BitVec.getLsbD_and, Bool.and_eq_true] at hv; exact hv.2

theorem can_app {l : List T_cube_Cube} (h : ∀ c ∈ l, can c) : ∀ c ∈ l ++ [default], can c := fun c hc => by
  simp at hc
  rcases hc with hc | hc
  · exact h c hc
  · subst hc; exact can_default
theorem app_ok (l : List T_cube_Cube) (h : l.length ≤ 100) : appM 128 l [default] = some (l ++ [default]) := by
  unfold appM; rw [if_pos]; unfold maxLen; simp only [List.length_cons, List.length_nil]; omega

theorem Covered_small (c : T_cube_Cube) (l : List T_cube_Cube) (hc : can c) (hl : ∀ x ∈ l, can x) (hlen : l.length ≤ 16) : Tot (L_cover_Covered c l) (fun r => r.2 = 0 ∧ (r.1 = true ↔ cov c l)) :=
  (Covered_tot c l hc hl (by omega)).mono fun r h => by
    rw [if_neg (by have := List.length_filter_le (agB c) l; omega)] at h; exact h

theorem cov_fix {c d e : T_cube_Cube} {l : List T_cube_Cube} {k : Nat} (hc : can c) (hk : k < 512) (h0 : (cv c.f_Mask k = true → d = c) ∧ (cv c.f_Mask k = false → fixed1 c k false d)) (h1 : (cv c.f_Mask k = true → e = c) ∧ (cv c.f_Mask k = false → fixed1 c k true e)) : can d ∧ can e ∧ (cov c l ↔ cov d l ∧ cov e l) := by
  cases hm : cv c.f_Mask k
  · exact ⟨fixed1_can hc (h0.2 hm), fixed1_can hc (h1.2 hm), cov_split hc hk hm (h0.2 hm) (h1.2 hm)⟩
  · rw [h0.1 hm, h1.1 hm]; exact ⟨hc, hc, by simp⟩

end Go.Proofs.Ytodajdohokmjnaa
