/-
  The order of values: the reference compares bit by bit. Conditions: none.
-/
import Derived.Test.YtodajdohokmjnaaVal
namespace Go.Proofs.Ytodajdohokmjnaa
open Go Gv
set_option linter.unusedVariables false
set_option linter.unusedSimpArgs false
set_option maxRecDepth 100000

def vlt (a b : T_api_Value) : Bool := decide (a.f_Hi < b.f_Hi) || (a.f_Hi == b.f_Hi && decide (a.f_Lo < b.f_Lo))
theorem vlt_iff {a b : T_api_Value} : vlt a b = true ↔ a.f_Hi < b.f_Hi ∨ (a.f_Hi = b.f_Hi ∧ a.f_Lo < b.f_Lo) := by simp [vlt]
theorem vlt_irrefl (a : T_api_Value) : vlt a a = false := by simp [vlt]
theorem vlt_asymm {a b : T_api_Value} (h : vlt a b = true) : vlt b a = false := by
  rw [Bool.eq_false_iff]
  intro h2
  rw [vlt_iff] at h h2
  simp only [BitVec.lt_def, BitVec.toNat_eq] at h h2
  omega
theorem lt_testBit {x y i : Nat} (h1 : x.testBit i = false) (h2 : y.testBit i = true) (h3 : ∀ j, i < j → x.testBit j = y.testBit j) : x < y := by
  have h4 : x / 2 ^ (i + 1) = y / 2 ^ (i + 1) := Nat.eq_of_testBit_eq fun j => by
    rw [Nat.testBit_div_two_pow, Nat.testBit_div_two_pow]; exact h3 _ (by omega)
  rw [Nat.testBit_eq_decide_div_mod_eq] at h1 h2
  simp only [decide_eq_false_iff_not, decide_eq_true_eq] at h1 h2
  rw [Nat.pow_succ, ← Nat.div_div_eq_div_mul, ← Nat.div_div_eq_div_mul] at h4
  have h5 : x / 2 ^ i < y / 2 ^ i := by omega
  exact Nat.lt_of_div_lt_div h5
theorem lt_bits {x y : BitVec 64} {i : Nat} (h1 : x.getLsbD i = false) (h2 : y.getLsbD i = true) (h3 : ∀ j, i < j → j < 64 → x.getLsbD j = y.getLsbD j) : x < y := by
  rw [BitVec.lt_def]
  refine lt_testBit h1 h2 fun j hj => ?_
  by_cases hj2 : j < 64
  · exact h3 j hj hj2
  · show x.getLsbD j = y.getLsbD j
    rw [BitVec.getLsbD_of_ge _ _ (by omega), BitVec.getLsbD_of_ge _ _ (by omega)]
theorem vlt_bits {a b : T_api_Value} {i : Nat} (hi : i < 128) (h1 : vb a i = false) (h2 : vb b i = true) (h3 : ∀ j, i < j → j < 128 → vb a j = vb b j) : vlt a b = true := by
  rw [vlt_iff]
  by_cases h : i < 64
  · right
    unfold vb at h1 h2
    rw [if_pos h] at h1 h2
    constructor
    · apply BitVec.eq_of_getLsbD_eq
      intro j hj
      have := h3 (j + 64) (by omega) (by omega)
      unfold vb at this
      rw [if_neg (by omega), if_neg (by omega)] at this
      simpa using this
    · refine lt_bits h1 h2 fun j hj hj2 => ?_
      have := h3 j hj (by omega)
      unfold vb at this
      rwa [if_pos hj2, if_pos hj2] at this
  · left
    unfold vb at h1 h2
    rw [if_neg h] at h1 h2
    refine lt_bits h1 h2 fun j hj hj2 => ?_
    have := h3 (j + 64) (by omega) (by omega)
    unfold vb at this
    rw [if_neg (by omega), if_neg (by omega)] at this
    simpa using this

theorem Compare_eq (a b : T_api_Value) : Tot (L_value_Compare a b) (fun r => (r < 0 ↔ vlt a b = true) ∧ (r = 0 ↔ a = b) ∧ (-1 ≤ r ∧ r ≤ 1)) := by
  unfold L_value_Compare
  refine .cond (fun h => .ret ?_) fun h => .eq rfl (.cond (fun h2 => .ret ?_) fun h2 => .ret ?_)
  · simp only [decide_eq_true_eq] at h
    subst h
    simp [vlt_irrefl]
  · simp only [decide_eq_false_iff_not] at h
    exact ⟨⟨fun _ => h2, fun _ => by omega⟩, ⟨fun h3 => by omega, fun h3 => absurd h3 h⟩, by omega, by omega⟩
  · simp only [decide_eq_false_iff_not] at h
    have h2' : vlt a b = false := h2
    exact ⟨⟨fun h3 => by omega, fun h3 => by rw [h2'] at h3; cases h3⟩, ⟨fun h3 => by omega, fun h3 => absurd h3 h⟩, by omega, by omega⟩

theorem rCompare_eq (a b : T_api_Value) : Tot (L_ref01_Compare a b) (fun r => (r > 0 ↔ vlt b a = true) ∧ (r < 0 ↔ vlt a b = true)) := by
  unfold L_ref01_Compare
  refine (Read_eq a).bind fun x hx => (Read_eq b).bind fun y hy => ?_
  refine Tot.loop 128 (fun k s => s = 127 - (k : Int) ∧ ∀ j, 128 ≤ j + k → j < 128 → vb a j = vb b j) (by omega) ⟨rfl, fun j h1 h2 => by omega⟩ (fun k s hk hi => ?_) (fun s hi => ?_)
  · obtain ⟨rfl, e2⟩ := hi
    refine Tot.cond (fun _ => ?_) (fun h => by simp at h; omega)
    have hkk : (127 - (k : Int)) = ((127 - k : Nat) : Int) := by omega
    have h128 : 127 - k < 128 := by omega
    refine .idx hkk h128 (.idx hkk h128 ?_)
    rw [hx _ h128, hy _ h128]
    refine .cond (fun hne => .idx hkk h128 ?_) fun heq => .ret ⟨?_, fun j h1 h2 => ?_⟩
    · have heq : ∀ j, 127 - k < j → j < 128 → vb a j = vb b j := fun j h1 h2 => e2 j (by omega) h2
      rw [hy _ h128]
      refine .cond (fun hb => .ret (.ret ?_)) fun hb => .ret (.ret ?_)
      · have ha : vb a (127 - k) = false := by rw [hb] at hne; simpa using hne
        have := vlt_bits h128 ha hb heq
        exact ⟨⟨fun h => by simp at h, fun h => by rw [vlt_asymm this] at h; cases h⟩, fun _ => this, fun _ => by simp⟩
      · have ha : vb a (127 - k) = true := by rw [hb] at hne; simpa using hne
        have := vlt_bits h128 hb ha fun j h1 h2 => (heq j h1 h2).symm
        exact ⟨⟨fun _ => this, fun _ => by simp⟩, fun h => by simp at h, fun h => by rw [vlt_asymm this] at h; cases h⟩
    · rw [w64_in (by omega) (by omega)]; omega
    · by_cases hj : j = 127 - k
      · subst hj; simpa using heq
      · exact e2 j (by omega) h2
  · obtain ⟨rfl, e2⟩ := hi
    refine ⟨_, rfl, ?_⟩
    have : a = b := vb_ext fun j hj => e2 j (by omega) hj
    subst this
    refine .ret ⟨?_, ?_⟩ <;> simp [vlt_irrefl]
end Go.Proofs.Ytodajdohokmjnaa
