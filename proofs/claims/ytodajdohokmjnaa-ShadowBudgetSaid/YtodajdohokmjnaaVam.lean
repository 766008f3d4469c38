/-
  Values of 128 bits: shifts, tests of a bit, and the cube's words. Conditions: none.
-/
import Derived.Test.YtodajdohokmjnaaVal
namespace Go.Proofs.Ytodajdohokmjnaa
open Go Gv
set_option linter.unusedVariables false
set_option linter.unusedSimpArgs false

theorem w64_nat_sub {a b : Nat} (h : b ≤ a) (ha : a < 2 ^ 62) : w64 ((a : Int) - b) = ((a - b : Nat) : Int) := by
  rw [w64_in (by omega) (by omega)]; omega

theorem Right_eq (v : T_api_Value) (n : Nat) (hn : n < 2 ^ 62) : Tot (L_value_Right v n) (fun r => ∀ j, j < 128 → vb r j = vb v (j + n)) := by
  unfold L_value_Right
  refine .cond (fun h => .ret fun j hj => ?_) (fun h => .cond (fun h' => .eq rfl (.ret fun j hj => ?_)) (fun h' => .eq rfl (.eq rfl (.ret fun j hj => ?_))))
  · have : n = 0 := by simp at h; omega
    simp [this]
  · simp only [decide_eq_true_eq] at h'
    have e1 : w64 ((n : Int) - 64) = ((n - 64 : Nat) : Int) := by rw [w64_in (by omega) (by omega)]; omega
    rw [e1, cnt_nat (by omega)]
    unfold vb
    by_cases hj : j < 64
    · rw [if_pos hj, if_neg (by omega)]
      simp only [BitVec.getLsbD_ushiftRight]
      congr 1; omega
    · rw [if_neg hj, if_neg (by omega)]
      rw [show (default : T_api_Value).f_Hi = 0#64 from rfl, BitVec.getLsbD_zero, BitVec.getLsbD_of_ge _ _ (by omega)]
  · simp only [decide_eq_false_iff_not] at h h'
    have e1 : w64 (64 - (n : Int)) = ((64 - n : Nat) : Int) := by rw [w64_in (by omega) (by omega)]; omega
    rw [e1, cnt_nat (by omega), cnt_nat (by omega)]
    unfold vb
    by_cases hj : j < 64
    · rw [if_pos hj]
      simp only [BitVec.getLsbD_or, BitVec.getLsbD_ushiftRight, BitVec.getLsbD_shiftLeft]
      by_cases h3 : j + n < 64
      · rw [if_pos h3]
        have : j < 64 - n := by omega
        simp [this, Nat.add_comm]
      · rw [if_neg h3, BitVec.getLsbD_of_ge _ (n + j) (by omega)]
        have : ¬ (j < 64 - n) := by omega
        simp only [hj, this, decide_true, decide_false, Bool.true_and, Bool.not_false, Bool.false_or]
        congr 1; omega
    · rw [if_neg hj, if_neg (by omega)]
      simp only [BitVec.getLsbD_ushiftRight]
      congr 1; omega

theorem Left_eq (v : T_api_Value) (n : Nat) (hn : n < 2 ^ 62) : Tot (L_value_Left v n) (fun r => ∀ j, j < 128 → vb r j = (decide (n ≤ j) && vb v (j - n))) := by
  unfold L_value_Left
  refine .cond (fun h => .ret fun j hj => ?_) (fun h => .cond (fun h' => .eq rfl (.ret fun j hj => ?_)) (fun h' => .eq rfl (.eq rfl (.ret fun j hj => ?_))))
  · have : n = 0 := by simp at h; omega
    simp [this]
  · simp only [decide_eq_true_eq] at h'
    have e1 : w64 ((n : Int) - 64) = ((n - 64 : Nat) : Int) := by rw [w64_in (by omega) (by omega)]; omega
    rw [e1, cnt_nat (by omega)]
    unfold vb
    by_cases hj2 : j < 64
    · rw [if_pos hj2, show (default : T_api_Value).f_Lo = 0#64 from rfl, BitVec.getLsbD_zero]
      have : ¬ (n ≤ j) := by omega
      simp [this]
    · rw [if_neg hj2]
      simp only [BitVec.getLsbD_shiftLeft]
      by_cases h3 : n ≤ j
      · rw [if_pos (by omega)]
        have h4 : ¬ (j - 64 < n - 64) := by omega
        have h5 : j - 64 < 64 := by omega
        simp only [h3, h4, h5, decide_true, decide_false, Bool.true_and, Bool.not_false]
        congr 1; omega
      · have h4 : j - 64 < n - 64 := by omega
        simp [h3, h4]
  · simp only [decide_eq_false_iff_not] at h h'
    have e1 : w64 (64 - (n : Int)) = ((64 - n : Nat) : Int) := by rw [w64_in (by omega) (by omega)]; omega
    rw [e1, cnt_nat (by omega), cnt_nat (by omega)]
    unfold vb
    by_cases hj2 : j < 64
    · rw [if_pos hj2]
      simp only [BitVec.getLsbD_shiftLeft]
      by_cases h3 : n ≤ j
      · rw [if_pos (by omega)]
        have h4 : ¬ (j < n) := by omega
        simp [h3, h4, hj2]
      · have h4 : j < n := by omega
        simp [h3, h4]
    · rw [if_neg hj2]
      simp only [BitVec.getLsbD_or, BitVec.getLsbD_ushiftRight, BitVec.getLsbD_shiftLeft]
      have h3 : n ≤ j := by omega
      by_cases h4 : j - 64 < n
      · rw [if_pos (by omega)]
        simp only [h3, h4, decide_true, Bool.not_true, Bool.and_false, Bool.false_and, Bool.false_or, Bool.true_and]
        congr 1; omega
      · rw [if_neg (by omega), BitVec.getLsbD_of_ge v.f_Lo _ (by omega)]
        have h5 : j - 64 < 64 := by omega
        simp only [h3, h4, h5, decide_true, decide_false, Bool.not_false, Bool.true_and, Bool.or_false]
        congr 1; omega

theorem Bit_eq (v : T_api_Value) (i : Int) : Tot (L_value_Bit v i) (fun r => r = (decide (0 ≤ i ∧ i < 128) && vb v i.toNat)) := by
  unfold L_value_Bit
  refine .condM (P := fun r => ∀ j, j < 128 → vb r j = vb v (j + i.toNat)) (fun h => ?_) fun y hy => .eq rfl (.ret ?_)
  · simp at h
    obtain ⟨n, rfl⟩ := Int.eq_ofNat_of_zero_le h.1
    exact Right_eq v n (by omega)
  · by_cases h : 0 ≤ i ∧ i < 128
    · have h1 : (decide (i ≥ 0) && decide (i < 128)) = true := by simp; omega
      rw [h1, bit_one]
      have := hy h1 0 (by omega)
      rw [show vb y 0 = y.f_Lo.getLsbD 0 from rfl, Nat.zero_add] at this
      rw [this, decide_eq_true h]
    · have h1 : (decide (i ≥ 0) && decide (i < 128)) = false := by simp; omega
      simp [h1, h]

/-- a word of 512 bits, the first bit first -/
def cv (w : Vector T_api_Value 4) (i : Nat) : Bool := vb (vget w (i / 128)) (127 - i % 128)
theorem cv_ext {v w : Vector T_api_Value 4} (h : ∀ i, i < 512 → cv v i = cv w i) : v = w := by
  refine vget_ext fun k hk => vb_ext fun j hj => ?_
  have := h (128 * k + (127 - j)) (by omega)
  unfold cv at this
  rw [show (128 * k + (127 - j)) / 128 = k by omega, show 127 - (128 * k + (127 - j)) % 128 = j by omega] at this
  exact this

theorem place_eq (n : Nat) (hn : n < 512) : L_cube_place (n : Int) = some (((n / 128 : Nat) : Int), ((127 - n % 128 : Nat) : Int)) := by
  unfold L_cube_place divM modM
  have h1 : (n : Int).tdiv 128 = ((n / 128 : Nat) : Int) := by rw [Int.tdiv_eq_ediv_of_nonneg (by omega)]; omega
  have h2 : (n : Int).tmod 128 = ((n % 128 : Nat) : Int) := by rw [Int.tmod_eq_emod_of_nonneg (by omega)]; omega
  simp only [h1, h2, if_neg (show ¬ ((128 : Int) = 0) by omega), Option.bind_some]
  rw [w64_in (by omega) (by omega), w64_in (by omega) (by omega)]
  congr 2; omega

theorem has_eq (w : Vector T_api_Value 4) (n : Nat) (hn : n < 512) : Tot (L_cube_has w n) (fun r => r = cv w n) := by
  unfold L_cube_has
  refine .eq (place_eq n hn) (.idx rfl (show n / 128 < 4 by omega) ((Bit_eq _ _).bind fun y hy => .ret ?_))
  rw [hy]
  have : (0 : Int) ≤ ((127 - n % 128 : Nat) : Int) ∧ ((127 - n % 128 : Nat) : Int) < 128 := by omega
  simp [this, cv]

theorem Low_eq : True := trivial

theorem cv_vset (w : Vector T_api_Value 4) {n : Nat} (hn : n < 512) (x : T_api_Value) (h : ∀ j, j < 128 → vb x j = (vb (vget w (n / 128)) j || decide (j = 127 - n % 128))) (m : Nat) (hm : m < 512) :
    cv (vset w (n / 128) x) m = (cv w m || decide (m = n)) := by
  unfold cv
  rw [vget_vset _ _ (show n / 128 < 4 by omega)]
  by_cases hq : m / 128 = n / 128
  · rw [if_pos hq, h _ (by omega), hq]
    congr 1
    rw [decide_eq_decide]; omega
  · rw [if_neg hq]
    have : m ≠ n := by intro h; subst h; exact hq rfl
    simp [this]

theorem Fix_out (x : T_cube_Cube) (i : Int) (b : Bool) (h : i < 0 ∨ 512 ≤ i) : L_cube_Fix x i b = some x := by
  unfold L_cube_Fix condM
  have : (decide (i < 0) || decide (i ≥ 512)) = true := by simp; omega
  simp [this]

theorem Fix_eq (x : T_cube_Cube) (n : Nat) (hn : n < 512) (b : Bool) : Tot (L_cube_Fix x n b) (fun c =>
    (cv x.f_Mask n = true → c = x) ∧ (cv x.f_Mask n = false → (∀ m, m < 512 → cv c.f_Mask m = (cv x.f_Mask m || decide (m = n))) ∧ (∀ m, m < 512 → cv c.f_Value m = (cv x.f_Value m || (b && decide (m = n)))))) := by
  unfold L_cube_Fix
  have h0 : (decide ((n : Int) < 0) || decide ((n : Int) ≥ 512)) = false := by simp; omega
  rw [h0]
  refine .condM (P := fun r => r = cv x.f_Mask n) (fun _ => has_eq _ _ hn) fun y hy => .cond (fun h => .ret ⟨fun _ => rfl, fun h' => ?_⟩) (fun h => ?_)
  · rw [hy rfl, h'] at h; simp at h
  have hm : cv x.f_Mask n = false := by simpa [hy rfl] using h
  refine .eq (place_eq n hn) (.eq rfl ((Left_eq _ (127 - n % 128) (by omega)).bind fun y4 hy4 => ?_))
  have h4 : ∀ (w : T_api_Value) j, j < 128 → vb (bor w y4) j = (vb w j || decide (j = 127 - n % 128)) := by
    intro w j hj
    rw [vb_bor, hy4 j hj]
    congr 1
    by_cases hq : j = 127 - n % 128
    · subst hq; simp [vb]
    · by_cases hq2 : 127 - n % 128 ≤ j
      · have hz : vb { (default : T_api_Value) with f_Lo := 1#64 } (j - (127 - n % 128)) = false := by
          unfold vb
          split
          · simp only [BitVec.getLsbD_one]; simp; omega
          · rw [show (default : T_api_Value).f_Hi = 0#64 from rfl]; exact BitVec.getLsbD_zero
        rw [hz]; simp [hq]
      · simp [hq, hq2]
  have hk : n / 128 < 4 := by omega
  refine .idx rfl hk ?_
  refine .eq (or_eq _ _) ?_
  refine .idx rfl hk ?_
  refine .bind (P := fun c => (∀ m, m < 512 → cv c.f_Mask m = (cv x.f_Mask m || decide (m = n))) ∧ (∀ m, m < 512 → cv c.f_Value m = (cv x.f_Value m || (b && decide (m = n))))) (.cond (fun hb => ?_) (fun hb => ?_)) fun c hc => ?_
  · refine .idx rfl hk ?_
    first
    | refine .eq (or_eq _ _) ?_
    | refine .eq rfl (.eq (or_eq _ _) ?_)
    refine .idx rfl hk ?_
    refine .eq rfl ?_
    refine .ret ⟨fun m hm => ?_, fun m hm => ?_⟩
    · exact cv_vset _ hn _ (h4 _) m hm
    · rw [hb, Bool.true_and]; exact cv_vset _ hn _ (h4 _) m hm
  · refine .ret ⟨fun m hm => ?_, fun m hm => ?_⟩
    · exact cv_vset _ hn _ (h4 _) m hm
    · simp [hb]
  · refine .ret ⟨fun h => ?_, fun _ => hc⟩
    rw [hm] at h; cases h

/-- a place of a cube: 2 free, else the bit that is asked for -/
def cell (val mask : Vector T_api_Value 4) (i : Nat) : BitVec 8 := if cv mask i then (if cv val i then 1#8 else 0#8) else 2#8
theorem Mod_eq (x : Int) (y : Int) : Tot (L_mcase_Mod x y) (fun _ => True) := by
  unfold L_mcase_Mod
  refine .cond (fun _ => .ret trivial) (fun h => ?_)
  have h : ¬ (y = 0) := by simp at h; omega
  unfold modM
  rw [if_neg h]
  refine .eq rfl ?_
  rw [if_neg h]
  exact .eq rfl (.ret trivial)
end Go.Proofs.Ytodajdohokmjnaa
