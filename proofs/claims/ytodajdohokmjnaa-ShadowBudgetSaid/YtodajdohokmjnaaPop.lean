/-
  How many bits are 1: the count of set bits by adding neighbours, in plain Lean. Conditions: none.
-/
import Derived.Test.YtodajdohokmjnaaCub
namespace Go.Proofs.Ytodajdohokmjnaa
open Go Gv
set_option linter.unusedVariables false
set_option linter.unusedSimpArgs false
set_option maxRecDepth 100000

/-- a number out of its digits to the base 2 ^ w -/
def val (w : Nat) : Nat → (Nat → Nat) → Nat
  | 0, _ => 0
  | n + 1, d => d 0 + 2 ^ w * val w n (fun k => d (k + 1))

theorem val_congr {w n : Nat} {d e : Nat → Nat} (h : ∀ k, k < n → d k = e k) : val w n d = val w n e := by
  induction n generalizing d e with
  | zero => rfl
  | succ n ih => simp only [val]; rw [h 0 (by omega), ih fun k hk => h (k + 1) (by omega)]
theorem val_add {w n : Nat} {d e : Nat → Nat} : val w n d + val w n e = val w n (fun k => d k + e k) := by
  induction n generalizing d e with
  | zero => rfl
  | succ n ih => simp only [val]; rw [← ih, Nat.mul_add]; omega
theorem val_snoc {w n : Nat} {d : Nat → Nat} : val w (n + 1) d = val w n d + 2 ^ (w * n) * d n := by
  induction n generalizing d with
  | zero => simp [val]
  | succ n ih =>
    rw [val, ih, val, Nat.mul_add, ← Nat.mul_assoc, ← Nat.pow_add, show w + w * n = w * (n + 1) by rw [Nat.mul_add]; omega]
    omega
theorem val_lt {w n : Nat} {d : Nat → Nat} (h : ∀ k, k < n → d k < 2 ^ w) : val w n d < 2 ^ (w * n) := by
  induction n generalizing d with
  | zero => simp [val]
  | succ n ih =>
    have h0 := h 0 (by omega)
    have h1 := ih (d := fun k => d (k + 1)) fun k hk => h (k + 1) (by omega)
    have h2 : 2 ^ w * (val w n (fun k => d (k + 1)) + 1) ≤ 2 ^ w * 2 ^ (w * n) := Nat.mul_le_mul_left _ h1
    rw [← Nat.pow_add, show w + w * n = w * (n + 1) by rw [Nat.mul_add]; omega, Nat.mul_add] at h2
    simp only [val]
    omega
theorem val_shift {w n : Nat} {d : Nat → Nat} (h0 : d 0 < 2 ^ w) (hn : d n = 0) : val w n d >>> w = val w n (fun k => d (k + 1)) := by
  cases n with
  | zero => simp [val]
  | succ n =>
    have e : val w (n + 1) (fun k => d (k + 1)) = val w n (fun k => d (k + 1)) := by rw [val_snoc]; simp [hn]
    rw [e, Nat.shiftRight_eq_div_pow, val, Nat.add_mul_div_left _ _ (Nat.two_pow_pos w), Nat.div_eq_of_lt h0, Nat.zero_add]
theorem and_parts {s a A b B : Nat} (ha : a < 2 ^ s) (hb : b < 2 ^ s) : (a + 2 ^ s * A) &&& (b + 2 ^ s * B) = (a &&& b) + 2 ^ s * (A &&& B) := by
  have h1 : ((a + 2 ^ s * A) &&& (b + 2 ^ s * B)) % 2 ^ s = a &&& b := by
    rw [Nat.and_mod_two_pow, Nat.add_mul_mod_self_left, Nat.add_mul_mod_self_left, Nat.mod_eq_of_lt ha, Nat.mod_eq_of_lt hb]
  have h2 : ((a + 2 ^ s * A) &&& (b + 2 ^ s * B)) / 2 ^ s = A &&& B := by
    rw [Nat.and_div_two_pow, Nat.add_mul_div_left _ _ (Nat.two_pow_pos s), Nat.add_mul_div_left _ _ (Nat.two_pow_pos s), Nat.div_eq_of_lt ha, Nat.div_eq_of_lt hb, Nat.zero_add, Nat.zero_add]
  rw [← Nat.mod_add_div ((a + 2 ^ s * A) &&& (b + 2 ^ s * B)) (2 ^ s), h1, h2]
theorem two_two (w : Nat) : 2 ^ (2 * w) = 2 ^ w * 2 ^ w := by rw [← Nat.pow_add]; congr 1; omega
/-- every second digit -/
theorem val_even {w n : Nat} {d : Nat → Nat} (h : ∀ k, d k < 2 ^ w) : val w (2 * n) d &&& val (2 * w) n (fun _ => 2 ^ w - 1) = val (2 * w) n (fun k => d (2 * k)) := by
  induction n generalizing d with
  | zero => simp [val]
  | succ n ih =>
    have e : val w (2 * (n + 1)) d = (d 0 + 2 ^ w * d 1) + 2 ^ (2 * w) * val w (2 * n) (fun k => d (k + 1 + 1)) := by
      rw [show 2 * (n + 1) = 2 * n + 1 + 1 by omega]
      simp only [val, Nat.zero_add]
      rw [Nat.mul_add, two_two, Nat.mul_assoc]
      omega
    have hlt : d 0 + 2 ^ w * d 1 < 2 ^ (2 * w) := by
      have h0 := h 0; have h1 := h 1
      have h2 : 2 ^ w * (d 1 + 1) ≤ 2 ^ w * 2 ^ w := Nat.mul_le_mul_left _ h1
      rw [two_two]
      rw [Nat.mul_add] at h2
      omega
    have hp := Nat.two_pow_pos w
    have hm : 2 ^ w - 1 < 2 ^ (2 * w) := by
      have : 2 ^ w ≤ 2 ^ (2 * w) := Nat.pow_le_pow_right (by omega) (by omega)
      omega
    rw [e, val, and_parts hlt hm, ih fun k => h (k + 1 + 1), Nat.and_two_pow_sub_one_eq_mod, Nat.add_mul_mod_self_left, Nat.mod_eq_of_lt (h 0)]
    rfl
theorem val_bits (x n : Nat) : val 1 n (fun i => (x.testBit i).toNat) = x % 2 ^ n := by
  induction n generalizing x with
  | zero => simp [val, Nat.mod_one]
  | succ n ih =>
    simp only [val, Nat.testBit_succ]
    have e : x % 2 ^ (n + 1) = x % 2 + 2 * (x / 2 % 2 ^ n) := by rw [Nat.pow_succ, Nat.mul_comm (2 ^ n) 2, Nat.mod_mul]
    rw [ih (x / 2), e, Nat.testBit_zero, Nat.pow_one]
    have : (decide (x % 2 = 1)).toNat = x % 2 := by
      rcases Nat.mod_two_eq_zero_or_one x with h | h <;> simp [h]
    omega
theorem val_half {n : Nat} {d : Nat → Nat} : val 0 (2 * n) d = val 0 n (fun k => d (2 * k) + d (2 * k + 1)) := by
  induction n generalizing d with
  | zero => rfl
  | succ n ih =>
    rw [show 2 * (n + 1) = 2 * n + 1 + 1 by omega]
    simp only [val, Nat.pow_zero, Nat.one_mul, Nat.mul_zero, Nat.zero_add]
    rw [ih]
    have : val 0 n (fun k => d (2 * k + 1 + 1) + d (2 * k + 1 + 1 + 1)) = val 0 n (fun k => d (2 * (k + 1)) + d (2 * (k + 1) + 1)) := val_congr fun k _ => by rw [show 2 * (k + 1) = 2 * k + 1 + 1 by omega]
    rw [this]
    omega

/-- how many of the first n are true -/
def cnt (n : Nat) (p : Nat → Bool) : Nat := val 0 n (fun i => (p i).toNat)
theorem cnt_succ {n : Nat} {p : Nat → Bool} : cnt (n + 1) p = cnt n p + (p n).toNat := by unfold cnt; rw [val_snoc]; simp
theorem cnt_congr {n : Nat} {p q : Nat → Bool} (h : ∀ k, k < n → p k = q k) : cnt n p = cnt n q := val_congr fun k hk => by rw [h k hk]
theorem cnt_le {n : Nat} {p : Nat → Bool} : cnt n p ≤ n := by
  induction n with
  | zero => simp [cnt, val]
  | succ n ih => rw [cnt_succ]; have := Bool.toNat_le (p n); omega
theorem cnt_append {m n : Nat} {p : Nat → Bool} : cnt (m + n) p = cnt m p + cnt n (fun i => p (m + i)) := by
  induction n with
  | zero => simp [cnt, val]
  | succ n ih => rw [show m + (n + 1) = m + n + 1 by omega, cnt_succ, ih, cnt_succ]; omega
theorem cnt_rev {n : Nat} {p : Nat → Bool} : cnt n (fun i => p (n - 1 - i)) = cnt n p := by
  induction n generalizing p with
  | zero => rfl
  | succ n ih =>
    have h1 : cnt (n + 1) p = (p 0).toNat + cnt n (fun i => p (i + 1)) := by unfold cnt; simp only [val, Nat.pow_zero, Nat.one_mul]
    rw [cnt_succ, h1, ← ih (p := fun i => p (i + 1)), show n + 1 - 1 - n = 0 by omega]
    have : cnt n (fun i => p (n + 1 - 1 - i)) = cnt n (fun i => p (n - 1 - i + 1)) := cnt_congr fun k hk => by congr 1; omega
    omega
theorem cnt_not {n : Nat} {p : Nat → Bool} : cnt n p + cnt n (fun i => !p i) = n := by
  induction n with
  | zero => rfl
  | succ n ih => rw [cnt_succ, cnt_succ]; cases p n <;> simp <;> omega

theorem add_of_lt {x y : BitVec 64} (h : x.toNat + y.toNat < 2 ^ 64) : (x + y).toNat = x.toNat + y.toNat := by rw [BitVec.toNat_add, Nat.mod_eq_of_lt h]

theorem pair_step {w n B s : Nat} {X M : BitVec 64} {d : Nat → Nat} (hn : 2 * w * n = 64) (hx : X.toNat = val w (2 * n) d) (hd : ∀ k, d k ≤ B) (h1 : B < 2 ^ w) (h2 : 2 * B < 2 ^ (2 * w)) (h0 : ∀ k, 2 * n ≤ k → d k = 0)
    (hM : M.toNat = val (2 * w) n (fun _ => 2 ^ w - 1)) (hs : s = w) : ((X >>> s &&& M) + (X &&& M)).toNat = val (2 * w) n (fun k => d (2 * k + 1) + d (2 * k)) := by
  subst hs
  have g1 : (X >>> s &&& M).toNat = val (2 * s) n (fun k => d (2 * k + 1)) := by
    rw [BitVec.toNat_and, BitVec.toNat_ushiftRight, hx, hM, val_shift (Nat.lt_of_le_of_lt (hd 0) h1) (h0 _ (Nat.le_refl _))]
    exact val_even (d := fun k => d (k + 1)) fun k => Nat.lt_of_le_of_lt (hd _) h1
  have g2 : (X &&& M).toNat = val (2 * s) n (fun k => d (2 * k)) := by
    rw [BitVec.toNat_and, hx, hM]
    exact val_even fun k => Nat.lt_of_le_of_lt (hd _) h1
  have hb : val (2 * s) n (fun k => d (2 * k + 1) + d (2 * k)) < 2 ^ (2 * s * n) := val_lt fun k _ => by have := hd (2 * k); have := hd (2 * k + 1); omega
  rw [hn] at hb
  rw [add_of_lt (by rw [g1, g2, val_add]; exact hb), g1, g2, val_add]
theorem sum_half {n : Nat} {d : Nat → Nat} : val 0 n (fun k => d (2 * k + 1) + d (2 * k)) = val 0 (2 * n) d := by
  rw [val_half]
  exact val_congr fun k _ => Nat.add_comm _ _
theorem shifts {w n : Nat} {d : Nat → Nat} (hd : ∀ k, d k < 2 ^ w) (h0 : ∀ k, n ≤ k → d k = 0) (m : Nat) : val w n d >>> (w * m) = val w n (fun k => d (k + m)) := by
  induction m with
  | zero => simp
  | succ m ih =>
    rw [show w * (m + 1) = w * m + w by rw [Nat.mul_add]; omega, Nat.shiftRight_add, ih, val_shift (d := fun k => d (k + m)) (hd _) (h0 _ (by omega))]
    exact val_congr fun k _ => by congr 1; omega
theorem shift_step {w n m B s : Nat} {X : BitVec 64} {d : Nat → Nat} (hn : w * n = 64) (hx : X.toNat = val w n d) (hd : ∀ k, d k ≤ B) (h1 : 2 * B < 2 ^ w) (h0 : ∀ k, n ≤ k → d k = 0) (hs : s = w * m) :
    (X >>> s + X).toNat = val w n (fun k => d (k + m) + d k) := by
  subst hs
  have g1 : (X >>> (w * m)).toNat = val w n (fun k => d (k + m)) := by
    rw [BitVec.toNat_ushiftRight, hx, shifts (fun k => by have := hd k; omega) h0]
  have hb : val w n (fun k => d (k + m) + d k) < 2 ^ (w * n) := val_lt fun k _ => by have := hd k; have := hd (k + m); omega
  rw [hn] at hb
  rw [add_of_lt (by rw [g1, hx, val_add]; exact hb), g1, hx, val_add]
theorem add_le {d : Nat → Nat} {B : Nat} (hd : ∀ k, d k ≤ B) (i j : Nat) : d i + d j ≤ 2 * B := by have := hd i; have := hd j; omega
theorem add_zero_ {d : Nat → Nat} {n : Nat} (h0 : ∀ k, n ≤ k → d k = 0) {i j : Nat} (hi : n ≤ i) (hj : n ≤ j) : d i + d j = 0 := by rw [h0 i hi, h0 j hj]

end Go.Proofs.Ytodajdohokmjnaa
