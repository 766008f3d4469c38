/-
  Values of 128 bits: what the functions of the value package and of its reference compute, bit by bit. Conditions: none.
-/
import Derived.Test.YtodajdohokmjnaaDl
import Derived.Test.YtodajdohokmjnaaPlA
namespace Go.Proofs.Ytodajdohokmjnaa
open Go Gv
set_option linter.unusedVariables false
set_option linter.unusedSimpArgs false

/-- a bit of a value -/
def vb (v : T_api_Value) (i : Nat) : Bool := if i < 64 then v.f_Lo.getLsbD i else v.f_Hi.getLsbD (i - 64)
theorem vb_hi {v : T_api_Value} {i : Nat} (h : 128 ≤ i) : vb v i = false := by
  unfold vb; rw [if_neg (by omega)]; exact BitVec.getLsbD_of_ge _ _ (by omega)
theorem vb_ext {v w : T_api_Value} (h : ∀ j, j < 128 → vb v j = vb w j) : v = w := by
  cases v with | mk vh vl => cases w with | mk wh wl =>
  have h1 : vh = wh := by
    apply BitVec.eq_of_getLsbD_eq
    intro i hi
    have := h (i + 64) (by omega)
    simpa [vb, show ¬ (i + 64 < 64) by omega] using this
  have h2 : vl = wl := by
    apply BitVec.eq_of_getLsbD_eq
    intro i hi
    have := h i (by omega)
    simpa [vb, hi] using this
  rw [h1, h2]
theorem vb_zero (j : Nat) : vb default j = false := by
  unfold vb; split <;> exact BitVec.getLsbD_zero
def band (x y : T_api_Value) : T_api_Value := { f_Hi := x.f_Hi &&& y.f_Hi, f_Lo := x.f_Lo &&& y.f_Lo }
def bor (x y : T_api_Value) : T_api_Value := { f_Hi := x.f_Hi ||| y.f_Hi, f_Lo := x.f_Lo ||| y.f_Lo }
def bxor (x y : T_api_Value) : T_api_Value := { f_Hi := x.f_Hi ^^^ y.f_Hi, f_Lo := x.f_Lo ^^^ y.f_Lo }
@[simp] theorem vb_band (x y : T_api_Value) (j : Nat) : vb (band x y) j = (vb x j && vb y j) := by unfold vb band; split <;> simp
@[simp] theorem vb_bor (x y : T_api_Value) (j : Nat) : vb (bor x y) j = (vb x j || vb y j) := by unfold vb bor; split <;> simp
@[simp] theorem vb_bxor (x y : T_api_Value) (j : Nat) : vb (bxor x y) j = (vb x j ^^ vb y j) := by unfold vb bxor; split <;> simp
theorem Read_eq (x : T_api_Value) : Tot (L_ref01_Read x) (fun r => ∀ j, j < 128 → vget r j = vb x j) := by
  unfold L_ref01_Read
  refine Tot.loop 64 (fun k s => s.1 = k ∧ ∀ j, j < 128 → vget s.2 j = (decide (j % 64 < k) && vb x j)) (by omega)
    ⟨rfl, fun j hj => by simp [vget_default]⟩ (fun k s hk hi => ?_) (fun s hi => ?_)
  · obtain ⟨i, v⟩ := s; obtain ⟨h1, h2⟩ := hi
    simp only at h1 h2; subst h1
    have e1 : w64 ((k : Int) + 64) = ((k + 64 : Nat) : Int) := by rw [w64_in (by omega) (by omega)]; simp
    refine Tot.cond (fun _ => ?_) (fun h => by simp at h; omega)
    refine Tot.idx rfl (show k < 128 by omega) (.eq rfl (.idx e1 (show k + 64 < 128 by omega) (.eq rfl (.ret ⟨w64_succ (by omega), fun j hj => ?_⟩))))
    simp only [vget_vset _ _ (show k < 128 by omega), vget_vset _ _ (show k + 64 < 128 by omega), cnt_nat (show k < 2 ^ 64 by omega), bit_test, h2 j hj]
    by_cases hj1 : j = k + 64
    · subst hj1
      have h1 : (k + 64) % 64 < k + 1 := by omega
      have h2 : ¬ (k + 64 < 64) := by omega
      simp only [vb, h1, h2, if_true, if_false, decide_true, Bool.true_and, Nat.add_sub_cancel]
    · by_cases hj2 : j = k
      · subst hj2
        have : j % 64 < j + 1 := by omega
        simp [vb, this, hk]
      · rw [if_neg hj1, if_neg hj2]
        congr 1
        rw [decide_eq_decide]; omega
  · obtain ⟨i, v⟩ := s; obtain ⟨h1, h2⟩ := hi
    simp only at h1 h2; subst h1
    refine ⟨_, rfl, .ret fun j hj => ?_⟩
    have : j % 64 < 64 := by omega
    simp [h2 j hj, this]

end Go.Proofs.Ytodajdohokmjnaa
