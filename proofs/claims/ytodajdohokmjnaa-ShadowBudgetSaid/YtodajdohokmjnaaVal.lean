/-
  Values of 128 bits: what the functions of the value package and of its reference compute, bit by bit. Conditions: none.
-/
import Derived.Test.YtodajdohokmjnaaDl
import Derived.Test.YtodajdohokmjnaaPlA
namespace Go.Proofs.Ytodajdohokmjnaa
open Go Gv
set_option linter.unusedVariables false
set_option linter.unusedSimpArgs false

/-- a bit of a value -/
def vb (v : T_api_Value) (i : Nat) : Bool := if i < 64 then v.f_Lo.getLsbD i else v.f_Hi.getLsbD (i - 64)
theorem vb_hi {v : T_api_Value} {i : Nat} (h : 128 ≤ i) : vb v i = false := by
  unfold vb; rw [if_neg (by omega)]; exact BitVec.getLsbD_of_ge _ _ (by omega)
theorem vb_ext {v w : T_api_Value} (h : ∀ j, j < 128 → vb v j = vb w j) : v = w := by
  cases v with | mk vh vl => cases w with | mk wh wl =>
  have h1 : vh = wh := by
    apply BitVec.eq_of_getLsbD_eq
    intro i hi
    have := h (i + 64) (by omega)
    simpa [vb, show ¬ (i + 64 < 64) by omega] using this
  have h2 : vl = wl := by
    apply BitVec.eq_of_getLsbD_eq
    intro i hi
    have := h i (by omega)
    simpa [vb, hi] using this
  rw [h1, h2]
theorem vb_zero (j : Nat) : vb default j = false := by
  unfold vb; split <;> exact BitVec.getLsbD_zero
def band (x y : T_api_Value) : T_api_Value := { f_Hi := x.f_Hi &&& y.f_Hi, f_Lo := x.f_Lo &&& y.f_Lo }
def bor (x y : T_api_Value) : T_api_Value := { f_Hi := x.f_Hi ||| y.f_Hi, f_Lo := x.f_Lo ||| y.f_Lo }
def bxor (x y : T_api_Value) : T_api_Value := { f_Hi := x.f_Hi ^^^ y.f_Hi, f_Lo := x.f_Lo ^^^ y.f_Lo }
@[simp] theorem vb_band (x y : T_api_Value) (j : Nat) : vb (band x y) j = (vb x j && vb y j) := by unfold vb band; split <;> simp
@[simp] theorem vb_bor (x y : T_api_Value) (j : Nat) : vb (bor x y) j = (vb x j || vb y j) := by unfold vb bor; split <;> simp
@[simp] theorem vb_bxor (x y : T_api_Value) (j : Nat) : vb (bxor x y) j = (vb x j ^^ vb y j) := by unfold vb bxor; split <;> simp
theorem and_eq (x y : T_api_Value) : L_value_And x y = some (band x y) := rfl
theorem or_eq (x y : T_api_Value) : L_value_Or x y = some (bor x y) := rfl
theorem xor_eq (x y : T_api_Value) : L_value_Xor x y = some (bxor x y) := rfl

end Go.Proofs.Ytodajdohokmjnaa
