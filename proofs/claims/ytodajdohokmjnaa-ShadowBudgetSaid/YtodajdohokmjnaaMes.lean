/-
  The law CubeMeets, in plain Lean: the law itself. Conditions: none.
-/
import Derived.Test.YtodajdohokmjnaaMee
namespace Go.Proofs.Ytodajdohokmjnaa
open Go Gv
set_option linter.unusedVariables false
set_option linter.unusedSimpArgs false
set_option maxRecDepth 100000

theorem agree_cells {x y : T_cube_Cube} {p r : Vector (BitVec 8) 512} (hp : ∀ i, i < 512 → vget p i = cell x.f_Value x.f_Mask i) (hr : ∀ i, i < 512 → vget r i = cell y.f_Value y.f_Mask i) :
    (∀ i, i < 512 → vget p i = 2#8 ∨ vget r i = 2#8 ∨ vget p i = vget r i) ↔ agree x y := by
  unfold agree
  refine forall_congr' fun i => forall_congr' fun hi => ?_
  rw [hp i hi, hr i hi]
  unfold cell
  cases cv x.f_Mask i <;> cases cv y.f_Mask i <;> cases cv x.f_Value i <;> cases cv y.f_Value i <;> simp

/-- the cubes' intersection is canonical -/
theorem meet_can {x y m : T_cube_Cube} (hx : can x) (hy : can y) (h4 : ∀ i, i < 512 → cv m.f_Value i = (cv x.f_Value i || cv y.f_Value i)) (h5 : ∀ i, i < 512 → cv m.f_Mask i = (cv x.f_Mask i || cv y.f_Mask i)) : can m := by
  intro i hi h
  rw [h4 i hi] at h
  rw [h5 i hi]
  simp only [Bool.or_eq_true] at h ⊢
  rcases h with h | h
  · exact .inl (hx i hi h)
  · exact .inr (hy i hi h)

theorem meet_cells {x y m : T_cube_Cube} (hx : can x) (hy : can y) (ha : agree x y) (h4 : ∀ i, i < 512 → cv m.f_Value i = (cv x.f_Value i || cv y.f_Value i)) (h5 : ∀ i, i < 512 → cv m.f_Mask i = (cv x.f_Mask i || cv y.f_Mask i))
    {i : Nat} (hi : i < 512) : cell m.f_Value m.f_Mask i = if cell x.f_Value x.f_Mask i = 2#8 then cell y.f_Value y.f_Mask i else cell x.f_Value x.f_Mask i := by
  have g1 := hx i hi; have g2 := hy i hi; have g3 := ha i hi
  unfold cell
  rw [h4 i hi, h5 i hi]
  revert g1 g2 g3
  cases cv x.f_Mask i <;> cases cv y.f_Mask i <;> cases cv x.f_Value i <;> cases cv y.f_Value i <;> simp

theorem within_cells {x y : T_cube_Cube} (hx : can x) (hy : can y) {p r : Vector (BitVec 8) 512} (hp : ∀ i, i < 512 → vget p i = cell x.f_Value x.f_Mask i) (hr : ∀ i, i < 512 → vget r i = cell y.f_Value y.f_Mask i) :
    (∀ i, i < 512 → vget r i = 2#8 ∨ vget p i = vget r i) ↔ ∀ i, i < 512 → cv y.f_Mask i = true → cv x.f_Mask i = true ∧ cv x.f_Value i = cv y.f_Value i := by
  refine forall_congr' fun i => forall_congr' fun hi => ?_
  rw [hp i hi, hr i hi]
  unfold cell
  cases cv x.f_Mask i <;> cases cv y.f_Mask i <;> cases cv x.f_Value i <;> cases cv y.f_Value i <;> simp

theorem free_same {x : T_cube_Cube} {p : Vector (BitVec 8) 512} (n : Nat) (N : Int) (hn : n ≤ 512 ∧ N = n) (hp : ∀ i, i < 512 → vget p i = cell x.f_Value x.f_Mask i) {a b : Int} (ha : a = N - (cnt n (cv x.f_Mask) : Nat)) (hb : b = (cnt n (fun i => vget p i == 2#8) : Nat)) : a = b := by
  have e1 : cnt n (fun i => vget p i == 2#8) = cnt n (fun i => !cv x.f_Mask i) := cnt_congr fun i hi => by rw [hp i (by omega), cell_eq_two]
  have e2 := cnt_not (n := n) (p := cv x.f_Mask)
  rw [e1] at hb
  omega

end Go.Proofs.Ytodajdohokmjnaa
