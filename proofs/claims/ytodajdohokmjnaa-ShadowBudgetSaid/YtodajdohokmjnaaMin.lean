/-
  The law CubeMinus, in plain Lean. Conditions: none.
-/
import Derived.Test.YtodajdohokmjnaaMes
namespace Go.Proofs.Ytodajdohokmjnaa
open Go Gv
set_option linter.unusedVariables false
set_option linter.unusedSimpArgs false
set_option maxRecDepth 100000

/-- two lists, element by element -/
def All2 {α β : Type} (R : α → β → Prop) (xs : List α) (ys : List β) : Prop := xs.length = ys.length ∧ ∀ t (h : t < xs.length) (h' : t < ys.length), R xs[t] ys[t]
theorem All2.nil {α β : Type} {R : α → β → Prop} : All2 R [] [] := ⟨rfl, fun t h => by cases h⟩
theorem All2.snoc {α β : Type} {R : α → β → Prop} {xs : List α} {ys : List β} {x : α} {y : β} (h : All2 R xs ys) (hr : R x y) : All2 R (xs ++ [x]) (ys ++ [y]) := by
  obtain ⟨h1, h2⟩ := h
  refine ⟨by simp [h1], fun t ht ht' => ?_⟩
  by_cases hlt : t < xs.length
  · rw [List.getElem_append_left hlt, List.getElem_append_left (by omega)]
    exact h2 t hlt (by omega)
  · have e : t = xs.length := by simp at ht; omega
    subst e
    simp only [List.getElem_append_right (Nat.le_refl _), Nat.sub_self, List.getElem_cons_zero]
    rw [List.getElem_append_right (by omega)]
    simpa [h1] using hr

/-- the bits that a part fixes beyond a -/
def fx (a b : T_cube_Cube) (i : Nat) : Bool := cv b.f_Mask i && !cv a.f_Mask i
def fxs (a b : T_cube_Cube) (k : Nat) : List Nat := (List.range k).filter (fx a b)
theorem fxs_succ {a b : T_cube_Cube} {k : Nat} : fxs a b (k + 1) = if fx a b k = true then fxs a b k ++ [k] else fxs a b k := by
  unfold fxs
  rw [List.range_succ, List.filter_append]
  by_cases h : fx a b k = true
  · rw [if_pos h]; simp [h]
  · rw [if_neg h]; simp [h]
theorem fxs_lt {a b : T_cube_Cube} {k i : Nat} (h : i ∈ fxs a b k) : i < k ∧ fx a b i = true := by
  have := List.mem_filter.1 h
  exact ⟨List.mem_range.1 this.1, this.2⟩
theorem fxs_sorted {a b : T_cube_Cube} (k : Nat) : (fxs a b k).Pairwise (· < ·) := List.Pairwise.filter _ List.pairwise_lt_range

/-- the part of a at bit i -/
def part (a b : T_cube_Cube) (i : Nat) (c : T_cube_Cube) : Prop :=
  (∀ j, j < 512 → cv c.f_Mask j = (cv a.f_Mask j || (decide (j ≤ i) && cv b.f_Mask j))) ∧
  (∀ j, j < 512 → cv c.f_Value j = (cv a.f_Value j || (decide (j < i) && (fx a b j && cv b.f_Value j)) || (decide (j = i) && !cv b.f_Value i)))

/-- the reference's part -/
def rpart (p r : Vector (BitVec 8) 512) (i : Nat) (v : Vector (BitVec 8) 512) : Prop :=
  ∀ j, j < 512 → vget v j = if j = i then 1#8 - vget r i else if j < i ∧ vget p j = 2#8 ∧ vget r j ≠ 2#8 then vget r j else vget p j
def rfx (p r : Vector (BitVec 8) 512) (i : Nat) : Bool := (vget p i == 2#8) && (vget r i != 2#8)

theorem part_can {a b c : T_cube_Cube} {i : Nat} (ha : can a) (hb : can b) (hf : fx a b i = true) (h : part a b i c) : can c := fun j hj hv => by
  rw [h.2 j hj] at hv
  rw [h.1 j hj]
  simp only [Bool.or_eq_true, Bool.and_eq_true, decide_eq_true_eq] at hv ⊢
  rcases hv with (hv | ⟨h1, h2, h3⟩) | ⟨h1, h2⟩
  · exact .inl (ha j hj hv)
  · exact .inr ⟨by omega, hb j hj h3⟩
  · subst h1
    unfold fx at hf; simp at hf
    exact .inr ⟨by omega, hf.1⟩

theorem part_cell {a b c : T_cube_Cube} {i : Nat} {p r v w : Vector (BitVec 8) 512} (ha : can a) (hb : can b) (hi : i < 512) (hf : fx a b i = true) (h : part a b i c)
    (hp : ∀ j, j < 512 → vget p j = cell a.f_Value a.f_Mask j) (hr : ∀ j, j < 512 → vget r j = cell b.f_Value b.f_Mask j) (hv : rpart p r i v) (hw : ∀ j, j < 512 → vget w j = cell c.f_Value c.f_Mask j) : w = v := by
  refine vget_ext fun j hj => ?_
  rw [hw j hj, hv j hj]
  have hfi := hf
  unfold fx at hfi; simp at hfi
  have hb2 : vget r i = if cv b.f_Value i then 1#8 else 0#8 := by rw [hr i hi]; unfold cell; rw [hfi.1]; simp
  by_cases hji : j = i
  · subst hji
    rw [if_pos rfl, hb2]
    unfold cell
    rw [h.1 j hj, h.2 j hj, hfi.1]
    have hav : cv a.f_Value j = false := by
      cases h : cv a.f_Value j
      · rfl
      · rw [ha j hj h] at hfi; cases hfi.2
    cases cv b.f_Value j <;> simp [hav]
  · rw [if_neg hji]
    have hpj := hp j hj
    have hrj := hr j hj
    unfold cell at hpj hrj ⊢
    rw [h.1 j hj, h.2 j hj, hpj, hrj]
    have hle : (j ≤ i) ↔ j < i := by omega
    unfold fx
    cases h1 : cv a.f_Mask j
    · have h3 : cv a.f_Value j = false := by
        cases h : cv a.f_Value j
        · rfl
        · rw [ha j hj h] at h1; cases h1
      cases h2 : cv b.f_Mask j
      · simp [h3, hji, hle]
      · by_cases hlt : j < i
        · cases h4 : cv b.f_Value j <;> simp [h3, hji, hle, hlt]
        · simp [h3, hji, hle, hlt]
    · cases h3 : cv a.f_Value j <;> simp [hji]

theorem fx_cells {a b : T_cube_Cube} {p r : Vector (BitVec 8) 512} (hp : ∀ j, j < 512 → vget p j = cell a.f_Value a.f_Mask j) (hr : ∀ j, j < 512 → vget r j = cell b.f_Value b.f_Mask j) :
    (List.range 512).filter (rfx p r) = fxs a b 512 := by
  unfold fxs
  refine List.filter_congr fun i hi => ?_
  have hi := List.mem_range.1 hi
  unfold rfx fx
  rw [hp i hi, hr i hi]
  have h1 : (cell a.f_Value a.f_Mask i == 2#8) = !cv a.f_Mask i := cell_eq_two
  have h2 : (cell b.f_Value b.f_Mask i != 2#8) = cv b.f_Mask i := by
    have : (cell b.f_Value b.f_Mask i == 2#8) = !cv b.f_Mask i := cell_eq_two
    unfold bne; rw [this]; simp
  rw [h1, h2, Bool.and_comm]

theorem part_apart {a b c : T_cube_Cube} {i : Nat} (hi : i < 512) (ha : can a) (hf : fx a b i = true) (h : part a b i c) : ¬ agree c b := fun hag => by
  have hf' := hf
  unfold fx at hf'; simp at hf'
  have h1 := hag i hi (by rw [h.1 i hi, hf'.1]; simp) hf'.1
  have hav : cv a.f_Value i = false := by
    cases h : cv a.f_Value i
    · rfl
    · rw [ha i hi h] at hf'; cases hf'.2
  rw [h.2 i hi, hav] at h1
  cases h2 : cv b.f_Value i <;> simp [h2] at h1

theorem parts_apart {a b c d : T_cube_Cube} {i j : Nat} (hi : i < 512) (ha : can a) (hji : j < i) (hf : fx a b j = true) (h : part a b i c) (h' : part a b j d) : ¬ agree c d := fun hag => by
  have hf' := hf
  unfold fx at hf'; simp at hf'
  have hj : j < 512 := by omega
  have hav : cv a.f_Value j = false := by
    cases h : cv a.f_Value j
    · rfl
    · rw [ha j hj h] at hf'; cases hf'.2
  have h1 := hag j hj (by rw [h.1 j hj, hf'.1]; simp; omega) (by rw [h'.1 j hj, hf'.1]; simp)
  rw [h.2 j hj, h'.2 j hj, hav] at h1
  have : ¬ j = i := by omega
  cases h2 : cv b.f_Value j <;> simp [h2, hf, hji, this] at h1

end Go.Proofs.Ytodajdohokmjnaa
