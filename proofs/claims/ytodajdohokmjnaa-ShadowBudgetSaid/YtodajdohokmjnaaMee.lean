/-
  The law CubeMeets, in plain Lean. Conditions: none.
-/
import Derived.Test.YtodajdohokmjnaaPop
import Derived.Test.YtodajdohokmjnaaPar
namespace Go.Proofs.Ytodajdohokmjnaa
open Go Gv
set_option linter.unusedVariables false
set_option linter.unusedSimpArgs false
set_option maxRecDepth 100000

theorem cell_two {v m : Vector T_api_Value 4} {i : Nat} : cell v m i = 2#8 ↔ cv m i = false := by
  unfold cell
  cases cv m i
  · simp
  · cases cv v i <;> simp
theorem cell_same {v m v' m' : Vector T_api_Value 4} {i : Nat} (h : cv m i = true) (h' : cv m' i = true) : cell v m i = cell v' m' i ↔ cv v i = cv v' i := by
  unfold cell
  rw [h, h']
  cases cv v i <;> cases cv v' i <;> simp

theorem cnt_word (w : T_api_Value) : cnt 64 w.f_Lo.getLsbD + cnt 64 w.f_Hi.getLsbD = cnt 128 (vb w) := by
  have h1 : cnt 64 w.f_Lo.getLsbD = cnt 64 (vb w) := cnt_congr fun k hk => by simp [vb, hk]
  have h2 : cnt 64 w.f_Hi.getLsbD = cnt 64 (fun i => vb w (64 + i)) := cnt_congr fun k hk => by simp [vb, show ¬ (64 + k < 64) by omega]
  have h3 := cnt_append (m := 64) (n := 64) (p := vb w)
  simp only [Nat.reduceAdd] at h3
  omega
theorem cnt_cv (m : Vector T_api_Value 4) (k n : Nat) (hn : n = 128) : cnt (n * k + n) (cv m) = cnt (n * k) (cv m) + cnt n (vb (vget m k)) := by
  have h1 : cnt n (fun i => cv m (n * k + i)) = cnt n (fun i => vb (vget m k) (n - 1 - i)) :=
    cnt_congr fun i hi => by subst hn; unfold cv; rw [show (128 * k + i) / 128 = k by omega, show 127 - (128 * k + i) % 128 = 128 - 1 - i by omega]
  rw [cnt_append, h1, cnt_rev]

theorem Within_eq (x y : T_cube_Cube) (hx : can x) (hy : can y) : Tot (L_cube_Within x y) (fun r => r = true ↔ ∀ i, i < 512 → cv y.f_Mask i = true → cv x.f_Mask i = true ∧ cv x.f_Value i = cv y.f_Value i) := by
  unfold L_cube_Within
  refine (Meet_eq x y).bind fun m ⟨h1, h2, h3⟩ => .ret ?_
  rw [Bool.and_eq_true, decide_eq_true_iff]
  constructor
  · rintro ⟨ht, he⟩ i hi hm
    obtain ⟨h4, h5⟩ := h3 ht
    rw [he] at h4 h5
    have hxm : cv x.f_Mask i = true := by rw [h5 i hi, hm]; simp
    exact ⟨hxm, h1.1 ht i hi hxm hm⟩
  · intro h
    have ha : agree x y := fun i hi _ hm => (h i hi hm).2
    have ht := h1.2 ha
    obtain ⟨h4, h5⟩ := h3 ht
    refine ⟨ht, ?_⟩
    have e1 : m.1.f_Value = x.f_Value := cv_ext fun i hi => by
      rw [h4 i hi]
      cases hv : cv y.f_Value i
      · simp
      · simp [(h i hi (hy i hi hv)).2, hv]
    have e2 : m.1.f_Mask = x.f_Mask := cv_ext fun i hi => by
      rw [h5 i hi]
      cases hv : cv y.f_Mask i
      · simp
      · simp [(h i hi hv).1]
    cases hm : m.1; cases x; simp_all

theorem can_default : can default := fun i _ h => by
  have : cv (default : T_cube_Cube).f_Value i = false := cv_default i
  rw [this] at h; cases h

theorem can_get {l : List T_cube_Cube} (h : ∀ c ∈ l, can c) {k : Nat} (hk : k < l.length) : can (lget l k) := by
  rw [lget_eq l hk]; exact h _ (List.getElem_mem hk)

theorem contains_agree {c : T_cube_Cube} (hc : can c) {q : Vector T_api_Value 4} {y : Vector (BitVec 8) 512} (hy : ∀ i, i < 512 → vget y i = cell c.f_Value c.f_Mask i) {r : Bool}
    (hr : r = true ↔ ∀ i, i < 512 → vget y i = 2#8 ∨ vget y i = if cv q i then 1#8 else 0#8) : r = inB c q := by
  rw [Bool.eq_iff_iff, hr, inB_iff]
  refine forall_congr' fun i => forall_congr' fun hi => ?_
  rw [hy i hi]
  unfold cell
  cases hm : cv c.f_Mask i
  · cases hv : cv c.f_Value i
    · simp
    · rw [hc i hi hv] at hm; cases hm
  · cases cv c.f_Value i <;> cases cv q i <;> simp

end Go.Proofs.Ytodajdohokmjnaa
