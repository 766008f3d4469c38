/-
  The law CubeMeets, in plain Lean. Conditions: none.
-/
import Derived.Test.YtabodolbdalimaaPop
import Derived.Test.YtabodolbdalimaaPar
namespace Go.Proofs.Ytabodolbdalimaa
open Go Gv
set_option linter.unusedVariables false
set_option linter.unusedSimpArgs false
set_option maxRecDepth 100000

theorem cell_two {v m : Vector T_api_Value 4} {i : Nat} : cell v m i = 2#8 ↔ cv m i = false := by
  unfold cell
  cases cv m i
  · simp
  · cases cv v i <;> simp
theorem cell_same {v m v' m' : Vector T_api_Value 4} {i : Nat} (h : cv m i = true) (h' : cv m' i = true) : cell v m i = cell v' m' i ↔ cv v i = cv v' i := by
  unfold cell
  rw [h, h']
  cases cv v i <;> cases cv v' i <;> simp

theorem refOnes_eq : Tot (L_ref01_Ones 128) (fun r => ∀ j, j < 128 → vb r j = true) := by
  unfold L_ref01_Ones
  refine Tot.loop 128 (fun k s => s.1 = k ∧ ∀ j, j < k → vget s.2 j = true) (by omega)
    ⟨rfl, fun j hj => by omega⟩ (fun k s hk hi => ?_) (fun s hi => ?_)
  · obtain ⟨i, v⟩ := s; obtain ⟨h1, h2⟩ := hi
    simp only at h1 h2; subst h1
    refine .eq (a := 128) (by rfl) ?_
    refine Tot.cond (fun _ => ?_) (fun h => by simp at h; omega)
    refine .idx rfl hk (.ret ⟨w64_succ (by omega), fun j hj => ?_⟩)
    simp only [vget_vset _ _ hk]
    by_cases hj1 : j = k
    · rw [if_pos hj1]
    · rw [if_neg hj1]; exact h2 j (by omega)
  · obtain ⟨i, v⟩ := s; obtain ⟨h1, h2⟩ := hi
    simp only at h1 h2; subst h1
    refine ⟨_, rfl, (Make_eq v).bind fun r hr => .ret fun j hj => ?_⟩
    rw [hr j hj, h2 j hj]

theorem cnt_word (w : T_api_Value) : cnt 64 w.f_Lo.getLsbD + cnt 64 w.f_Hi.getLsbD = cnt 128 (vb w) := by
  have h1 : cnt 64 w.f_Lo.getLsbD = cnt 64 (vb w) := cnt_congr fun k hk => by simp [vb, hk]
  have h2 : cnt 64 w.f_Hi.getLsbD = cnt 64 (fun i => vb w (64 + i)) := cnt_congr fun k hk => by simp [vb, show ¬ (64 + k < 64) by omega]
  have h3 := cnt_append (m := 64) (n := 64) (p := vb w)
  simp only [Nat.reduceAdd] at h3
  omega
theorem cnt_cv (m : Vector T_api_Value 4) (k n : Nat) (hn : n = 128) : cnt (n * k + n) (cv m) = cnt (n * k) (cv m) + cnt n (vb (vget m k)) := by
  have h1 : cnt n (fun i => cv m (n * k + i)) = cnt n (fun i => vb (vget m k) (n - 1 - i)) :=
    cnt_congr fun i hi => by subst hn; unfold cv; rw [show (128 * k + i) / 128 = k by omega, show 127 - (128 * k + i) % 128 = 128 - 1 - i by omega]
  rw [cnt_append, h1, cnt_rev]

theorem Free_eq (x : T_cube_Cube) : Tot (L_cube_Free x) (fun r => r = 512 - (cnt 512 (cv x.f_Mask) : Nat)) := by
  unfold L_cube_Free
  refine Tot.loop 4 (fun k s => s.2 = k ∧ s.1 = 512 - (cnt (128 * k) (cv x.f_Mask) : Nat)) (by omega)
    ⟨rfl, by simp [cnt, val]⟩ (fun k s hk hi => ?_) (fun s hi => ?_)
  · obtain ⟨n, i⟩ := s; obtain ⟨h1, h2⟩ := hi
    simp only at h1 h2; subst h1; subst h2
    refine Tot.cond (fun _ => ?_) (fun h => by simp at h; omega)
    refine .idx rfl hk (.eq (OnesCount_eq _) (.eq (OnesCount_eq _) (.ret ⟨w64_succ (by omega), ?_⟩)))
    have h1 := cnt_word (vget x.f_Mask k)
    have h2 := cnt_cv x.f_Mask k 128 rfl
    have e2 : 128 * (k + 1) = 128 * k + 128 := by omega
    rw [e2]
    have h3 := cnt_le (n := 128) (p := vb (vget x.f_Mask k))
    have h4 := cnt_le (n := 128 * k) (p := cv x.f_Mask)
    simp only
    rw [w64_in (x := (cnt 64 (vget x.f_Mask k).f_Hi.getLsbD : Int) + (cnt 64 (vget x.f_Mask k).f_Lo.getLsbD : Int)) (by omega) (by omega), w64_in (by omega) (by omega)]
    omega
  · obtain ⟨n, i⟩ := s; obtain ⟨h1, h2⟩ := hi
    simp only [Nat.reduceMul] at h1 h2; subst h1
    exact ⟨_, rfl, .ret h2⟩

theorem can_default : can default := fun i _ h => by
  have : cv (default : T_cube_Cube).f_Value i = false := cv_default i
  rw [this] at h; cases h

theorem can_get {l : List T_cube_Cube} (h : ∀ c ∈ l, can c) {k : Nat} (hk : k < l.length) : can (lget l k) := by
  rw [lget_eq l hk]; exact h _ (List.getElem_mem hk)

theorem contains_agree {c : T_cube_Cube} (hc : can c) {q : Vector T_api_Value 4} {y : Vector (BitVec 8) 512} (hy : ∀ i, i < 512 → vget y i = cell c.f_Value c.f_Mask i) {r : Bool}
    (hr : r = true ↔ ∀ i, i < 512 → vget y i = 2#8 ∨ vget y i = if cv q i then 1#8 else 0#8) : r = inB c q := by
  rw [Bool.eq_iff_iff, hr, inB_iff]
  refine forall_congr' fun i => forall_congr' fun hi => ?_
  rw [hy i hi]
  unfold cell
  cases hm : cv c.f_Mask i
  · cases hv : cv c.f_Value i
    · simp
    · rw [hc i hi hv] at hm; cases hm
  · cases cv c.f_Value i <;> cases cv q i <;> simp

end Go.Proofs.Ytabodolbdalimaa
