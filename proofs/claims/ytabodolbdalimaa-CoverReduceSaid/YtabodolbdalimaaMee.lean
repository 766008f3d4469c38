/-
  The law CubeMeets, in plain Lean. Conditions: none.
-/
import Derived.Test.YtabodolbdalimaaPop
import Derived.Test.YtabodolbdalimaaPar
namespace Go.Proofs.Ytabodolbdalimaa
open Go Gv
set_option linter.unusedVariables false
set_option linter.unusedSimpArgs false
set_option maxRecDepth 100000

theorem cell_two {v m : Vector T_api_Value 4} {i : Nat} : cell v m i = 2#8 ↔ cv m i = false := by
  unfold cell
  cases cv m i
  · simp
  · cases cv v i <;> simp
theorem cell_same {v m v' m' : Vector T_api_Value 4} {i : Nat} (h : cv m i = true) (h' : cv m' i = true) : cell v m i = cell v' m' i ↔ cv v i = cv v' i := by
  unfold cell
  rw [h, h']
  cases cv v i <;> cases cv v' i <;> simp

theorem refMeet_eq (p r : Vector (BitVec 8) 512) : Tot (L_ref25_Meet p r) (fun o => (o.2 = true ↔ ∀ i, i < 512 → vget p i = 2#8 ∨ vget r i = 2#8 ∨ vget p i = vget r i) ∧
    (o.2 = true → ∀ i, i < 512 → vget o.1 i = if vget p i = 2#8 then vget r i else vget p i)) := by
  unfold L_ref25_Meet
  refine Tot.loop 512 (fun k s => s.1 = k ∧ (∀ i, i < 512 → vget s.2 i = if i < k ∧ vget p i = 2#8 then vget r i else vget p i) ∧ ∀ i, i < k → vget p i = 2#8 ∨ vget r i = 2#8 ∨ vget p i = vget r i) (by omega)
    ⟨rfl, fun i hi => by simp, fun i hi => by omega⟩ (fun k s hk hi => ?_) (fun s hi => ?_)
  · obtain ⟨i, v⟩ := s; obtain ⟨h1, h2, h3⟩ := hi
    simp only at h1 h2 h3; subst h1
    have hv : vget v k = vget p k := by rw [h2 k hk, if_neg (by omega)]
    refine Tot.cond (fun _ => ?_) (fun h => by simp at h; omega)
    refine .idx rfl hk (.cond (fun h => ?_) (fun h => ?_))
    · have hp : vget p k = 2#8 := by simpa [hv] using h
      refine .idx rfl hk (.idx rfl hk (.ret ⟨w64_succ (by omega), fun i hi => ?_, fun i hi => ?_⟩))
      · simp only [vget_vset _ _ hk]
        by_cases hik : i = k
        · subst hik; simp [hp]
        · rw [if_neg hik, h2 i hi]
          have : (i < k + 1) ↔ i < k := by omega
          simp [this]
      · by_cases hik : i = k
        · subst hik; exact .inl hp
        · exact h3 i (by omega)
    · have hp : vget p k ≠ 2#8 := by simpa [hv] using h
      refine .idx rfl hk (.condM (P := fun q => q = k) (fun _ => ⟨k, idx_nat hk, rfl⟩) fun k5 h5 => .condM (P := fun q => q = k) (fun _ => ⟨k, idx_nat hk, rfl⟩) fun k6 h6 => .cond (fun h => .ret (.ret ?_)) (fun h => .ret ⟨w64_succ (by omega), fun i hi => ?_, fun i hi => ?_⟩))
      · simp only [Bool.and_eq_true] at h
        rw [h5 h.1, h6 h.1] at h
        have ha : vget r k ≠ 2#8 := by simpa using h.1
        have hb : vget p k ≠ vget r k := by simpa [hv] using h.2
        refine ⟨⟨fun h => (by cases h), fun hall => ?_⟩, fun h => (by cases h)⟩
        rcases hall k hk with h | h | h
        · exact absurd h hp
        · exact absurd h ha
        · exact absurd h hb
      · rw [h2 i hi]
        by_cases hik : i = k
        · subst hik; simp [hp]
        · have : (i < k + 1) ↔ i < k := by omega
          simp [this]
      · by_cases hik : i = k
        · subst hik
          by_cases hr : vget r i = 2#8
          · exact .inr (.inl hr)
          · refine .inr (.inr ?_)
            have hr' : (vget r i != 2#8) = true := by simpa using hr
            rw [h5 hr', h6 hr', hr', hv] at h
            simpa using h
        · exact h3 i (by omega)
  · obtain ⟨i, v⟩ := s; obtain ⟨h1, h2, h3⟩ := hi
    simp only at h1 h2 h3; subst h1
    refine ⟨_, rfl, .ret ⟨⟨fun _ => h3, fun _ => rfl⟩, fun _ i hi => ?_⟩⟩
    rw [h2 i hi]; simp [hi]

theorem refWithin_eq (p r : Vector (BitVec 8) 512) : Tot (L_ref25_Within p r) (fun o => o = true ↔ ∀ i, i < 512 → vget r i = 2#8 ∨ vget p i = vget r i) := by
  unfold L_ref25_Within
  refine Tot.loop 512 (fun k s => s = k ∧ ∀ i, i < k → vget r i = 2#8 ∨ vget p i = vget r i) (by omega)
    ⟨rfl, fun i hi => by omega⟩ (fun k s hk hi => ?_) (fun s hi => ?_)
  · obtain ⟨h1, h3⟩ := hi
    subst h1
    refine Tot.cond (fun _ => ?_) (fun h => by simp at h; omega)
    refine .idx rfl hk (.condM (P := fun q => q = k) (fun _ => ⟨k, idx_nat hk, rfl⟩) fun k5 h5 => .condM (P := fun q => q = k) (fun _ => ⟨k, idx_nat hk, rfl⟩) fun k6 h6 => .cond (fun h => .ret (.ret ?_)) (fun h => .ret ⟨w64_succ (by omega), fun i hi => ?_⟩))
    · simp only [Bool.and_eq_true] at h
      rw [h5 h.1, h6 h.1] at h
      have ha : vget r k ≠ 2#8 := by simpa using h.1
      have hb : vget p k ≠ vget r k := by simpa using h.2
      refine ⟨fun h => (by cases h), fun hall => ?_⟩
      rcases hall k hk with h | h
      · exact absurd h ha
      · exact absurd h hb
    · by_cases hik : i = k
      · subst hik
        by_cases hr : vget r i = 2#8
        · exact .inl hr
        · refine .inr ?_
          have hr' : (vget r i != 2#8) = true := by simpa using hr
          rw [h5 hr', h6 hr', hr'] at h
          simpa using h
      · exact h3 i (by omega)
  · obtain ⟨h1, h3⟩ := hi
    subst h1
    exact ⟨_, rfl, .ret ⟨fun _ => h3, fun _ => rfl⟩⟩

theorem refOnes_eq : Tot (L_ref01_Ones 128) (fun r => ∀ j, j < 128 → vb r j = true) := by
  unfold L_ref01_Ones
  refine Tot.loop 128 (fun k s => s.1 = k ∧ ∀ j, j < k → vget s.2 j = true) (by omega)
    ⟨rfl, fun j hj => by omega⟩ (fun k s hk hi => ?_) (fun s hi => ?_)
  · obtain ⟨i, v⟩ := s; obtain ⟨h1, h2⟩ := hi
    simp only at h1 h2; subst h1
    refine .eq (a := 128) (by rfl) ?_
    refine Tot.cond (fun _ => ?_) (fun h => by simp at h; omega)
    refine .idx rfl hk (.ret ⟨w64_succ (by omega), fun j hj => ?_⟩)
    simp only [vget_vset _ _ hk]
    by_cases hj1 : j = k
    · rw [if_pos hj1]
    · rw [if_neg hj1]; exact h2 j (by omega)
  · obtain ⟨i, v⟩ := s; obtain ⟨h1, h2⟩ := hi
    simp only at h1 h2; subst h1
    refine ⟨_, rfl, (Make_eq v).bind fun r hr => .ret fun j hj => ?_⟩
    rw [hr j hj, h2 j hj]

theorem refContains_eq (p : Vector (BitVec 8) 512) (q : Vector T_api_Value 4) : Tot (L_ref25_Contains p q) (fun o => o = true ↔ ∀ i, i < 512 → vget p i = 2#8 ∨ vget p i = if cv q i then 1#8 else 0#8) := by
  unfold L_ref25_Contains
  refine refOnes_eq.bind fun o1 g1 => refOnes_eq.bind fun o2 g2 => refOnes_eq.bind fun o3 g3 => refOnes_eq.bind fun o4 g4 => .eq rfl ((Read25_eq _ _).bind fun y hy => ?_)
  have hy : ∀ i, i < 512 → vget y i = if cv q i then 1#8 else 0#8 := by
    intro i hi
    rw [hy i hi]
    unfold cell
    have : cv (vset (vset (vset (vset (default : Vector T_api_Value 4) 0 o1) 1 o2) 2 o3) 3 o4) i = true := by
      unfold cv
      simp only [vget_vset _ _ (show 0 < 4 by omega), vget_vset _ _ (show 1 < 4 by omega), vget_vset _ _ (show 2 < 4 by omega), vget_vset _ _ (show 3 < 4 by omega)]
      have hj : 127 - i % 128 < 128 := by omega
      split
      · exact g4 _ hj
      · split
        · exact g3 _ hj
        · split
          · exact g2 _ hj
          · split
            · exact g1 _ hj
            · omega
    rw [this]; rfl
  refine Tot.loop 512 (fun k s => s = k ∧ ∀ i, i < k → vget p i = 2#8 ∨ vget p i = if cv q i then 1#8 else 0#8) (by omega)
    ⟨rfl, fun i hi => by omega⟩ (fun k s hk hi => ?_) (fun s hi => ?_)
  · obtain ⟨h1, h3⟩ := hi
    subst h1
    refine Tot.cond (fun _ => ?_) (fun h => by simp at h; omega)
    refine .idx rfl hk (.condM (P := fun q => q = k) (fun _ => ⟨k, idx_nat hk, rfl⟩) fun k5 h5 => .condM (P := fun q => q = k) (fun _ => ⟨k, idx_nat hk, rfl⟩) fun k6 h6 => .cond (fun h => .ret (.ret ?_)) (fun h => .ret ⟨w64_succ (by omega), fun i hi => ?_⟩))
    · simp only [Bool.and_eq_true] at h
      rw [h5 h.1, h6 h.1, hy k hk] at h
      have ha : vget p k ≠ 2#8 := by simpa using h.1
      have hb : vget p k ≠ if cv q k then 1#8 else 0#8 := by simpa using h.2
      refine ⟨fun h => (by cases h), fun hall => ?_⟩
      rcases hall k hk with h | h
      · exact absurd h ha
      · exact absurd h hb
    · by_cases hik : i = k
      · subst hik
        by_cases hr : vget p i = 2#8
        · exact .inl hr
        · refine .inr ?_
          have hr' : (vget p i != 2#8) = true := by simpa using hr
          rw [h5 hr', h6 hr', hr', hy i hk] at h
          simpa using h
      · exact h3 i (by omega)
  · obtain ⟨h1, h3⟩ := hi
    subst h1
    exact ⟨_, rfl, .ret ⟨fun _ => h3, fun _ => rfl⟩⟩

theorem refFree_eq (p : Vector (BitVec 8) 512) : Tot (L_ref25_Free p) (fun r => r = (cnt 512 (fun i => vget p i == 2#8) : Nat)) := by
  unfold L_ref25_Free
  refine Tot.loop 512 (fun k s => s.2 = k ∧ s.1 = (cnt k (fun i => vget p i == 2#8) : Nat)) (by omega)
    ⟨rfl, rfl⟩ (fun k s hk hi => ?_) (fun s hi => ?_)
  · obtain ⟨n, i⟩ := s; obtain ⟨h1, h2⟩ := hi
    simp only at h1 h2; subst h1; subst h2
    refine Tot.cond (fun _ => ?_) (fun h => by simp at h; omega)
    have hle := cnt_le (n := k) (p := fun i => vget p i == 2#8)
    refine .idx rfl hk (.bind (P := fun (m : Int) => m = (cnt (k + 1) (fun i => vget p i == 2#8) : Nat)) (.cond (fun h => .ret ?_) (fun h => .ret ?_)) fun m hm => .ret ⟨w64_succ (by omega), hm⟩)
    · rw [cnt_succ, h, w64_in (by omega) (by omega)]; simp
    · rw [cnt_succ, h]; simp
  · obtain ⟨n, i⟩ := s; obtain ⟨h1, h2⟩ := hi
    simp only at h1 h2; subst h1; subst h2
    exact ⟨_, rfl, .ret rfl⟩

theorem cnt_word (w : T_api_Value) : cnt 64 w.f_Lo.getLsbD + cnt 64 w.f_Hi.getLsbD = cnt 128 (vb w) := by
  have h1 : cnt 64 w.f_Lo.getLsbD = cnt 64 (vb w) := cnt_congr fun k hk => by simp [vb, hk]
  have h2 : cnt 64 w.f_Hi.getLsbD = cnt 64 (fun i => vb w (64 + i)) := cnt_congr fun k hk => by simp [vb, show ¬ (64 + k < 64) by omega]
  have h3 := cnt_append (m := 64) (n := 64) (p := vb w)
  simp only [Nat.reduceAdd] at h3
  omega
theorem cnt_cv (m : Vector T_api_Value 4) (k n : Nat) (hn : n = 128) : cnt (n * k + n) (cv m) = cnt (n * k) (cv m) + cnt n (vb (vget m k)) := by
  have h1 : cnt n (fun i => cv m (n * k + i)) = cnt n (fun i => vb (vget m k) (n - 1 - i)) :=
    cnt_congr fun i hi => by subst hn; unfold cv; rw [show (128 * k + i) / 128 = k by omega, show 127 - (128 * k + i) % 128 = 128 - 1 - i by omega]
  rw [cnt_append, h1, cnt_rev]

theorem Free_eq (x : T_cube_Cube) : Tot (L_cube_Free x) (fun r => r = 512 - (cnt 512 (cv x.f_Mask) : Nat)) := by
  unfold L_cube_Free
  refine Tot.loop 4 (fun k s => s.2 = k ∧ s.1 = 512 - (cnt (128 * k) (cv x.f_Mask) : Nat)) (by omega)
    ⟨rfl, by simp [cnt, val]⟩ (fun k s hk hi => ?_) (fun s hi => ?_)
  · obtain ⟨n, i⟩ := s; obtain ⟨h1, h2⟩ := hi
    simp only at h1 h2; subst h1; subst h2
    refine Tot.cond (fun _ => ?_) (fun h => by simp at h; omega)
    refine .idx rfl hk (.eq (OnesCount_eq _) (.eq (OnesCount_eq _) (.ret ⟨w64_succ (by omega), ?_⟩)))
    have h1 := cnt_word (vget x.f_Mask k)
    have h2 := cnt_cv x.f_Mask k 128 rfl
    have e2 : 128 * (k + 1) = 128 * k + 128 := by omega
    rw [e2]
    have h3 := cnt_le (n := 128) (p := vb (vget x.f_Mask k))
    have h4 := cnt_le (n := 128 * k) (p := cv x.f_Mask)
    simp only
    rw [w64_in (x := (cnt 64 (vget x.f_Mask k).f_Hi.getLsbD : Int) + (cnt 64 (vget x.f_Mask k).f_Lo.getLsbD : Int)) (by omega) (by omega), w64_in (by omega) (by omega)]
    omega
  · obtain ⟨n, i⟩ := s; obtain ⟨h1, h2⟩ := hi
    simp only [Nat.reduceMul] at h1 h2; subst h1
    exact ⟨_, rfl, .ret h2⟩

theorem Within_eq (x y : T_cube_Cube) (hx : can x) (hy : can y) : Tot (L_cube_Within x y) (fun r => r = true ↔ ∀ i, i < 512 → cv y.f_Mask i = true → cv x.f_Mask i = true ∧ cv x.f_Value i = cv y.f_Value i) := by
  unfold L_cube_Within
  refine (Meet_eq x y).bind fun m ⟨h1, h2, h3⟩ => .ret ?_
  rw [Bool.and_eq_true, decide_eq_true_iff]
  constructor
  · rintro ⟨ht, he⟩ i hi hm
    obtain ⟨h4, h5⟩ := h3 ht
    rw [he] at h4 h5
    have hxm : cv x.f_Mask i = true := by rw [h5 i hi, hm]; simp
    exact ⟨hxm, h1.1 ht i hi hxm hm⟩
  · intro h
    have ha : agree x y := fun i hi _ hm => (h i hi hm).2
    have ht := h1.2 ha
    obtain ⟨h4, h5⟩ := h3 ht
    refine ⟨ht, ?_⟩
    have e1 : m.1.f_Value = x.f_Value := cv_ext fun i hi => by
      rw [h4 i hi]
      cases hv : cv y.f_Value i
      · simp
      · simp [(h i hi (hy i hi hv)).2, hv]
    have e2 : m.1.f_Mask = x.f_Mask := cv_ext fun i hi => by
      rw [h5 i hi]
      cases hv : cv y.f_Mask i
      · simp
      · simp [(h i hi hv).1]
    cases hm : m.1; cases x; simp_all

theorem canonical_id {x : T_cube_Cube} (hx : can x) : Tot (L_law25_canonical x) (fun c => c = x) :=
  (canonical_eq x).mono fun c ⟨h1, h2⟩ => by
    have : c.f_Value = x.f_Value := cv_ext fun i hi => by
      rw [h2 i hi]
      cases hv : cv x.f_Value i
      · simp
      · simp [hx i hi hv]
    cases c; cases x; simp_all

theorem can_default : can default := fun i _ h => by
  have : cv (default : T_cube_Cube).f_Value i = false := cv_default i
  rw [this] at h; cases h

theorem can_get {l : List T_cube_Cube} (h : ∀ c ∈ l, can c) {k : Nat} (hk : k < l.length) : can (lget l k) := by
  rw [lget_eq l hk]; exact h _ (List.getElem_mem hk)

/-- the point that the loop makes -/
theorem own_loop {x : T_cube_Cube} (q0 : Vector T_api_Value 4) {β : Type} {f : (Int × Bool × Vector T_api_Value 4) → Option β} {P : β → Prop}
    (k : ∀ q', (∀ i, i < 512 → cv q' i = (cv x.f_Value i || (cv q0 i && !cv x.f_Mask i))) → Tot (f (4, false, q')) P) :
    Tot ((loopM (σ := Int × (Vector T_api_Value 4)) (ε := (Int × Bool × (Vector T_api_Value 4))) FUEL (fun s3 =>
              cond (decide (s3.1 < 4)) (
                (idx 4 s3.1).bind fun k3 =>
                (idx 4 s3.1).bind fun k4 =>
                (idx 4 s3.1).bind fun k5 =>
                (L_ref01_Not (vget (x.f_Mask) k5) 128).bind fun y16 =>
                (L_ref01_And (vget s3.2 k4) y16).bind fun y17 =>
                (L_ref01_Or (vget (x.f_Value) k3) y17).bind fun y18 =>
                (idx 4 s3.1).bind fun k6 =>
                some (.inl (w64 (s3.1 + 1), vset s3.2 k6 y18))) (
                some (.inr (s3.1, decide (s3.1 < 4), s3.2)))) (0, q0)).bind f) P := by
  refine Tot.loop 4 (fun k s => s.1 = k ∧ ∀ j, j < 4 → ∀ i, i < 128 → vb (vget s.2 j) i = if j < k then (vb (vget x.f_Value j) i || (vb (vget q0 j) i && !vb (vget x.f_Mask j) i)) else vb (vget q0 j) i) (by omega)
    ⟨rfl, fun j hj i hi => by simp⟩ (fun k s hk hi => ?_) (fun s hi => ?_)
  · obtain ⟨i, v⟩ := s; obtain ⟨h1, h2⟩ := hi
    simp only at h1 h2; subst h1
    refine Tot.cond (fun _ => ?_) (fun h => by simp at h; omega)
    refine .idx rfl hk (.idx rfl hk (.idx rfl hk ((refNot_eq _).bind fun y3 h3 => (refAnd_eq _ _).bind fun y4 h4 => (refOr_eq _ _).bind fun y5 h5 => .idx rfl hk (.ret ⟨w64_succ (by omega), fun j hj i hi => ?_⟩))))
    simp only [vget_vset _ _ hk]
    by_cases hj1 : j = k
    · subst hj1
      rw [if_pos rfl, if_pos (by omega), h5 i hi, h4, vb_band, h3 i hi, h2 j hj i hi, if_neg (by omega)]
    · rw [if_neg hj1, h2 j hj i hi]
      have : (j < k + 1) ↔ j < k := by omega
      simp [this]
  · obtain ⟨i, q'⟩ := s; obtain ⟨h1, h2⟩ := hi
    simp only at h1 h2; subst h1
    refine ⟨_, rfl, k q' fun i hi => ?_⟩
    unfold cv
    rw [h2 _ (by omega) _ (by omega), if_pos (by omega)]

theorem contains_agree {c : T_cube_Cube} (hc : can c) {q : Vector T_api_Value 4} {y : Vector (BitVec 8) 512} (hy : ∀ i, i < 512 → vget y i = cell c.f_Value c.f_Mask i) {r : Bool}
    (hr : r = true ↔ ∀ i, i < 512 → vget y i = 2#8 ∨ vget y i = if cv q i then 1#8 else 0#8) : r = inB c q := by
  rw [Bool.eq_iff_iff, hr, inB_iff]
  refine forall_congr' fun i => forall_congr' fun hi => ?_
  rw [hy i hi]
  unfold cell
  cases hm : cv c.f_Mask i
  · cases hv : cv c.f_Value i
    · simp
    · rw [hc i hi hv] at hm; cases hm
  · cases cv c.f_Value i <;> cases cv q i <;> simp

end Go.Proofs.Ytabodolbdalimaa
