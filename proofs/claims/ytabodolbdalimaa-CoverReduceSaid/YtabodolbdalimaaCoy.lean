/-
  The law CoverReduce. Plain Lean. Conditions: none.
-/
import Derived.Test.YtabodolbdalimaaCow
namespace Go.Proofs.Ytabodolbdalimaa
open Go Gv
set_option linter.unusedVariables false
set_option linter.unusedSimpArgs false
set_option maxRecDepth 100000

/-- cube number i of x is not needed because of number k -/
def red (x : List T_cube_Cube) (i k : Nat) : Prop := k ≠ i ∧ insd (lget x i) (lget x k) ∧ (lget x i ≠ lget x k ∨ k < i)
noncomputable def redB (x : List T_cube_Cube) (i k : Nat) : Bool := @decide (red x i k) (Classical.propDecidable _)
theorem redB_iff {x : List T_cube_Cube} {i k : Nat} : redB x i k = true ↔ red x i k := by unfold redB; simp
noncomputable def keepB (x : List T_cube_Cube) (i : Nat) : Bool := !(List.range x.length).any (redB x i)
noncomputable def kept (x : List T_cube_Cube) (k : Nat) : List Nat := (List.range k).filter (keepB x)
theorem kept_succ {x : List T_cube_Cube} {k : Nat} : kept x (k + 1) = kept x k ++ if keepB x k = true then [k] else [] := by
  unfold kept
  rw [List.range_succ, List.filter_append]
  simp only [List.filter_cons, List.filter_nil]
theorem kept_len {x : List T_cube_Cube} {k : Nat} : (kept x k).length ≤ k := by
  have := List.length_filter_le (keepB x) (List.range k)
  rw [List.length_range] at this; exact this
theorem any_succ {f : Nat → Bool} {k : Nat} : (List.range (k + 1)).any f = ((List.range k).any f || f k) := by
  rw [List.range_succ, List.any_append]; simp

set_option maxHeartbeats 2000000 in
theorem Reduce_tot (x : List T_cube_Cube) (hx : ∀ c ∈ x, can c) (hl : x.length ≤ 100) : Tot (L_cover_Reduce x) (fun r => r = (kept x x.length).map (lget x)) := by
  unfold L_cover_Reduce
  refine Tot.loop x.length (fun k s => s.1 = (k : Int) ∧ s.2 = (kept x k).map (lget x)) (by omega) ⟨rfl, rfl⟩ (fun k s hk hi => ?_) (fun s hi => ?_)
  · obtain ⟨kk, o⟩ := s; obtain ⟨e1, e2⟩ := hi
    simp only at e1 e2; subst e1; subst e2
    refine Tot.cond (fun _ => ?_) (fun h => by simp at h; omega)
    refine .idx rfl hk ?_
    refine Tot.loop x.length (fun j s => s.2 = (j : Int) ∧ s.1 = (List.range j).any (redB x k)) (by omega) ⟨rfl, rfl⟩ (fun j s hj hi => ?_) (fun s hi => ?_)
    · obtain ⟨f, jj⟩ := s; obtain ⟨g1, g2⟩ := hi
      simp only at g1 g2; subst g1
      refine Tot.cond (fun _ => ?_) (fun h => by simp at h; omega)
      refine .idx rfl hj (.condM (P := fun r => r = true ↔ insd (lget x k) (lget x j)) (fun _ => Within_eq _ _ (can_get hx hk) (can_get hx hj)) fun y1 h1 => .eq rfl (.ret ⟨w64_succ (by omega), ?_⟩))
      rw [any_succ, ← g2]
      cases hf : f
      · rw [Bool.false_or, Bool.false_or]
        rw [hf] at h1
        have hne : (((j : Int) != (k : Int)) = true) ↔ j ≠ k := by rw [bne_iff_ne]; omega
        by_cases hjk : j = k
        · have : redB x k j = false := by
            cases h : redB x k j
            · rfl
            · exact absurd hjk (redB_iff.1 h).1
          rw [this]
          have : ((j : Int) != (k : Int)) = false := by rw [hjk]; simp
          rw [this]; rfl
        · have h1' := h1 (decide_eq_true ⟨rfl, hne.2 hjk⟩)
          rw [Bool.eq_iff_iff, redB_iff, hne.2 hjk, Bool.true_and, Bool.and_eq_true, h1']
          unfold red
          simp only [Bool.or_eq_true, Bool.not_eq_true', decide_eq_false_iff_not, decide_eq_true_eq, Int.ofNat_lt]
          exact ⟨fun h => ⟨hjk, h⟩, fun h => h.2⟩
      · simp
    · obtain ⟨f, jj⟩ := s; obtain ⟨g1, g2⟩ := hi
      simp only at g1 g2; subst g1
      refine ⟨_, by simp; rfl, ?_⟩
      have hle := kept_len (x := x) (k := k)
      have hkb : keepB x k = !f := by unfold keepB; rw [g2]
      refine .bind (P := fun o => o = (kept x (k + 1)).map (lget x)) (.cond (fun h => ?_) (fun h => .ret ?_)) fun o ho => .ret ⟨w64_succ (by omega), ho⟩
      · refine .eq (a := (kept x k).map (lget x) ++ [lget x k]) (by unfold appM; rw [if_pos]; unfold maxLen; simp only [List.length_cons, List.length_nil, List.length_map]; omega) (.ret ?_)
        have h : (!f) = true := h
        rw [kept_succ, hkb, h, List.map_append]; rfl
      · have h : (!f) = false := h
        rw [kept_succ, hkb, h, List.map_append]; simp
  · obtain ⟨kk, o⟩ := s; obtain ⟨e1, e2⟩ := hi
    simp only at e1 e2; subst e1; subst e2
    refine ⟨_, by simp; rfl, ?_⟩
    exact .ret rfl

theorem rel_inj {c d : T_cube_Cube} {p r : Bits} (hc : can c) (hd : can d) (h : rel c p) (h' : rel d r) : p = r ↔ c = d := by
  constructor
  · intro e
    subst e
    have hm : ∀ i, i < 512 → cv c.f_Mask i = cv d.f_Mask i ∧ cv c.f_Value i = cv d.f_Value i := fun i hi => by
      have := (h i hi).symm.trans (h' i hi)
      cases h1 : cv c.f_Mask i <;> cases h2 : cv d.f_Mask i
      · exact ⟨rfl, by rw [free_val hc hi h1, free_val hd hi h2]⟩
      · have h3 := (cell_two (v := c.f_Value)).2 h1
        rw [this] at h3
        rw [cell_two.1 h3] at h2; cases h2
      · have h3 := (cell_two (v := d.f_Value)).2 h2
        rw [← this] at h3
        rw [cell_two.1 h3] at h1; cases h1
      · exact ⟨rfl, (cell_same h1 h2).1 this⟩
    obtain ⟨a, b⟩ := c; obtain ⟨a', b'⟩ := d
    simp only at hm
    rw [cv_ext fun i hi => (hm i hi).1, cv_ext fun i hi => (hm i hi).2]
  · intro e
    subst e
    exact vget_ext fun i hi => by rw [h i hi, h' i hi]

theorem All2.lget {α β : Type} [Inhabited α] [Inhabited β] {R : α → β → Prop} {xs : List α} {ys : List β} (h : All2 R xs ys) {i : Nat} (hi : i < xs.length) : R (lget xs i) (lget ys i) := by
  rw [lget_eq xs hi, lget_eq ys (by rw [← h.1]; exact hi)]
  exact h.2 i hi _

set_option maxHeartbeats 2000000 in
theorem refReduce_tot (x : List T_cube_Cube) (y : List Bits) (hx : ∀ c ∈ x, can c) (hl : x.length ≤ 100) (hxy : All2 rel x y) : Tot (L_ref26_Reduce y) (fun r => r = (kept x x.length).map (lget y)) := by
  have hly := hxy.1
  unfold L_ref26_Reduce
  refine Tot.loop y.length (fun k s => s.1 = (k : Int) ∧ s.2 = (kept x k).map (lget y)) (by omega) ⟨rfl, rfl⟩ (fun k s hk hi => ?_) (fun s hi => ?_)
  · obtain ⟨kk, o⟩ := s; obtain ⟨e1, e2⟩ := hi
    simp only at e1 e2; subst e1; subst e2
    refine Tot.cond (fun _ => ?_) (fun h => by simp at h; omega)
    refine .idx rfl hk ?_
    refine Tot.loop y.length (fun j s => s.2 = (j : Int) ∧ s.1 = !(List.range j).any (redB x k)) (by omega) ⟨rfl, rfl⟩ (fun j s hj hi => ?_) (fun s hi => ?_)
    · obtain ⟨f, jj⟩ := s; obtain ⟨g1, g2⟩ := hi
      simp only at g1 g2; subst g1
      refine Tot.cond (fun _ => ?_) (fun h => by simp at h; omega)
      have hck := can_get hx (k := k) (by omega)
      have hcj := can_get hx (k := j) (by omega)
      have hrk := hxy.lget (i := k) (by omega)
      have hrj := hxy.lget (i := j) (by omega)
      refine .idx rfl hj ((refWithin_eq _ _).bind fun y1 h1 => .eq rfl ?_)
      have hw : y1 = true ↔ insd (lget x k) (lget x j) := h1.trans (within_cells hck hcj hrk hrj)
      have hr : redB x k j = (y1 && ((!decide (lget y k = lget y j)) || (decide ((j : Int) < (k : Int))))) := by
        rw [Bool.eq_iff_iff, redB_iff, Bool.and_eq_true, hw]
        unfold red
        simp only [Bool.or_eq_true, Bool.not_eq_true', decide_eq_false_iff_not, decide_eq_true_eq, Int.ofNat_lt]
        rw [rel_inj hck hcj hrk hrj]
        constructor
        · exact fun h => h.2
        · intro h
          refine ⟨fun e => ?_, h⟩
          subst e
          rcases h.2 with h3 | h3
          · exact h3 rfl
          · omega
      refine .bind (P := fun b => b = !(List.range (j + 1)).any (redB x k)) (.cond (fun h => .ret ?_) (fun h => .ret ?_)) fun b hb => .ret ⟨w64_succ (by omega), hb⟩
      · rw [any_succ, hr, h]; simp
      · rw [any_succ, hr, h, g2]; simp
    · obtain ⟨f, jj⟩ := s; obtain ⟨g1, g2⟩ := hi
      simp only at g1 g2; subst g1
      refine ⟨_, by simp; rfl, ?_⟩
      have hle := kept_len (x := x) (k := k)
      have hkb : keepB x k = f := by unfold keepB; rw [g2, hly]
      refine .bind (P := fun o => o = (kept x (k + 1)).map (lget y)) (.cond (fun h => ?_) (fun h => .ret ?_)) fun o ho => .ret ⟨w64_succ (by omega), ho⟩
      · refine .eq (a := (kept x k).map (lget y) ++ [lget y k]) (by unfold appM; rw [if_pos]; unfold maxLen; simp only [List.length_cons, List.length_nil, List.length_map]; omega) (.ret ?_)
        have h : f = true := h
        rw [kept_succ, hkb, h, List.map_append]; rfl
      · have h : f = false := h
        rw [kept_succ, hkb, h, List.map_append]; simp
  · obtain ⟨kk, o⟩ := s; obtain ⟨e1, e2⟩ := hi
    simp only at e1 e2; subst e1; subst e2
    rw [← hly]
    refine ⟨_, by simp; rfl, ?_⟩
    exact .ret rfl

/-- each cube lies in one that is kept -/
theorem kept_above (x : List T_cube_Cube) (hx : ∀ c ∈ x, can c) : ∀ (m i : Nat), i < x.length → cnt 512 (cv (lget x i).f_Mask) * x.length + i ≤ m → ∃ j, j ∈ kept x x.length ∧ insd (lget x i) (lget x j) := by
  intro m
  induction m with
  | zero =>
    intro i hi hm
    by_cases hk : keepB x i = true
    · exact ⟨i, List.mem_filter.2 ⟨List.mem_range.2 hi, hk⟩, insd_refl _⟩
    · exfalso
      have : (List.range x.length).any (redB x i) = true := by unfold keepB at hk; simpa using hk
      obtain ⟨k, hk1, hk2⟩ := List.any_eq_true.1 this
      obtain ⟨h1, h2, h3⟩ := redB_iff.1 hk2
      have hk3 := List.mem_range.1 hk1
      have hi0 : i = 0 := by omega
      subst hi0
      rcases h3 with h3 | h3
      · have hc0 : cnt 512 (cv (lget x 0).f_Mask) = 0 := by
          have : cnt 512 (cv (lget x 0).f_Mask) * x.length = 0 := by omega
          rcases Nat.mul_eq_zero.1 this with h | h
          · exact h
          · omega
        have hz : ∀ j, j < 512 → cv (lget x 0).f_Mask j = false := fun j hj => by
          cases h : cv (lget x 0).f_Mask j
          · rfl
          · have := cnt_lt_of (n := 512) (p := fun _ => false) (q := cv (lget x 0).f_Mask) hj (fun _ _ h => by cases h) rfl h
            omega
        have hz2 : ∀ j, j < 512 → cv (lget x k).f_Mask j = false := fun j hj => by
          cases h : cv (lget x k).f_Mask j
          · rfl
          · have := (h2 j hj h).1
            rw [hz j hj] at this; cases this
        apply h3
        have c0 := can_get hx (k := 0) (by omega)
        have ck := can_get hx hk3
        generalize lget x 0 = a at *
        generalize lget x k = b at *
        obtain ⟨a1, a2⟩ := a; obtain ⟨b1, b2⟩ := b
        simp only at hz hz2
        rw [cv_ext (v := a1) (w := b1) fun j hj => by rw [free_val c0 hj (hz j hj), free_val ck hj (hz2 j hj)], cv_ext (v := a2) (w := b2) fun j hj => by rw [hz j hj, hz2 j hj]]
      · omega
  | succ m ih =>
    intro i hi hm
    by_cases hk : keepB x i = true
    · exact ⟨i, List.mem_filter.2 ⟨List.mem_range.2 hi, hk⟩, insd_refl _⟩
    · have : (List.range x.length).any (redB x i) = true := by unfold keepB at hk; simpa using hk
      obtain ⟨k, hk1, hk2⟩ := List.any_eq_true.1 this
      obtain ⟨h1, h2, h3⟩ := redB_iff.1 hk2
      have hk3 := List.mem_range.1 hk1
      have hle : cnt 512 (cv (lget x k).f_Mask) ≤ cnt 512 (cv (lget x i).f_Mask) := cnt_mono fun j hj h => (h2 j hj h).1
      have hlt : cnt 512 (cv (lget x k).f_Mask) * x.length + k ≤ m := by
        by_cases he : lget x i = lget x k
        · have hki := h3.resolve_left (fun h => h he)
          rw [← he]; omega
        · have hlt : cnt 512 (cv (lget x k).f_Mask) < cnt 512 (cv (lget x i).f_Mask) := by
            have : ∃ j, j < 512 ∧ cv (lget x i).f_Mask j = true ∧ cv (lget x k).f_Mask j = false := by
              false_or_by_contra
              rename_i hno
              apply he
              have ci := can_get hx hi
              have ck := can_get hx hk3
              have hm : ∀ j, j < 512 → cv (lget x i).f_Mask j = cv (lget x k).f_Mask j := fun j hj => by
                cases h5 : cv (lget x i).f_Mask j <;> cases h6 : cv (lget x k).f_Mask j
                · rfl
                · rw [(h2 j hj h6).1] at h5; cases h5
                · exact absurd ⟨j, hj, h5, h6⟩ hno
                · rfl
              have hv : ∀ j, j < 512 → cv (lget x i).f_Value j = cv (lget x k).f_Value j := fun j hj => by
                cases h6 : cv (lget x k).f_Mask j
                · rw [free_val ck hj h6, free_val ci hj (by rw [hm j hj, h6])]
                · exact (h2 j hj h6).2
              generalize lget x i = a at *
              generalize lget x k = b at *
              obtain ⟨a1, a2⟩ := a; obtain ⟨b1, b2⟩ := b
              simp only at hm hv
              rw [cv_ext hm, cv_ext hv]
            obtain ⟨j, hj, h5, h6⟩ := this
            exact cnt_lt_of hj (fun j hj h => (h2 j hj h).1) h6 h5
          have : (cnt 512 (cv (lget x k).f_Mask) + 1) * x.length ≤ cnt 512 (cv (lget x i).f_Mask) * x.length := Nat.mul_le_mul_right _ hlt
          rw [Nat.add_mul] at this
          omega
      obtain ⟨j, h5, h6⟩ := ih k hk3 hlt
      exact ⟨j, h5, insd_trans h2 h6⟩

theorem cov_kept {x : List T_cube_Cube} (hx : ∀ c ∈ x, can c) (c : T_cube_Cube) : cov c ((kept x x.length).map (lget x)) ↔ cov c x := by
  constructor
  · intro h q hq
    obtain ⟨z, hz, hi⟩ := h q hq
    obtain ⟨j, hj, rfl⟩ := List.mem_map.1 hz
    have hj := List.mem_range.1 (List.mem_filter.1 hj).1
    exact ⟨_, by rw [lget_eq x hj]; exact List.getElem_mem hj, hi⟩
  · intro h q hq
    obtain ⟨z, hz, hi⟩ := h q hq
    obtain ⟨i, hl, rfl⟩ := List.mem_iff_getElem.1 hz
    obtain ⟨j, h1, h2⟩ := kept_above x hx _ i hl (Nat.le_refl _)
    have hj := List.mem_range.1 (List.mem_filter.1 h1).1
    refine ⟨lget x j, List.mem_map.2 ⟨j, h1, rfl⟩, insd_in (can_get hx hl) (can_get hx hj) h2 ?_⟩
    rw [lget_eq x hl]; exact hi

set_option maxHeartbeats 2000000 in
theorem reduce_ok (x0 x1 : List (BitVec 16)) : L_law26_CoverReduce x0 x1 = some true := by
  suffices h : Tot (L_law26_CoverReduce x0 x1) (fun r => r = true) from Tot.toEq h
  unfold L_law26_CoverReduce
  refine (made_tot x0 16 (by omega)).bind fun x hx => (Reduce_tot x hx.1 (by omega)).bind fun r hr => (bits26_eq x (by omega)).bind fun y3 h3 => (refReduce_tot x y3 hx.1 (by omega) h3).bind fun y4 h4 => ?_
  have hle := kept_len (x := x) (k := x.length)
  refine .cond (fun h => ?_) (fun _ => ?_)
  · exfalso
    subst hr h4
    simp at h
  have hrl : r.length ≤ 16 := by rw [hr, List.length_map]; omega
  have hrc : ∀ c ∈ r, can c := fun c hc => by
    rw [hr] at hc
    obtain ⟨j, hj, rfl⟩ := List.mem_map.1 hc
    exact can_get hx.1 (List.mem_range.1 (List.mem_filter.1 hj).1)
  refine (bits26_eq r (by omega)).bind fun y5 h5 => ?_
  have hy5 : y5.length = r.length := h5.1.symm
  have hy4 : y4.length = r.length := by rw [h4, hr, List.length_map, List.length_map]
  refine Tot.loop y5.length (fun k s => s = (k : Int)) (by omega) rfl (fun k s hk hi => ?_) (fun s hi => ?_)
  · subst hi
    refine Tot.cond (fun _ => ?_) (fun h => by simp at h; omega)
    refine .idx rfl hk (.idx rfl (by omega) (.cond (fun h => ?_) (fun _ => .ret (w64_succ (by omega)))))
    exfalso
    have hkr : k < r.length := by omega
    have e : lget y5 k = lget y4 k := by
      have g1 := h5.lget hkr
      have hkk : k < (kept x x.length).length := by rw [hr, List.length_map] at hkr; exact hkr
      have hj := List.mem_range.1 (List.mem_filter.1 (List.getElem_mem hkk)).1
      have g2 := h3.lget hj
      have e1 : lget r k = lget x (kept x x.length)[k] := by rw [lget_eq r hkr]; subst hr; rw [List.getElem_map]
      have e2 : lget y4 k = lget y3 (kept x x.length)[k] := by rw [lget_eq y4 (by omega)]; subst h4; rw [List.getElem_map]
      rw [e2]
      rw [e1] at g1
      exact vget_ext fun i hi => by rw [g1 i hi, g2 i hi]
    rw [e] at h; simp at h
  · subst hi
    refine ⟨_, by simp; rfl, ?_⟩
    simp only [Sum.elim_inl]
    refine Tot.loop x.length (fun k s => s.1 = (k : Int) ∧ s.2 = (List.range k).map (fun i => lget x (x.length - 1 - i))) (by omega) ⟨rfl, rfl⟩ (fun k s hk hi => ?_) (fun s hi => ?_)
    · obtain ⟨kk, o⟩ := s; obtain ⟨e1, e2⟩ := hi
      simp only at e1 e2; subst e1; subst e2
      refine Tot.cond (fun _ => ?_) (fun h => by simp at h; omega)
      have hw : w64 (w64 ((x.length : Int) - 1) - (k : Int)) = ((x.length - 1 - k : Nat) : Int) := by
        rw [w64_in (x := (x.length : Int) - 1) (by omega) (by omega), w64_in (by omega) (by omega)]; omega
      refine .idx hw (by omega) (.eq (a := (List.range k).map (fun i => lget x (x.length - 1 - i)) ++ [lget x (x.length - 1 - k)]) (by unfold appM; rw [if_pos]; unfold maxLen; simp only [List.length_cons, List.length_nil, List.length_map, List.length_range]; omega) (.ret ⟨w64_succ (by omega), ?_⟩))
      rw [List.range_succ, List.map_append]; rfl
    · obtain ⟨kk, o⟩ := s; obtain ⟨e1, e2⟩ := hi
      simp only at e1 e2; subst e1; subst e2
      refine ⟨_, by simp; rfl, ?_⟩
      simp only
      obtain ⟨tr, htr⟩ : ∃ tr, (List.range x.length).map (fun i => lget x (x.length - 1 - i)) = tr := ⟨_, rfl⟩
      rw [htr]
      have hmem : ∀ z, z ∈ tr ↔ z ∈ x := fun z => by
        rw [← htr, List.mem_map]
        constructor
        · rintro ⟨i, hi, rfl⟩
          have := List.mem_range.1 hi
          have hlt : x.length - 1 - i < x.length := by omega
          rw [lget_eq x hlt]; exact List.getElem_mem hlt
        · intro hz
          obtain ⟨i, hi, rfl⟩ := List.mem_iff_getElem.1 hz
          refine ⟨x.length - 1 - i, List.mem_range.2 (by omega), ?_⟩
          rw [show x.length - 1 - (x.length - 1 - i) = i by omega, lget_eq x hi]
      have htl : tr.length ≤ 16 := by rw [← htr, List.length_map, List.length_range]; exact hx.2
      have htc : ∀ c ∈ tr, can c := fun c hc => hx.1 c ((hmem c).1 hc)
      refine (made_tot x1 2 (by omega)).bind fun c hc => .eq (app_ok c (by omega)) ?_
      have hys := can_app hc.1
      have hlen : (c ++ [default]).length ≤ 3 := by simp; omega
      generalize c ++ [default] = ys at hys hlen
      refine Tot.loop ys.length (fun k s => s = (k : Int)) (by omega) rfl (fun k s hk hi => ?_) (fun s hi => ?_)
      · subst hi
        refine Tot.cond (fun _ => ?_) (fun h => by simp at h; omega)
        refine .idx rfl hk ?_
        have hy := can_get hys hk
        generalize lget ys k = y at hy
        refine (Covered_small y x hy hx.1 hx.2).bind fun y9 h9 => (Covered_small y r hy hrc hrl).bind fun y10 h10 => (Covered_small y tr hy htc htl).bind fun y11 h11 => .eq rfl (.cond (fun h => ?_) (fun _ => .ret (w64_succ (by omega))))
        exfalso
        have ct : cov y tr ↔ cov y x := by
          unfold cov
          constructor
          · intro h q hq
            obtain ⟨z, hz, hi⟩ := h q hq
            exact ⟨z, (hmem z).1 hz, hi⟩
          · intro h q hq
            obtain ⟨z, hz, hi⟩ := h q hq
            exact ⟨z, (hmem z).2 hz, hi⟩
        have ck := cov_kept hx.1 y
        rw [← hr] at ck
        have e1 : y9.1 = y10.1 := by rw [Bool.eq_iff_iff, h9.2, h10.2, ck]
        have e2 : y9.1 = y11.1 := by rw [Bool.eq_iff_iff, h9.2, h11.2, ct]
        rw [h9.1, h10.1, h11.1, ← e1, ← e2] at h
        simp at h
      · subst hi
        refine ⟨_, by simp; rfl, ?_⟩
        simp only [Sum.elim_inl]
        rw [begun26_ok]
        exact .eq rfl (.ret rfl)
end Go.Proofs.Ytabodolbdalimaa
