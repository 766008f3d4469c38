/-
  The laws CoverDecides, CoverParts, CoverPoints. Plain Lean. Conditions: none.
-/
import Derived.Test.YtabodolbdalimaaCor
namespace Go.Proofs.Ytabodolbdalimaa
open Go Gv
set_option linter.unusedVariables false
set_option linter.unusedSimpArgs false
set_option maxRecDepth 100000

theorem word_sub (a b : BitVec 16) (s t : Nat) : (((a &&& b).setWidth 64 >>> s) &&& 3#64) <<< t &&& ((a.setWidth 64 >>> s) &&& 3#64) <<< t = (((a &&& b).setWidth 64 >>> s) &&& 3#64) <<< t := by
  apply BitVec.eq_of_getLsbD_eq
  intro i hi
  simp only [BitVec.getLsbD_and, BitVec.getLsbD_shiftLeft, BitVec.getLsbD_ushiftRight, BitVec.getLsbD_setWidth]
  cases h1 : a.getLsbD (s + (i - t)) <;> cases h2 : b.getLsbD (s + (i - t)) <;> simp

/-- canonical, word by word -/
def canW (c : T_cube_Cube) : Prop := ∀ k, k < 4 → (vget c.f_Value k).f_Hi &&& (vget c.f_Mask k).f_Hi = (vget c.f_Value k).f_Hi ∧ (vget c.f_Value k).f_Lo &&& (vget c.f_Mask k).f_Lo = (vget c.f_Value k).f_Lo
theorem canW_can {c : T_cube_Cube} (h : canW c) : can c := fun i hi hv => by
  unfold cv vb at *
  obtain ⟨h1, h2⟩ := h (i / 128) (by omega)
  split at hv
  · rename_i hlt
    rw [if_pos hlt]
    rw [← h2, BitVec.getLsbD_and, Bool.and_eq_true] at hv; exact hv.2
  · rename_i hlt
    rw [if_neg hlt]
    rw [← h1, BitVec.getLsbD_and, Bool.and_eq_true] at hv; exact hv.2

set_option maxHeartbeats 2000000 in
theorem made_tot (x : List (BitVec 16)) (n : Nat) (hn : n ≤ 100) : Tot (L_law26_made x n) (fun r => (∀ c ∈ r, can c) ∧ r.length ≤ n) := by
  unfold L_law26_made
  refine Tot.loop n (fun k s => s.1 = ((2 * k : Nat) : Int) ∧ s.2.length = k ∧ ∀ c ∈ s.2, can c) (by omega) ⟨rfl, rfl, fun c hc => by cases hc⟩ (fun k s hk hi => ?_) (fun s hi => ?_)
  · obtain ⟨i, out⟩ := s; obtain ⟨e1, e2, e3⟩ := hi
    simp only at e1 e2 e3; subst e1
    have hw : w64 (((2 * k : Nat) : Int) + 1) = ((2 * k + 1 : Nat) : Int) := w64_succ (by omega)
    refine .eq rfl (.cond (fun h => ?_) (fun h => ?_))
    · simp only [Bool.and_eq_true, decide_eq_true_eq, hw] at h
      refine .idx rfl (by omega) (.idx rfl (by omega) (.idx hw (by omega) ?_))
      refine Tot.loop 4 (fun j s => s.1 = (j : Int) ∧ canW s.2) (by omega) ⟨rfl, fun j hj => by rw [show (default : T_cube_Cube).f_Value = default from rfl, show (default : T_cube_Cube).f_Mask = default from rfl, vget_default]; exact ⟨rfl, rfl⟩⟩ (fun j s hj hi => ?_) (fun s hi => ?_)
      · obtain ⟨jj, c⟩ := s; obtain ⟨g1, g2⟩ := hi
        simp only at g1 g2; subst g1
        refine Tot.cond (fun _ => ?_) (fun h => by simp at h; omega)
        refine .idx rfl hj ?_
        refine .eq rfl ?_
        refine .eq rfl ?_
        refine .bind (P := canW) (.cond (fun _ => ?_) (fun _ => ?_)) fun m hm => .ret ⟨w64_succ (by omega), hm⟩
        · refine .eq rfl ?_
          refine .eq rfl ?_
          refine .idx rfl hj ?_
          refine .eq rfl ?_
          refine .idx rfl hj ?_
          refine .eq rfl ?_
          refine .ret fun k' hk' => ?_
          simp only [vget_vset _ _ hj]
          by_cases hkj : k' = j
          · subst hkj
            simp only [if_true]
            exact ⟨word_sub _ _ _ _, (g2 k' hk').2⟩
          · simp only [if_neg hkj]
            exact g2 k' hk'
        · refine .idx rfl hj ?_
          refine .eq rfl ?_
          refine .idx rfl hj ?_
          refine .eq rfl ?_
          refine .ret fun k' hk' => ?_
          simp only [vget_vset _ _ hj]
          by_cases hkj : k' = j
          · subst hkj
            simp only [if_true]
            exact ⟨(g2 k' hk').1, word_sub _ _ _ _⟩
          · simp only [if_neg hkj]
            exact g2 k' hk'
      · obtain ⟨jj, c⟩ := s; obtain ⟨g1, g2⟩ := hi
        simp only at g1 g2; subst g1
        refine ⟨_, rfl, ?_⟩
        refine .eq (a := out ++ [c]) (by unfold appM; rw [if_pos]; unfold maxLen; simp only [List.length_cons, List.length_nil]; omega) ?_
        refine .ret ⟨?_, by simp [e2], fun d hd => ?_⟩
        · show w64 (((2 * k : Nat) : Int) + 2) = _
          rw [w64_in (by omega) (by omega)]; omega
        · simp at hd
          rcases hd with hd | hd
          · exact e3 d hd
          · subst hd; exact canW_can g2
    · refine .ret ?_
      exact .ret ⟨e3, by show out.length ≤ n; omega⟩
  · obtain ⟨i, out⟩ := s; obtain ⟨e1, e2, e3⟩ := hi
    simp only at e1 e2 e3; subst e1
    refine ⟨_, by simp only [Option.bind_some, e2, Int.lt_irrefl, decide_false, Bool.and_false, cond_false]; rfl, ?_⟩
    exact .ret ⟨e3, by show out.length ≤ n; omega⟩

theorem can_app {l : List T_cube_Cube} (h : ∀ c ∈ l, can c) : ∀ c ∈ l ++ [default], can c := fun c hc => by
  simp at hc
  rcases hc with hc | hc
  · exact h c hc
  · subst hc; exact can_default
theorem app_ok (l : List T_cube_Cube) (h : l.length ≤ 100) : appM 128 l [default] = some (l ++ [default]) := by
  unfold appM; rw [if_pos]; unfold maxLen; simp only [List.length_cons, List.length_nil]; omega

theorem decides_ok (x0 x1 : List (BitVec 16)) : L_law26_CoverDecides x0 x1 = some true := by
  suffices h : Tot (L_law26_CoverDecides x0 x1) (fun r => r = true) from Tot.toEq h
  unfold L_law26_CoverDecides
  refine (made_tot x0 17 (by omega)).bind fun x hx => (made_tot x1 2 (by omega)).bind fun c hc => .eq (app_ok c (by omega)) ?_
  have hys := can_app hc.1
  have hlen : (c ++ [default]).length ≤ 3 := by simp; omega
  generalize c ++ [default] = ys at hys hlen
  refine Tot.loop ys.length (fun k s => s = (k : Int)) (by omega) rfl (fun k s hk hi => ?_) (fun s hi => ?_)
  · subst hi
    refine Tot.cond (fun _ => ?_) (fun h => by simp at h; omega)
    refine .idx rfl hk ?_
    have hy := can_get hys hk
    generalize lget ys k = y at hy
    refine (Covered_tot y x hy hx.1 (by omega)).bind fun y4 h4 => (bits26_eq [y] (by simp)).bind fun y5 h5 => ?_
    obtain ⟨p, r, rfl, hp, _⟩ := h5.cons_inv
    refine .idx (k := 0) rfl (by simp) ((bits26_eq x (by omega)).bind fun y6 h6 => ?_)
    show Tot ((L_ref26_Covered p y6).bind _) _
    have hB : ∀ b ∈ y6, isB b := fun b hb => by
      obtain ⟨t, ht, rfl⟩ := List.mem_iff_getElem.1 hb
      exact rel_isB (h6.2 t (by rw [h6.1]; exact ht) ht)
    refine (refCovered_tot p y6 (rel_isB hp) hB (by rw [← h6.1]; omega)).bind fun y7 h7 => ?_
    have he := covered_same hy hx.1 hp h6 h4 h7
    subst he
    exact .cond (fun h => by simp at h) (fun _ => .ret (w64_succ (by omega)))
  · subst hi
    refine ⟨_, by simp; rfl, ?_⟩
    simp only [Sum.elim_inl]
    rw [begun26_ok]
    exact .eq rfl (.ret rfl)

theorem Covered_small (c : T_cube_Cube) (l : List T_cube_Cube) (hc : can c) (hl : ∀ x ∈ l, can x) (hlen : l.length ≤ 16) : Tot (L_cover_Covered c l) (fun r => r.2 = 0 ∧ (r.1 = true ↔ cov c l)) :=
  (Covered_tot c l hc hl (by omega)).mono fun r h => by
    rw [if_neg (by have := List.length_filter_le (agB c) l; omega)] at h; exact h

theorem cov_fix {c d e : T_cube_Cube} {l : List T_cube_Cube} {k : Nat} (hc : can c) (hk : k < 512) (h0 : (cv c.f_Mask k = true → d = c) ∧ (cv c.f_Mask k = false → fixed1 c k false d)) (h1 : (cv c.f_Mask k = true → e = c) ∧ (cv c.f_Mask k = false → fixed1 c k true e)) : can d ∧ can e ∧ (cov c l ↔ cov d l ∧ cov e l) := by
  cases hm : cv c.f_Mask k
  · exact ⟨fixed1_can hc (h0.2 hm), fixed1_can hc (h1.2 hm), cov_split hc hk hm (h0.2 hm) (h1.2 hm)⟩
  · rw [h0.1 hm, h1.1 hm]; exact ⟨hc, hc, by simp⟩

theorem parts26_ok (x0 : List (BitVec 16)) (x1 : BitVec 16) (x2 : List (BitVec 16)) : L_law26_CoverParts x0 x1 x2 = some true := by
  suffices h : Tot (L_law26_CoverParts x0 x1 x2) (fun r => r = true) from Tot.toEq h
  unfold L_law26_CoverParts
  refine (made_tot x0 16 (by omega)).bind fun x hx => (made_tot x2 1 (by omega)).bind fun c hc => .eq (app_ok c (by omega)) ?_
  have hys := can_app hc.1
  have hlen : (c ++ [default]).length ≤ 3 := by simp; omega
  generalize c ++ [default] = ys at hys hlen
  refine Tot.loop ys.length (fun k s => s = (k : Int)) (by omega) rfl (fun k s hk hi => ?_) (fun s hi => ?_)
  · subst hi
    refine Tot.cond (fun _ => ?_) (fun h => by simp at h; omega)
    refine .idx rfl hk ?_
    have hy := can_get hys hk
    generalize lget ys k = y at hy
    refine .eq (a := x1 % 512#16) (by unfold uremM; rw [if_neg (by decide)]) (.eq (a := x1 % 4#16) (by unfold uremM; rw [if_neg (by decide)]) ?_)
    have hb1 : (x1 % 512#16).toNat < 512 := by rw [BitVec.toNat_umod]; exact Nat.mod_lt _ (by decide)
    have hb2 : (x1 % 4#16).toNat < 4 := by rw [BitVec.toNat_umod]; exact Nat.mod_lt _ (by decide)
    generalize (x1 % 512#16).toNat = b1 at hb1
    generalize (x1 % 4#16).toNat = b2 at hb2
    have hw : w64 (128 + (b2 : Int)) = ((128 + b2 : Nat) : Int) := by rw [w64_in (by omega) (by omega)]; omega
    rw [hw]
    obtain ⟨lis, hlis⟩ : ∃ lis : List Int, [(b1 : Int), ((128 + b2 : Nat) : Int), 0, 1] = lis := ⟨_, rfl⟩
    have hll : lis.length = 4 := by subst hlis; rfl
    have hbit : ∀ j, j < 4 → ∃ n : Nat, lget lis j = n ∧ n < 512 := fun j hj => by
      subst hlis
      have : j = 0 ∨ j = 1 ∨ j = 2 ∨ j = 3 := by omega
      rcases this with rfl | rfl | rfl | rfl
      · exact ⟨b1, rfl, hb1⟩
      · exact ⟨128 + b2, rfl, by omega⟩
      · exact ⟨0, rfl, by omega⟩
      · exact ⟨1, rfl, by omega⟩
    simp only [hlis]
    refine Tot.loop 4 (fun j s => s = (j : Int)) (by omega) rfl (fun j s hj hi => ?_) (fun s hi => ?_)
    · subst hi
      refine .eq rfl (Tot.cond (fun _ => ?_) (fun h => by simp [hll] at h; omega))
      refine .idx rfl (by omega) ?_
      obtain ⟨n, hn, hn2⟩ := hbit j hj
      rw [hn]
      refine (Covered_small y x hy hx.1 hx.2).bind fun y6 h6 => (Fix_eq y n hn2 false).bind fun d hd => ?_
      obtain ⟨e0, _, he0⟩ := Fix_eq y n hn2 true
      have hde := cov_fix (l := x) hy hn2 hd he0
      refine (Covered_small d x hde.1 hx.1 hx.2).bind fun y8 h8 => (Fix_eq y n hn2 true).bind fun e he => ?_
      have hde := cov_fix (l := x) hy hn2 hd he
      refine (Covered_small e x hde.2.1 hx.1 hx.2).bind fun y10 h10 => .eq rfl (.cond (fun h => ?_) (fun _ => .ret (w64_succ (by omega))))
      exfalso
      have : y6.1 = (y8.1 && y10.1) := by rw [Bool.eq_iff_iff, Bool.and_eq_true, h6.2, h8.2, h10.2]; exact hde.2.2
      rw [h6.1, h8.1, h10.1, this] at h
      simp at h
    · subst hi
      refine ⟨_, by simp [hll]; rfl, ?_⟩
      exact .ret (w64_succ (by omega))
  · subst hi
    refine ⟨_, by simp; rfl, ?_⟩
    simp only [Sum.elim_inl]
    rw [begun26_ok]
    exact .eq rfl (.ret rfl)

set_option maxHeartbeats 2000000 in
theorem points_ok (x0 x1 : List (BitVec 16)) (x2 : Vector T_api_Value 4) : L_law26_CoverPoints x0 x1 x2 = some true := by
  suffices h : Tot (L_law26_CoverPoints x0 x1 x2) (fun r => r = true) from Tot.toEq h
  unfold L_law26_CoverPoints
  refine (made_tot x0 16 (by omega)).bind fun x hx => (made_tot x1 2 (by omega)).bind fun c hc => .eq (app_ok c (by omega)) ?_
  have hys := can_app hc.1
  have hlen : (c ++ [default]).length ≤ 3 := by simp; omega
  generalize c ++ [default] = ys at hys hlen
  refine Tot.loop ys.length (fun k s => s.1 = (k : Int)) (by omega) rfl (fun k s hk hi => ?_) (fun s hi => ?_)
  · obtain ⟨i, p⟩ := s
    simp only at hi; subst hi
    refine Tot.cond (fun _ => ?_) (fun h => by simp at h; omega)
    refine .idx rfl hk ?_
    have hy := can_get hys hk
    generalize lget ys k = y at hy
    refine (Covered_small y x hy hx.1 hx.2).bind fun y4 h4 => ?_
    refine Tot.loop 4 (fun j s => s.1 = (j : Int) ∧ ∀ i, i < 512 → i / 128 < j → cv y.f_Mask i = true → cv s.2 i = cv y.f_Value i) (by omega) ⟨rfl, fun i _ h => by omega⟩ (fun j s hj hi => ?_) (fun s hi => ?_)
    · obtain ⟨jj, q⟩ := s; obtain ⟨g1, g2⟩ := hi
      simp only at g1 g2; subst g1
      refine Tot.cond (fun _ => ?_) (fun h => by simp at h; omega)
      refine .idx rfl hj (.idx rfl hj (.idx rfl hj ?_))
      refine .eq rfl ?_
      refine .idx rfl hj (.idx rfl hj (.idx rfl hj ?_))
      refine .eq rfl ?_
      refine .idx rfl hj (.idx rfl hj ?_)
      refine .eq rfl ?_
      refine .ret ⟨w64_succ (by omega), fun i hi hij hm => ?_⟩
      by_cases hq : i / 128 = j
      · unfold cv at hm ⊢
        simp only [vget_vset _ _ hj]
        rw [hq] at hm ⊢
        simp only [if_true]
        unfold vb at hm ⊢
        split at hm <;> rename_i hlt
        · rw [if_pos hlt, if_pos hlt]; simp [hm]
        · rw [if_neg hlt, if_neg hlt]; simp [hm]
      · have := g2 i hi (by omega) hm
        unfold cv at this ⊢
        simp only [vget_vset _ _ hj, if_neg hq]
        exact this
    · obtain ⟨jj, q⟩ := s; obtain ⟨g1, g2⟩ := hi
      simp only at g1 g2; subst g1
      refine ⟨_, rfl, ?_⟩
      have hq : inB y q = true := (in_iff hy).2 fun i hi hm => g2 i hi (by omega) hm
      refine Tot.loop x.length (fun j s => s.2 = (j : Int) ∧ s.1 = (x.take j).any (fun z => inB z q)) (by omega) ⟨rfl, rfl⟩ (fun j s hj hi => ?_) (fun s hi => ?_)
      · obtain ⟨f, jj⟩ := s; obtain ⟨g3, g4⟩ := hi
        simp only at g3 g4; subst g3
        refine Tot.cond (fun _ => ?_) (fun h => by simp at h; omega)
        refine .idx rfl hj (.condM (P := fun r => r = inB (lget x j) q) (fun _ => Contains_eq _ _) fun y5 h5 => .ret ⟨w64_succ (by omega), ?_⟩)
        rw [List.take_add_one, List.getElem?_eq_getElem hj, List.any_append, ← g4]
        rw [lget_eq x hj] at h5
        cases hf : f
        · rw [h5 hf]; simp
        · simp
      · obtain ⟨f, jj⟩ := s; obtain ⟨g3, g4⟩ := hi
        simp only at g3 g4; subst g3
        rw [List.take_length] at g4
        refine ⟨_, by simp; rfl, ?_⟩
        refine .cond (fun h => ?_) (fun _ => .ret (w64_succ (by omega)))
        exfalso
        rw [h4.1] at h
        simp only [bne_self_eq_false, Bool.false_or, Bool.and_eq_true, Bool.not_eq_true'] at h
        obtain ⟨z, hz, h1⟩ := h4.2.1 h.1 q hq
        have : f = true := by rw [g4, List.any_eq_true]; exact ⟨z, hz, h1⟩
        rw [this] at h
        cases h.2
  · obtain ⟨i, p⟩ := s
    simp only at hi; subst hi
    refine ⟨_, by simp; rfl, ?_⟩
    simp only [Sum.elim_inl]
    rw [begun26_ok]
    exact .eq rfl (.ret rfl)
end Go.Proofs.Ytabodolbdalimaa
