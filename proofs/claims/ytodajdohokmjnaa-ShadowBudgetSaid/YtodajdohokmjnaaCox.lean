/-
  The law CoverWitness. Plain Lean. Conditions: none.
-/
import Derived.Test.YtodajdohokmjnaaCow
namespace Go.Proofs.Ytodajdohokmjnaa
open Go Gv
set_option linter.unusedVariables false
set_option linter.unusedSimpArgs false
set_option maxRecDepth 100000

/-- the choice of the first k bits: S: the points that are left; C: the points that were there; U: those that are wanted -/
structure Greedy (C U : Pnt → Prop) (k : Nat) (S : Pnt → Prop) : Prop where
  some_ : ∃ q, S q ∧ U q
  sub : ∀ q, S q → C q
  same : ∀ q q', S q → S q' → ∀ j, j < k → cv q j = cv q' j
  least : ∀ q', C q' → U q' → S q' ∨ ∀ q, S q → ∃ i, i < k ∧ cv q i = false ∧ cv q' i = true ∧ ∀ j, j < i → cv q j = cv q' j

theorem Greedy.skip {C U S : Pnt → Prop} {k : Nat} (g : Greedy C U k S) (h : ∀ q q', S q → S q' → cv q k = cv q' k) : Greedy C U (k + 1) S where
  some_ := g.some_
  sub := g.sub
  same q q' hq hq' j hj := by
    by_cases hjk : j = k
    · subst hjk; exact h q q' hq hq'
    · exact g.same q q' hq hq' j (by omega)
  least q' hc hu := by
    rcases g.least q' hc hu with h1 | h1
    · exact .inl h1
    · refine .inr fun q hq => ?_
      obtain ⟨i, h2, h3⟩ := h1 q hq
      exact ⟨i, by omega, h3⟩
theorem Greedy.zero {C U S : Pnt → Prop} {k : Nat} (g : Greedy C U k S) (h : ∃ q, (S q ∧ cv q k = false) ∧ U q) : Greedy C U (k + 1) (fun q => S q ∧ cv q k = false) where
  some_ := h
  sub q hq := g.sub q hq.1
  same q q' hq hq' j hj := by
    by_cases hjk : j = k
    · subst hjk; rw [hq.2, hq'.2]
    · exact g.same q q' hq.1 hq'.1 j (by omega)
  least q' hc hu := by
    rcases g.least q' hc hu with h1 | h1
    · cases h2 : cv q' k
      · exact .inl ⟨h1, rfl⟩
      · exact .inr fun q hq => ⟨k, by omega, hq.2, h2, fun j hj => g.same q q' hq.1 h1 j hj⟩
    · refine .inr fun q hq => ?_
      obtain ⟨i, h2, h3⟩ := h1 q hq.1
      exact ⟨i, by omega, h3⟩
theorem Greedy.one {C U S : Pnt → Prop} {k : Nat} (g : Greedy C U k S) (h : ¬ ∃ q, (S q ∧ cv q k = false) ∧ U q) : Greedy C U (k + 1) (fun q => S q ∧ cv q k = true) where
  some_ := by
    obtain ⟨q, h1, h2⟩ := g.some_
    refine ⟨q, ⟨h1, ?_⟩, h2⟩
    cases h3 : cv q k
    · exact absurd ⟨q, ⟨h1, h3⟩, h2⟩ h
    · rfl
  sub q hq := g.sub q hq.1
  same q q' hq hq' j hj := by
    by_cases hjk : j = k
    · subst hjk; rw [hq.2, hq'.2]
    · exact g.same q q' hq.1 hq'.1 j (by omega)
  least q' hc hu := by
    rcases g.least q' hc hu with h1 | h1
    · cases h2 : cv q' k
      · exact absurd ⟨q', ⟨h1, h2⟩, hu⟩ h
      · exact .inl ⟨h1, rfl⟩
    · refine .inr fun q hq => ?_
      obtain ⟨i, h2, h3⟩ := h1 q hq.1
      exact ⟨i, by omega, h3⟩
theorem Greedy.congr {C U S S' : Pnt → Prop} {k : Nat} (g : Greedy C U k S) (h : ∀ q, S' q ↔ S q) : Greedy C U k S' := by
  have : S' = S := funext fun q => propext (h q)
  rw [this]; exact g

/-- the least of the points of C that are wanted -/
def leastOf (C U : Pnt → Prop) (q : Pnt) : Prop := C q ∧ U q ∧ ∀ q', C q' → U q' → q' = q ∨ ∃ i, i < 512 ∧ cv q i = false ∧ cv q' i = true ∧ ∀ j, j < i → cv q j = cv q' j
theorem leastOf.uniq {C U : Pnt → Prop} {q q' : Pnt} (h : leastOf C U q) (h' : leastOf C U q') : q = q' := by
  rcases h.2.2 q' h'.1 h'.2.1 with h1 | ⟨i, _, h2, h3, h4⟩
  · exact h1.symm
  rcases h'.2.2 q h.1 h.2.1 with h1 | ⟨j, _, g2, g3, g4⟩
  · exact h1
  exfalso
  rcases Nat.lt_trichotomy i j with hl | hl | hl
  · have := g4 i hl; rw [h2, h3] at this; cases this
  · subst hl; rw [h2] at g3; cases g3
  · have := h4 j hl; rw [g2, g3] at this; cases this
theorem Greedy.done {C U S : Pnt → Prop} (g : Greedy C U 512 S) {q : Pnt} (hq : S q) : leastOf C U q := by
  have hall : ∀ q', S q' → q' = q := fun q' hq' => cv_ext fun i hi => g.same q' q hq' hq i hi
  obtain ⟨w, h1, h2⟩ := g.some_
  rw [hall w h1] at h2
  refine ⟨g.sub q hq, h2, fun q' hc hu => ?_⟩
  rcases g.least q' hc hu with h3 | h3
  · exact .inl (hall q' h3)
  · exact .inr (h3 q hq)

/-- the points that none of the cubes holds -/
def out (l : List T_cube_Cube) (q : Pnt) : Prop := ∀ x ∈ l, ¬ inB x q = true
theorem not_cov {c : T_cube_Cube} {l : List T_cube_Cube} : ¬ cov c l ↔ ∃ q, inB c q = true ∧ out l q := by
  constructor
  · intro h
    false_or_by_contra
    rename_i h1
    refine h fun q hq => ?_
    false_or_by_contra
    rename_i h2
    exact h1 ⟨q, hq, fun x hx hi => h2 ⟨x, hx, hi⟩⟩
  · rintro ⟨q, h1, h2⟩ hc
    obtain ⟨x, hx, hi⟩ := hc q h1
    exact h2 x hx hi

/-- for the points of c it is the same which list is asked -/
def asks (c : T_cube_Cube) (n l : List T_cube_Cube) : Prop := ∀ q, inB c q = true → (out n q ↔ out l q)
theorem asks_near {c d : T_cube_Cube} {n l : List T_cube_Cube} (hd : can d) (hn : ∀ x ∈ n, can x) (h : asks c n l) (hsub : ∀ q, inB d q = true → inB c q = true) : asks d (n.filter (agB d)) l := fun q hq => by
  rw [← h q (hsub q hq)]
  constructor
  · intro h1 x hx hi
    exact h1 x (List.mem_filter.2 ⟨hx, agB_iff.2 (agree_of_in hd (hn x hx) hq hi)⟩) hi
  · intro h1 x hx hi
    exact h1 x (List.mem_filter.1 hx).1 hi
theorem asks_cov {c : T_cube_Cube} {n l : List T_cube_Cube} (h : asks c n l) : cov c n ↔ cov c l := by
  constructor
  · intro h1
    false_or_by_contra
    rename_i h2
    obtain ⟨q, h3, h4⟩ := not_cov.1 h2
    exact not_cov.2 ⟨q, h3, (h q h3).2 h4⟩ h1
  · intro h1
    false_or_by_contra
    rename_i h2
    obtain ⟨q, h3, h4⟩ := not_cov.1 h2
    exact not_cov.2 ⟨q, h3, (h q h3).1 h4⟩ h1

set_option maxHeartbeats 2000000 in
theorem Witness_tot (c : T_cube_Cube) (l : List T_cube_Cube) (hc : can c) (hl : ∀ x ∈ l, can x) (hlen : l.length < 2 ^ 30) :
    Tot (L_cover_Witness c l) (fun r => if (l.filter (agB c)).length > 16 then r = (default, false, 26) else ((cov c l → r = (default, false, 0)) ∧ (¬ cov c l → ∃ q, r = (q, true, 0) ∧ leastOf (fun q => inB c q = true) (out l) q))) := by
  unfold L_cover_Witness
  refine .eq (near_eq c l hlen) (.cond (fun h => .ret ?_) (fun h => ?_))
  · rw [if_pos (by have := of_decide_eq_true h; omega)]
  have hgn : ¬ (l.filter (agB c)).length > 16 := by have := of_decide_eq_false h; omega
  simp only [if_neg hgn]
  have hl2 : ∀ x ∈ l.filter (agB c), can x := fun x hx => hl x (List.mem_filter.1 hx).1
  have hlen2 : (l.filter (agB c)).length < 2 ^ 30 := Nat.lt_of_le_of_lt (List.length_filter_le _ _) hlen
  have hask : asks c (l.filter (agB c)) l := asks_near hc hl (fun q _ => Iff.rfl) fun q hq => hq
  refine (covered_tot c _ hc hl2 hlen2).bind fun y2 h2 => ?_
  rw [asks_cov hask] at h2
  refine .cond (fun h3 => .ret ⟨fun _ => rfl, fun hn => absurd (h2.1 h3) hn⟩) (fun h3 => ?_)
  have hnc : ¬ cov c l := fun hcv => by rw [h2.2 hcv] at h3; cases h3
  refine Tot.loop 512 (fun k s => s.2.1 = (k : Int) ∧ can s.2.2 ∧ (∀ x ∈ s.1, can x) ∧ s.1.length < 2 ^ 30 ∧ asks s.2.2 s.1 l ∧ (∀ j, j < k → cv s.2.2.f_Mask j = true) ∧ Greedy (fun q => inB c q = true) (out l) k (fun q => inB s.2.2 q = true)) (by omega)
    ⟨rfl, hc, hl2, hlen2, hask, fun j hj => by omega, ⟨not_cov.1 hnc, fun q hq => hq, fun _ _ _ _ j hj => by omega, fun q' h1 _ => .inl h1⟩⟩ (fun k s hk hi => ?_) (fun s hi => ?_)
  · obtain ⟨n, kk, d⟩ := s; obtain ⟨e1, hd, hn, hnl, hak, hfx, hg⟩ := hi
    simp only at e1 hd hn hnl hak hfx hg; subst e1
    refine Tot.cond (fun _ => ?_) (fun h => by simp at h; omega)
    refine (Fix_eq d k hk false).bind fun y3 g3 => .cond (fun h => .ret ?_) (fun h => ?_)
    · have he : y3 = d := by simpa using h
      have hm : cv d.f_Mask k = true := by
        cases hm : cv d.f_Mask k
        · have := (g3.2 hm).1 k hk
          rw [he, hm] at this; simp at this
        · rfl
      refine ⟨w64_succ (by omega), hd, hn, hnl, hak, fun j hj => ?_, hg.skip fun q q' hq hq' => ?_⟩
      · by_cases hjk : j = k
        · subst hjk; exact hm
        · exact hfx j (by omega)
      · rw [(in_iff hd).1 hq k hk hm, (in_iff hd).1 hq' k hk hm]
    · have hm : cv d.f_Mask k = false := by
        cases hm : cv d.f_Mask k
        · rfl
        · rw [g3.1 hm] at h; simp at h
      have g3 := g3.2 hm
      have hd3 : can y3 := fixed1_can hd g3
      have hin3 := fixed1_in hd hk hm g3
      have hsub3 : ∀ q, inB y3 q = true → inB d q = true := fun q hq => by rw [hin3, Bool.and_eq_true] at hq; exact hq.1
      refine .eq (near_eq y3 n hnl) ((covered_tot y3 _ hd3 (fun x hx => hn x (List.mem_filter.1 hx).1) (Nat.lt_of_le_of_lt (List.length_filter_le _ _) hnl)).bind fun y5 g5 => ?_)
      have hak3 := asks_near hd3 hn hak hsub3
      rw [asks_cov hak3] at g5
      refine .cond (fun h5 => .ret ?_) (fun h5 => ?_)
      · have hnc3 : ¬ cov y3 l := fun hcv => by rw [g5.2 hcv] at h5; cases h5
        obtain ⟨w, hw1, hw2⟩ := not_cov.1 hnc3
        have hs : ∀ q, inB y3 q = true ↔ inB d q = true ∧ cv q k = false := fun q => by rw [hin3, Bool.and_eq_true, beq_iff_eq]
        refine ⟨w64_succ (by omega), hd3, fun x hx => hn x (List.mem_filter.1 hx).1, Nat.lt_of_le_of_lt (List.length_filter_le _ _) hnl, hak3, fun j hj => ?_, (hg.zero ⟨w, (hs w).1 hw1, hw2⟩).congr hs⟩
        rw [g3.1 j (by omega)]
        by_cases hjk : j = k
        · subst hjk; simp
        · rw [hfx j (by omega)]; rfl
      · have hc3 : cov y3 l := g5.1 (by simpa using h5)
        refine (Fix_free hk hm true).bind fun y6 g6 => ?_
        have hd6 : can y6 := fixed1_can hd g6
        have hin6 := fixed1_in hd hk hm g6
        have hsub6 : ∀ q, inB y6 q = true → inB d q = true := fun q hq => by rw [hin6, Bool.and_eq_true] at hq; exact hq.1
        refine .eq (near_eq y6 n hnl) (.ret ?_)
        have hs : ∀ q, inB y6 q = true ↔ inB d q = true ∧ cv q k = true := fun q => by rw [hin6, Bool.and_eq_true, beq_iff_eq]
        refine ⟨w64_succ (by omega), hd6, fun x hx => hn x (List.mem_filter.1 hx).1, Nat.lt_of_le_of_lt (List.length_filter_le _ _) hnl, asks_near hd6 hn hak hsub6, fun j hj => ?_, (hg.one ?_).congr hs⟩
        · rw [g6.1 j (by omega)]
          by_cases hjk : j = k
          · subst hjk; simp
          · rw [hfx j (by omega)]; rfl
        · rintro ⟨q, ⟨h1, h2⟩, h3⟩
          obtain ⟨x, hx, hi⟩ := hc3 q (by rw [hin3, h1, h2]; rfl)
          exact h3 x hx hi
  · obtain ⟨n, kk, d⟩ := s; obtain ⟨e1, hd, hn, hnl, hak, hfx, hg⟩ := hi
    simp only at e1 hd hn hnl hak hfx hg; subst e1
    refine ⟨_, by simp; rfl, ?_⟩
    exact .ret ⟨fun hcv => absurd hcv hnc, fun _ => ⟨d.f_Value, rfl, hg.done (in_own hd)⟩⟩

def outR (l : List Bits) (q : Pnt) : Prop := ∀ x ∈ l, ¬ inR x q
theorem not_covR {p : Bits} {l : List Bits} : ¬ covR p l ↔ ∃ q, inR p q ∧ outR l q := by
  constructor
  · intro h
    false_or_by_contra
    rename_i h1
    refine h fun q hq => ?_
    false_or_by_contra
    rename_i h2
    exact h1 ⟨q, hq, fun x hx hi => h2 ⟨x, hx, hi⟩⟩
  · rintro ⟨q, h1, h2⟩ hc
    obtain ⟨x, hx, hi⟩ := hc q h1
    exact h2 x hx hi

end Go.Proofs.Ytodajdohokmjnaa
