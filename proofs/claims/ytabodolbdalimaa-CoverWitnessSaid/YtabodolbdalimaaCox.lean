/-
  The law CoverWitness. Plain Lean. Conditions: none.
-/
import Derived.Test.YtabodolbdalimaaCow
namespace Go.Proofs.Ytabodolbdalimaa
open Go Gv
set_option linter.unusedVariables false
set_option linter.unusedSimpArgs false
set_option maxRecDepth 100000

/-- the choice of the first k bits: S: the points that are left; C: the points that were there; U: those that are wanted -/
structure Greedy (C U : Pnt → Prop) (k : Nat) (S : Pnt → Prop) : Prop where
  some_ : ∃ q, S q ∧ U q
  sub : ∀ q, S q → C q
  same : ∀ q q', S q → S q' → ∀ j, j < k → cv q j = cv q' j
  least : ∀ q', C q' → U q' → S q' ∨ ∀ q, S q → ∃ i, i < k ∧ cv q i = false ∧ cv q' i = true ∧ ∀ j, j < i → cv q j = cv q' j

theorem Greedy.skip {C U S : Pnt → Prop} {k : Nat} (g : Greedy C U k S) (h : ∀ q q', S q → S q' → cv q k = cv q' k) : Greedy C U (k + 1) S where
  some_ := g.some_
  sub := g.sub
  same q q' hq hq' j hj := by
    by_cases hjk : j = k
    · subst hjk; exact h q q' hq hq'
    · exact g.same q q' hq hq' j (by omega)
  least q' hc hu := by
    rcases g.least q' hc hu with h1 | h1
    · exact .inl h1
    · refine .inr fun q hq => ?_
      obtain ⟨i, h2, h3⟩ := h1 q hq
      exact ⟨i, by omega, h3⟩
theorem Greedy.zero {C U S : Pnt → Prop} {k : Nat} (g : Greedy C U k S) (h : ∃ q, (S q ∧ cv q k = false) ∧ U q) : Greedy C U (k + 1) (fun q => S q ∧ cv q k = false) where
  some_ := h
  sub q hq := g.sub q hq.1
  same q q' hq hq' j hj := by
    by_cases hjk : j = k
    · subst hjk; rw [hq.2, hq'.2]
    · exact g.same q q' hq.1 hq'.1 j (by omega)
  least q' hc hu := by
    rcases g.least q' hc hu with h1 | h1
    · cases h2 : cv q' k
      · exact .inl ⟨h1, rfl⟩
      · exact .inr fun q hq => ⟨k, by omega, hq.2, h2, fun j hj => g.same q q' hq.1 h1 j hj⟩
    · refine .inr fun q hq => ?_
      obtain ⟨i, h2, h3⟩ := h1 q hq.1
      exact ⟨i, by omega, h3⟩
theorem Greedy.one {C U S : Pnt → Prop} {k : Nat} (g : Greedy C U k S) (h : ¬ ∃ q, (S q ∧ cv q k = false) ∧ U q) : Greedy C U (k + 1) (fun q => S q ∧ cv q k = true) where
  some_ := by
    obtain ⟨q, h1, h2⟩ := g.some_
    refine ⟨q, ⟨h1, ?_⟩, h2⟩
    cases h3 : cv q k
    · exact absurd ⟨q, ⟨h1, h3⟩, h2⟩ h
    · rfl
  sub q hq := g.sub q hq.1
  same q q' hq hq' j hj := by
    by_cases hjk : j = k
    · subst hjk; rw [hq.2, hq'.2]
    · exact g.same q q' hq.1 hq'.1 j (by omega)
  least q' hc hu := by
    rcases g.least q' hc hu with h1 | h1
    · cases h2 : cv q' k
      · exact absurd ⟨q', ⟨h1, h2⟩, hu⟩ h
      · exact .inl ⟨h1, rfl⟩
    · refine .inr fun q hq => ?_
      obtain ⟨i, h2, h3⟩ := h1 q hq.1
      exact ⟨i, by omega, h3⟩
theorem Greedy.congr {C U S S' : Pnt → Prop} {k : Nat} (g : Greedy C U k S) (h : ∀ q, S' q ↔ S q) : Greedy C U k S' := by
  have : S' = S := funext fun q => propext (h q)
  rw [this]; exact g

/-- the least of the points of C that are wanted -/
def leastOf (C U : Pnt → Prop) (q : Pnt) : Prop := C q ∧ U q ∧ ∀ q', C q' → U q' → q' = q ∨ ∃ i, i < 512 ∧ cv q i = false ∧ cv q' i = true ∧ ∀ j, j < i → cv q j = cv q' j
theorem leastOf.uniq {C U : Pnt → Prop} {q q' : Pnt} (h : leastOf C U q) (h' : leastOf C U q') : q = q' := by
  rcases h.2.2 q' h'.1 h'.2.1 with h1 | ⟨i, _, h2, h3, h4⟩
  · exact h1.symm
  rcases h'.2.2 q h.1 h.2.1 with h1 | ⟨j, _, g2, g3, g4⟩
  · exact h1
  exfalso
  rcases Nat.lt_trichotomy i j with hl | hl | hl
  · have := g4 i hl; rw [h2, h3] at this; cases this
  · subst hl; rw [h2] at g3; cases g3
  · have := h4 j hl; rw [g2, g3] at this; cases this
theorem Greedy.done {C U S : Pnt → Prop} (g : Greedy C U 512 S) {q : Pnt} (hq : S q) : leastOf C U q := by
  have hall : ∀ q', S q' → q' = q := fun q' hq' => cv_ext fun i hi => g.same q' q hq' hq i hi
  obtain ⟨w, h1, h2⟩ := g.some_
  rw [hall w h1] at h2
  refine ⟨g.sub q hq, h2, fun q' hc hu => ?_⟩
  rcases g.least q' hc hu with h3 | h3
  · exact .inl (hall q' h3)
  · exact .inr (h3 q hq)

/-- the points that none of the cubes holds -/
def out (l : List T_cube_Cube) (q : Pnt) : Prop := ∀ x ∈ l, ¬ inB x q = true
theorem not_cov {c : T_cube_Cube} {l : List T_cube_Cube} : ¬ cov c l ↔ ∃ q, inB c q = true ∧ out l q := by
  constructor
  · intro h
    false_or_by_contra
    rename_i h1
    refine h fun q hq => ?_
    false_or_by_contra
    rename_i h2
    exact h1 ⟨q, hq, fun x hx hi => h2 ⟨x, hx, hi⟩⟩
  · rintro ⟨q, h1, h2⟩ hc
    obtain ⟨x, hx, hi⟩ := hc q h1
    exact h2 x hx hi

/-- for the points of c it is the same which list is asked -/
def asks (c : T_cube_Cube) (n l : List T_cube_Cube) : Prop := ∀ q, inB c q = true → (out n q ↔ out l q)
theorem asks_near {c d : T_cube_Cube} {n l : List T_cube_Cube} (hd : can d) (hn : ∀ x ∈ n, can x) (h : asks c n l) (hsub : ∀ q, inB d q = true → inB c q = true) : asks d (n.filter (agB d)) l := fun q hq => by
  rw [← h q (hsub q hq)]
  constructor
  · intro h1 x hx hi
    exact h1 x (List.mem_filter.2 ⟨hx, agB_iff.2 (agree_of_in hd (hn x hx) hq hi)⟩) hi
  · intro h1 x hx hi
    exact h1 x (List.mem_filter.1 hx).1 hi
theorem asks_cov {c : T_cube_Cube} {n l : List T_cube_Cube} (h : asks c n l) : cov c n ↔ cov c l := by
  constructor
  · intro h1
    false_or_by_contra
    rename_i h2
    obtain ⟨q, h3, h4⟩ := not_cov.1 h2
    exact not_cov.2 ⟨q, h3, (h q h3).2 h4⟩ h1
  · intro h1
    false_or_by_contra
    rename_i h2
    obtain ⟨q, h3, h4⟩ := not_cov.1 h2
    exact not_cov.2 ⟨q, h3, (h q h3).1 h4⟩ h1

set_option maxHeartbeats 2000000 in
theorem Witness_tot (c : T_cube_Cube) (l : List T_cube_Cube) (hc : can c) (hl : ∀ x ∈ l, can x) (hlen : l.length < 2 ^ 30) :
    Tot (L_cover_Witness c l) (fun r => if (l.filter (agB c)).length > 16 then r = (default, false, 26) else ((cov c l → r = (default, false, 0)) ∧ (¬ cov c l → ∃ q, r = (q, true, 0) ∧ leastOf (fun q => inB c q = true) (out l) q))) := by
  unfold L_cover_Witness
  refine .eq (near_eq c l hlen) (.cond (fun h => .ret ?_) (fun h => ?_))
  · rw [if_pos (by have := of_decide_eq_true h; omega)]
  have hgn : ¬ (l.filter (agB c)).length > 16 := by have := of_decide_eq_false h; omega
  simp only [if_neg hgn]
  have hl2 : ∀ x ∈ l.filter (agB c), can x := fun x hx => hl x (List.mem_filter.1 hx).1
  have hlen2 : (l.filter (agB c)).length < 2 ^ 30 := Nat.lt_of_le_of_lt (List.length_filter_le _ _) hlen
  have hask : asks c (l.filter (agB c)) l := asks_near hc hl (fun q _ => Iff.rfl) fun q hq => hq
  refine (covered_tot c _ hc hl2 hlen2).bind fun y2 h2 => ?_
  rw [asks_cov hask] at h2
  refine .cond (fun h3 => .ret ⟨fun _ => rfl, fun hn => absurd (h2.1 h3) hn⟩) (fun h3 => ?_)
  have hnc : ¬ cov c l := fun hcv => by rw [h2.2 hcv] at h3; cases h3
  refine Tot.loop 512 (fun k s => s.2.1 = (k : Int) ∧ can s.2.2 ∧ (∀ x ∈ s.1, can x) ∧ s.1.length < 2 ^ 30 ∧ asks s.2.2 s.1 l ∧ (∀ j, j < k → cv s.2.2.f_Mask j = true) ∧ Greedy (fun q => inB c q = true) (out l) k (fun q => inB s.2.2 q = true)) (by omega)
    ⟨rfl, hc, hl2, hlen2, hask, fun j hj => by omega, ⟨not_cov.1 hnc, fun q hq => hq, fun _ _ _ _ j hj => by omega, fun q' h1 _ => .inl h1⟩⟩ (fun k s hk hi => ?_) (fun s hi => ?_)
  · obtain ⟨n, kk, d⟩ := s; obtain ⟨e1, hd, hn, hnl, hak, hfx, hg⟩ := hi
    simp only at e1 hd hn hnl hak hfx hg; subst e1
    refine Tot.cond (fun _ => ?_) (fun h => by simp at h; omega)
    refine (Fix_eq d k hk false).bind fun y3 g3 => .cond (fun h => .ret ?_) (fun h => ?_)
    · have he : y3 = d := by simpa using h
      have hm : cv d.f_Mask k = true := by
        cases hm : cv d.f_Mask k
        · have := (g3.2 hm).1 k hk
          rw [he, hm] at this; simp at this
        · rfl
      refine ⟨w64_succ (by omega), hd, hn, hnl, hak, fun j hj => ?_, hg.skip fun q q' hq hq' => ?_⟩
      · by_cases hjk : j = k
        · subst hjk; exact hm
        · exact hfx j (by omega)
      · rw [(in_iff hd).1 hq k hk hm, (in_iff hd).1 hq' k hk hm]
    · have hm : cv d.f_Mask k = false := by
        cases hm : cv d.f_Mask k
        · rfl
        · rw [g3.1 hm] at h; simp at h
      have g3 := g3.2 hm
      have hd3 : can y3 := fixed1_can hd g3
      have hin3 := fixed1_in hd hk hm g3
      have hsub3 : ∀ q, inB y3 q = true → inB d q = true := fun q hq => by rw [hin3, Bool.and_eq_true] at hq; exact hq.1
      refine .eq (near_eq y3 n hnl) ((covered_tot y3 _ hd3 (fun x hx => hn x (List.mem_filter.1 hx).1) (Nat.lt_of_le_of_lt (List.length_filter_le _ _) hnl)).bind fun y5 g5 => ?_)
      have hak3 := asks_near hd3 hn hak hsub3
      rw [asks_cov hak3] at g5
      refine .cond (fun h5 => .ret ?_) (fun h5 => ?_)
      · have hnc3 : ¬ cov y3 l := fun hcv => by rw [g5.2 hcv] at h5; cases h5
        obtain ⟨w, hw1, hw2⟩ := not_cov.1 hnc3
        have hs : ∀ q, inB y3 q = true ↔ inB d q = true ∧ cv q k = false := fun q => by rw [hin3, Bool.and_eq_true, beq_iff_eq]
        refine ⟨w64_succ (by omega), hd3, fun x hx => hn x (List.mem_filter.1 hx).1, Nat.lt_of_le_of_lt (List.length_filter_le _ _) hnl, hak3, fun j hj => ?_, (hg.zero ⟨w, (hs w).1 hw1, hw2⟩).congr hs⟩
        rw [g3.1 j (by omega)]
        by_cases hjk : j = k
        · subst hjk; simp
        · rw [hfx j (by omega)]; rfl
      · have hc3 : cov y3 l := g5.1 (by simpa using h5)
        refine (Fix_free hk hm true).bind fun y6 g6 => ?_
        have hd6 : can y6 := fixed1_can hd g6
        have hin6 := fixed1_in hd hk hm g6
        have hsub6 : ∀ q, inB y6 q = true → inB d q = true := fun q hq => by rw [hin6, Bool.and_eq_true] at hq; exact hq.1
        refine .eq (near_eq y6 n hnl) (.ret ?_)
        have hs : ∀ q, inB y6 q = true ↔ inB d q = true ∧ cv q k = true := fun q => by rw [hin6, Bool.and_eq_true, beq_iff_eq]
        refine ⟨w64_succ (by omega), hd6, fun x hx => hn x (List.mem_filter.1 hx).1, Nat.lt_of_le_of_lt (List.length_filter_le _ _) hnl, asks_near hd6 hn hak hsub6, fun j hj => ?_, (hg.one ?_).congr hs⟩
        · rw [g6.1 j (by omega)]
          by_cases hjk : j = k
          · subst hjk; simp
          · rw [hfx j (by omega)]; rfl
        · rintro ⟨q, ⟨h1, h2⟩, h3⟩
          obtain ⟨x, hx, hi⟩ := hc3 q (by rw [hin3, h1, h2]; rfl)
          exact h3 x hx hi
  · obtain ⟨n, kk, d⟩ := s; obtain ⟨e1, hd, hn, hnl, hak, hfx, hg⟩ := hi
    simp only at e1 hd hn hnl hak hfx hg; subst e1
    refine ⟨_, by simp; rfl, ?_⟩
    exact .ret ⟨fun hcv => absurd hcv hnc, fun _ => ⟨d.f_Value, rfl, hg.done (in_own hd)⟩⟩

theorem point_eq (p : Bits) : Tot (L_ref26_point p) (fun r => ∀ i, i < 512 → cv r i = (vget p i == 1#8)) := by
  unfold L_ref26_point
  refine Tot.loop 4 (fun k s => s.1 = (k : Int) ∧ ∀ i, i < 512 → i / 128 < k → cv s.2 i = (vget p i == 1#8)) (by omega) ⟨rfl, fun i _ h => by omega⟩ (fun k s hk hi => ?_) (fun s hi => ?_)
  · obtain ⟨kk, v⟩ := s; obtain ⟨e1, e2⟩ := hi
    simp only at e1 e2; subst e1
    refine Tot.cond (fun _ => ?_) (fun h => by simp at h; omega)
    refine Tot.loop 128 (fun j s => s.1 = (j : Int) ∧ ∀ i, i < j → vget s.2 i = (vget p (128 * k + 127 - i) == 1#8)) (by omega) ⟨rfl, fun i hi => by omega⟩ (fun j s hj hi => ?_) (fun s hi => ?_)
    · obtain ⟨jj, b⟩ := s; obtain ⟨g1, g2⟩ := hi
      simp only at g1 g2; subst g1
      refine Tot.cond (fun _ => ?_) (fun h => by simp at h; omega)
      have hw : w64 (w64 (w64 (128 * (k : Int)) + 127) - (j : Int)) = ((128 * k + 127 - j : Nat) : Int) := by
        rw [w64_in (x := 128 * (k : Int)) (by omega) (by omega), w64_in (x := 128 * (k : Int) + 127) (by omega) (by omega), w64_in (by omega) (by omega)]; omega
      refine .idx hw (by omega) (.idx rfl hj (.ret ⟨w64_succ (by omega), fun i hi => ?_⟩))
      show vget (vset b j _) i = _
      rw [vget_vset _ _ hj]
      by_cases hij : i = j
      · subst hij; rw [if_pos rfl]
      · rw [if_neg hij]; exact g2 i (by omega)
    · obtain ⟨jj, b⟩ := s; obtain ⟨g1, g2⟩ := hi
      simp only at g1 g2; subst g1
      refine ⟨_, rfl, ?_⟩
      refine (Make_eq b).bind fun y1 h1 => .idx rfl hk (.ret ⟨w64_succ (by omega), fun i hi hik => ?_⟩)
      by_cases hq : i / 128 = k
      · unfold cv
        show vb (vget (vset v k y1) (i / 128)) _ = _
        rw [vget_vset _ _ hk, if_pos hq, h1 _ (by omega), g2 _ (by omega)]
        congr 2; omega
      · have := e2 i hi (by omega)
        unfold cv at this ⊢
        show vb (vget (vset v k y1) (i / 128)) _ = _
        rw [vget_vset _ _ hk, if_neg hq]; exact this
  · obtain ⟨kk, v⟩ := s; obtain ⟨e1, e2⟩ := hi
    simp only at e1 e2; subst e1
    refine ⟨_, rfl, ?_⟩
    exact .ret fun i hi => e2 i hi (by omega)

def outR (l : List Bits) (q : Pnt) : Prop := ∀ x ∈ l, ¬ inR x q
theorem not_covR {p : Bits} {l : List Bits} : ¬ covR p l ↔ ∃ q, inR p q ∧ outR l q := by
  constructor
  · intro h
    false_or_by_contra
    rename_i h1
    refine h fun q hq => ?_
    false_or_by_contra
    rename_i h2
    exact h1 ⟨q, hq, fun x hx hi => h2 ⟨x, hx, hi⟩⟩
  · rintro ⟨q, h1, h2⟩ hc
    obtain ⟨x, hx, hi⟩ := hc q h1
    exact h2 x hx hi

set_option maxHeartbeats 2000000 in
theorem refWitness_tot (p : Bits) (l : List Bits) (hp : isB p) (hl : ∀ x ∈ l, isB x) (hlen : l.length < 2 ^ 30) :
    Tot (L_ref26_Witness p l) (fun r => if (l.filter (mtB p)).length > 16 then r = (default, false, 26) else ((covR p l → r = (default, false, 0)) ∧ (¬ covR p l → ∃ q, r = (q, true, 0) ∧ leastOf (inR p) (outR l) q))) := by
  unfold L_ref26_Witness
  refine (refCovered_tot p l hp hl hlen).bind fun y1 h1 => ?_
  by_cases hg : (l.filter (mtB p)).length > 16
  · rw [if_pos hg] at h1
    simp only [if_pos hg]
    subst h1
    exact .cond (fun _ => .ret rfl) (fun h => by cases h)
  rw [if_neg hg] at h1
  simp only [if_neg hg]
  refine .cond (fun h => .ret ?_) (fun h => ?_)
  · rw [h1.1] at h ⊢
    have hc : covR p l := h1.2.1 (by simpa using h)
    exact ⟨fun _ => rfl, fun hn => absurd hc hn⟩
  have hnc : ¬ covR p l := fun hcv => by rw [h1.2.2 hcv] at h; simp at h
  refine .eq (refnear_eq p l hlen) ?_
  have hl2 : ∀ x ∈ l.filter (mtB p), isB x := fun x hx => hl x (List.mem_filter.1 hx).1
  have hlen2 : (l.filter (mtB p)).length < 2 ^ 30 := Nat.lt_of_le_of_lt (List.length_filter_le _ _) hlen
  have hask : ∀ q, inR p q → (outR (l.filter (mtB p)) q ↔ outR l q) := fun q hq => by
    constructor
    · intro h1 x hx hi
      refine h1 x (List.mem_filter.2 ⟨hx, mtB_iff.2 fun i hi' => ?_⟩) hi
      rcases hq i hi' with h2 | h2
      · exact .inl h2
      · rcases hi i hi' with h3 | h3
        · exact .inr (.inl h3)
        · exact .inr (.inr (by rw [h2, h3]))
    · intro h1 x hx hi
      exact h1 x (List.mem_filter.1 hx).1 hi
  generalize l.filter (mtB p) = m at hl2 hlen2 hask
  refine Tot.loop 512 (fun k s => s.1 = (k : Int) ∧ isB s.2 ∧ (∀ j, j < k → vget s.2 j ≠ 2#8) ∧ Greedy (inR p) (outR l) k (inR s.2)) (by omega)
    ⟨rfl, hp, fun j hj => by omega, ⟨not_covR.1 hnc, fun q hq => hq, fun _ _ _ _ j hj => by omega, fun q' h1 _ => .inl h1⟩⟩ (fun k s hk hi => ?_) (fun s hi => ?_)
  · obtain ⟨kk, d⟩ := s; obtain ⟨e1, hd, hfx, hgr⟩ := hi
    simp only at e1 hd hfx hgr; subst e1
    refine Tot.cond (fun _ => ?_) (fun h => by simp at h; omega)
    refine .idx rfl hk (.cond (fun h => .ret ?_) (fun h => ?_))
    · have hne : vget d k ≠ 2#8 := by simpa using h
      refine ⟨w64_succ (by omega), hd, fun j hj => ?_, hgr.skip fun q q' hq hq' => ?_⟩
      · by_cases hjk : j = k
        · subst hjk; exact hne
        · exact hfx j (by omega)
      · have e1 := (hq k hk).resolve_left hne
        have e2 := (hq' k hk).resolve_left hne
        rw [e1] at e2
        cases h1 : cv q k <;> cases h2 : cv q' k <;> simp [h1, h2] at e2 ⊢
    · have hf : vget d k = 2#8 := by simpa using h
      refine .idx rfl hk ?_
      have hset := inR_set hk hf
      have hB := isB_set hk hd
      refine Tot.loop m.length (fun j s => s.2 = (j : Int) ∧ s.1 = (m.take j).any (fun x => vget x k != 2#8)) (by omega) ⟨rfl, rfl⟩ (fun j s hj hi => ?_) (fun s hi => ?_)
      · obtain ⟨f, jj⟩ := s; obtain ⟨g1, g2⟩ := hi
        simp only at g1 g2; subst g1
        refine Tot.cond (fun _ => ?_) (fun h => by simp at h; omega)
        refine .idx rfl hj (.condM (P := fun r => r = k) (fun _ => ⟨k, idx_nat hk, rfl⟩) fun k4 h4 => .ret ⟨w64_succ (by omega), ?_⟩)
        rw [List.take_add_one, List.getElem?_eq_getElem hj, List.any_append, ← g2, lget_eq m hj]
        cases hf : f
        · rw [h4 hf]; simp
        · simp
      · obtain ⟨f, jj⟩ := s; obtain ⟨g1, g2⟩ := hi
        simp only at g1 g2; subst g1
        rw [List.take_length] at g2
        refine ⟨_, by simp; rfl, ?_⟩
        simp only
        have hn : nfreeR (vset d k 0#8) < FUEL := by have : nfreeR (vset d k 0#8) ≤ 512 := cnt_le; unfold FUEL; omega
        refine .condM (P := fun r => r = true ↔ covR (vset d k 0#8) m) (fun _ => refcovered_spec FUEL _ m (hB false) hl2 hlen2 hn) fun y3 h3 => ?_
        -- the points in which the bit is 0
        have hz : (∃ q, (inR d q ∧ cv q k = false) ∧ outR l q) ↔ ¬ covR (vset d k 0#8) m := by
          rw [not_covR]
          constructor
          · rintro ⟨q, h5, h6⟩
            exact ⟨q, (hset false q).2 h5, (hask q (hgr.sub q h5.1)).2 h6⟩
          · rintro ⟨q, h5, h6⟩
            have h7 := (hset false q).1 h5
            exact ⟨q, h7, (hask q (hgr.sub q h7.1)).1 h6⟩
        have hnext : ∀ (b : Bool) j, j < k + 1 → vget (vset d k (if b = true then 1#8 else 0#8)) j ≠ 2#8 := fun b j hj => by
          rw [vget_vset _ _ hk]
          by_cases hjk : j = k
          · rw [if_pos hjk]; cases b <;> simp
          · rw [if_neg hjk]; exact hfx j (by omega)
        refine .bind (P := fun v => isB v ∧ (∀ j, j < k + 1 → vget v j ≠ 2#8) ∧ Greedy (inR p) (outR l) (k + 1) (inR v)) (.cond (fun h5 => ?_) (fun h5 => .ret ?_)) fun v hv => .ret ⟨w64_succ (by omega), hv⟩
        · simp only [Bool.and_eq_true] at h5
          have hcv := (h3 h5.1).1 h5.2
          refine .idx rfl hk (.ret ?_)
          have e : vset (vset d k 0#8) k 1#8 = vset d k 1#8 := vget_ext fun j hj => by
            rw [vget_vset _ _ hk, vget_vset _ _ hk, vget_vset _ _ hk]
            by_cases hjk : j = k
            · rw [if_pos hjk, if_pos hjk]
            · rw [if_neg hjk, if_neg hjk, if_neg hjk]
          rw [e]
          exact ⟨hB true, hnext true, (hgr.one fun hx => hz.1 hx hcv).congr (hset true)⟩
        · refine ⟨hB false, hnext false, (hgr.zero (hz.2 ?_)).congr (hset false)⟩
          cases hf2 : f
          · -- no cube decides: the bit may be turned
            rw [hf2] at g2
            have hno : ∀ x ∈ m, vget x k = 2#8 := fun x hx => by
              have := List.any_eq_false.1 g2.symm x hx
              simpa using this
            obtain ⟨w, hw1, hw2⟩ := hgr.some_
            obtain ⟨w', hw'⟩ := point_ex fun i => if i = k then false else cv w i
            refine not_covR.2 ⟨w', (hset false w').2 ⟨fun i hi => ?_, by rw [hw' k hk, if_pos rfl]⟩, fun x hx hi => ?_⟩
            · by_cases hik : i = k
              · subst hik; exact .inl hf
              · rw [hw' i hi, if_neg hik]; exact hw1 i hi
            · refine (hask w (hgr.sub w hw1)).2 hw2 x hx fun i hi' => ?_
              by_cases hik : i = k
              · subst hik; exact .inl (hno x hx)
              · have := hi i hi'
                rw [hw' i hi', if_neg hik] at this; exact this
          · intro hcv
            rw [hf2] at h5 h3
            rw [(h3 rfl).2 hcv] at h5
            cases h5
  · obtain ⟨kk, d⟩ := s; obtain ⟨e1, hd, hfx, hgr⟩ := hi
    simp only at e1 hd hfx hgr; subst e1
    refine ⟨_, by simp; rfl, ?_⟩
    refine (point_eq d).bind fun q hq => .ret ⟨fun hcv => absurd hcv hnc, fun _ => ⟨q, rfl, hgr.done fun i hi => ?_⟩⟩
    rw [hq i hi]
    rcases hd i hi with h5 | h5 | h5
    · rw [h5]; right; rfl
    · rw [h5]; right; rfl
    · exact absurd h5 (hfx i hi)

set_option maxHeartbeats 2000000 in
theorem witness_ok (x0 x1 : List (BitVec 16)) : L_law26_CoverWitness x0 x1 = some true := by
  suffices h : Tot (L_law26_CoverWitness x0 x1) (fun r => r = true) from Tot.toEq h
  unfold L_law26_CoverWitness
  refine (made_tot x0 17 (by omega)).bind fun x hx => (made_tot x1 2 (by omega)).bind fun c hc => .eq (app_ok c (by omega)) ?_
  have hys := can_app hc.1
  have hlen : (c ++ [default]).length ≤ 3 := by simp; omega
  generalize c ++ [default] = ys at hys hlen
  refine Tot.loop ys.length (fun k s => s = (k : Int)) (by omega) rfl (fun k s hk hi => ?_) (fun s hi => ?_)
  · subst hi
    refine Tot.cond (fun _ => ?_) (fun h => by simp at h; omega)
    refine .idx rfl hk ?_
    have hy := can_get hys hk
    generalize lget ys k = y at hy
    refine (Witness_tot y x hy hx.1 (by omega)).bind fun y4 h4 => (bits26_eq [y] (by simp)).bind fun y5 h5 => ?_
    obtain ⟨p, r, rfl, hp, _⟩ := h5.cons_inv
    refine .idx (k := 0) rfl (by simp) ((bits26_eq x (by omega)).bind fun y6 h6 => ?_)
    show Tot ((L_ref26_Witness p y6).bind _) _
    have hB : ∀ b ∈ y6, isB b := fun b hb => by
      obtain ⟨t, ht, rfl⟩ := List.mem_iff_getElem.1 hb
      exact rel_isB (h6.2 t (by rw [h6.1]; exact ht) ht)
    refine (refWitness_tot p y6 (rel_isB hp) hB (by rw [← h6.1]; omega)).bind fun y7 h7 => ?_
    have e : (x.filter (agB y)).length = (y6.filter (mtB p)).length := (h6.filter (f := agB y) (g := mtB p) fun z _ w hw => (rel_meet hp hw).symm).1
    rw [← e] at h7
    have hR : inR p = fun q => inB y q = true := funext fun q => propext (rel_in hy hp q)
    have hO : outR y6 = out x := funext fun q => propext (by
      constructor
      · intro h1 z hz hi
        obtain ⟨w, hw, h2⟩ := (h6.ex (P := fun z => inB z q = true) (Q := fun w => inR w q) fun z hz w hw => (rel_in (hx.1 z hz) hw q).symm).1 ⟨z, hz, hi⟩
        exact h1 w hw h2
      · intro h1 w hw h2
        obtain ⟨z, hz, hi⟩ := (h6.ex (P := fun z => inB z q = true) (Q := fun w => inR w q) fun z hz w hw => (rel_in (hx.1 z hz) hw q).symm).2 ⟨w, hw, h2⟩
        exact h1 z hz hi)
    rw [rel_cov hy hx.1 hp h6, hR, hO] at h7
    have he : y4 = y7 := by
      by_cases hg : (x.filter (agB y)).length > 16
      · rw [if_pos hg] at h4 h7; rw [h4, h7]
      · rw [if_neg hg] at h4 h7
        by_cases hcv : cov y x
        · rw [h4.1 hcv, h7.1 hcv]
        · obtain ⟨q, h8, h9⟩ := h4.2 hcv
          obtain ⟨q', h8', h9'⟩ := h7.2 hcv
          rw [h8, h8', h9.uniq h9']
    subst he
    refine .cond (fun h => by simp at h) (fun _ => ?_)
    have hin : y4.2.1 = true → inB y y4.1 = true ∧ out x y4.1 ∧ ¬ cov y x ∧ y4.2.2 = 0 ∧ ¬ (x.filter (agB y)).length > 16 := fun hk => by
      by_cases hg : (x.filter (agB y)).length > 16
      · rw [if_pos hg] at h4; rw [h4] at hk; cases hk
      · rw [if_neg hg] at h4
        by_cases hcv : cov y x
        · rw [h4.1 hcv] at hk; cases hk
        · obtain ⟨q, h8, h9⟩ := h4.2 hcv
          rw [h8]
          exact ⟨h9.1, h9.2.1, hcv, rfl, hg⟩
    refine .condM (P := fun r => r = inB y y4.1) (fun _ => Contains_eq _ _) fun y8 g8 => .cond (fun h => ?_) (fun _ => ?_)
    · exfalso
      simp only [Bool.and_eq_true, Bool.not_eq_true'] at h
      rw [g8 h.1, (hin h.1).1] at h
      cases h.2
    refine Tot.loop x.length (fun j s => s = (j : Int)) (by omega) rfl (fun j s hj hi => ?_) (fun s hi => ?_)
    · subst hi
      refine Tot.cond (fun _ => ?_) (fun h => by simp at h; omega)
      refine .idx rfl hj (.condM (P := fun r => r = inB (lget x j) y4.1) (fun _ => Contains_eq _ _) fun y9 g9 => .cond (fun h => ?_) (fun _ => .ret (w64_succ (by omega))))
      exfalso
      simp only [Bool.and_eq_true] at h
      rw [g9 h.1] at h
      exact (hin h.1).2.1 _ (by rw [lget_eq x hj]; exact List.getElem_mem hj) h.2
    · subst hi
      refine ⟨_, by simp; rfl, ?_⟩
      simp only [Sum.elim_inl]
      refine (Covered_tot y x hy hx.1 (by omega)).bind fun y10 h10 => .cond (fun h => ?_) (fun _ => .ret (w64_succ (by omega)))
      exfalso
      by_cases hg : (x.filter (agB y)).length > 16
      · rw [if_pos hg] at h4 h10; rw [h4, h10] at h; simp at h
      · rw [if_neg hg] at h4 h10
        by_cases hcv : cov y x
        · rw [h4.1 hcv, h10.1, h10.2.2 hcv] at h; simp at h
        · obtain ⟨q, h8, h9⟩ := h4.2 hcv
          have : y10.1 = false := by
            cases h11 : y10.1
            · rfl
            · exact absurd (h10.2.1 h11) hcv
          rw [h8, h10.1, this] at h; simp at h
  · subst hi
    refine ⟨_, by simp; rfl, ?_⟩
    simp only [Sum.elim_inl]
    rw [begun26_ok]
    exact .eq rfl (.ret rfl)
end Go.Proofs.Ytabodolbdalimaa
