/-
  What the reference of cover computes, and the laws CoverDecides, CoverParts, CoverPoints. Plain Lean. Conditions: none.
-/
import Derived.Test.YtabodolbdalimaaCov
namespace Go.Proofs.Ytabodolbdalimaa
open Go Gv
set_option linter.unusedVariables false
set_option linter.unusedSimpArgs false
set_option maxRecDepth 100000

theorem All2.cons_inv {α β : Type} {R : α → β → Prop} {x : α} {xs : List α} {ys : List β} (h : All2 R (x :: xs) ys) : ∃ y r, ys = y :: r ∧ R x y ∧ All2 R xs r := by
  obtain ⟨h1, h2⟩ := h
  cases ys with
  | nil => simp at h1
  | cons y r =>
    refine ⟨y, r, rfl, h2 0 (by simp) (by simp), by simpa using h1, fun t ht ht' => ?_⟩
    have := h2 (t + 1) (by simp; omega) (by simp; omega)
    simpa using this
theorem All2.nil_inv {α β : Type} {R : α → β → Prop} {ys : List β} (h : All2 R [] ys) : ys = [] := by
  have := h.1
  cases ys with
  | nil => rfl
  | cons y r => simp at this
theorem All2.cons {α β : Type} {R : α → β → Prop} {x : α} {y : β} : ∀ {xs : List α} {ys : List β}, R x y → All2 R xs ys → All2 R (x :: xs) (y :: ys) := fun {xs ys} h k =>
  ⟨by simp [k.1], fun t ht ht' => by
    cases t with
    | zero => exact h
    | succ t => simpa using k.2 t (by simpa using ht) (by simpa using ht')⟩
theorem All2.filter {α β : Type} {R : α → β → Prop} {f : α → Bool} {g : β → Bool} : ∀ {xs : List α} {ys : List β}, All2 R xs ys → (∀ x ∈ xs, ∀ y, R x y → f x = g y) → All2 R (xs.filter f) (ys.filter g)
  | [], ys, h, _ => by rw [h.nil_inv]; exact .nil
  | x :: xs, ys, h, hf => by
    obtain ⟨y, r, rfl, h1, h2⟩ := h.cons_inv
    have ih := All2.filter h2 (fun x hx => hf x (by simp [hx]))
    have := hf x (by simp) y h1
    simp only [List.filter_cons, this]
    cases g y
    · exact ih
    · exact .cons h1 ih
theorem All2.ex {α β : Type} {R : α → β → Prop} {xs : List α} {ys : List β} (h : All2 R xs ys) {P : α → Prop} {Q : β → Prop} (hp : ∀ x ∈ xs, ∀ y, R x y → (P x ↔ Q y)) : (∃ x ∈ xs, P x) ↔ ∃ y ∈ ys, Q y := by
  constructor
  · rintro ⟨x, hx, h1⟩
    obtain ⟨t, ht, rfl⟩ := List.mem_iff_getElem.1 hx
    have ht' : t < ys.length := by rw [← h.1]; exact ht
    exact ⟨ys[t], List.getElem_mem ht', (hp _ (List.getElem_mem ht) _ (h.2 t ht ht')).1 h1⟩
  · rintro ⟨y, hy, h1⟩
    obtain ⟨t, ht', rfl⟩ := List.mem_iff_getElem.1 hy
    have ht : t < xs.length := by rw [h.1]; exact ht'
    exact ⟨xs[t], List.getElem_mem ht, (hp _ (List.getElem_mem ht) _ (h.2 t ht ht')).2 h1⟩

abbrev Bits := Vector (BitVec 8) 512
abbrev Pnt := Vector T_api_Value 4
def inR (p : Bits) (q : Pnt) : Prop := ∀ i, i < 512 → vget p i = 2#8 ∨ vget p i = if cv q i = true then 1#8 else 0#8
def isB (p : Bits) : Prop := ∀ i, i < 512 → vget p i = 0#8 ∨ vget p i = 1#8 ∨ vget p i = 2#8
def covR (p : Bits) (l : List Bits) : Prop := ∀ q, inR p q → ∃ x ∈ l, inR x q
def rel (c : T_cube_Cube) (p : Bits) : Prop := ∀ i, i < 512 → vget p i = cell c.f_Value c.f_Mask i
def meetR (p x : Bits) : Prop := ∀ i, i < 512 → vget p i = 2#8 ∨ vget x i = 2#8 ∨ vget p i = vget x i
noncomputable def mtB (p x : Bits) : Bool := @decide (meetR p x) (Classical.propDecidable _)
theorem mtB_iff {p x : Bits} : mtB p x = true ↔ meetR p x := by unfold mtB; simp

theorem rel_isB {c : T_cube_Cube} {p : Bits} (h : rel c p) : isB p := fun i hi => by
  rw [h i hi]; unfold cell
  cases cv c.f_Mask i <;> cases cv c.f_Value i <;> simp
theorem rel_in {c : T_cube_Cube} {p : Bits} (hc : can c) (h : rel c p) (q : Pnt) : inR p q ↔ inB c q = true := by
  rw [in_iff hc]
  constructor
  · intro g i hi hm
    have := g i hi
    rw [h i hi] at this
    unfold cell at this
    rw [hm] at this
    cases h1 : cv c.f_Value i <;> cases h2 : cv q i <;> simp [h1, h2] at this ⊢
  · intro g i hi
    rw [h i hi]
    unfold cell
    cases hm : cv c.f_Mask i
    · simp
    · rw [g i hi hm]
      cases h1 : cv c.f_Value i <;> simp
theorem rel_meet {c x : T_cube_Cube} {p r : Bits} (h : rel c p) (h' : rel x r) : mtB p r = agB c x := by
  rw [Bool.eq_iff_iff, mtB_iff, agB_iff]
  exact agree_cells h h'
theorem rel_cov {c : T_cube_Cube} {p : Bits} {l : List T_cube_Cube} {m : List Bits} (hc : can c) (hl : ∀ x ∈ l, can x) (h : rel c p) (hm : All2 rel l m) : covR p m ↔ cov c l := by
  constructor
  · intro g q hq
    exact (hm.ex fun x hx y hy => (rel_in (hl x hx) hy q).symm).2 (g q ((rel_in hc h q).2 hq))
  · intro g q hq
    exact (hm.ex fun x hx y hy => (rel_in (hl x hx) hy q).symm).1 (g q ((rel_in hc h q).1 hq))

theorem refnear_eq (p : Bits) (l : List Bits) (hl : l.length < 2 ^ 30) : L_ref26_near p l = some (l.filter (mtB p)) := by
  refine Tot.toEq ?_
  unfold L_ref26_near
  refine Tot.loop l.length (fun k s => s.1 = k ∧ s.2 = (l.take k).filter (mtB p)) (by omega) ⟨rfl, by simp⟩ (fun k s hk hi => ?_) (fun s hi => ?_)
  · obtain ⟨n, o⟩ := s; obtain ⟨e1, e2⟩ := hi
    simp only at e1 e2; subst e1; subst e2
    refine Tot.cond (fun _ => ?_) (fun h => by simp at h; omega)
    have hle : ((l.take k).filter (mtB p)).length ≤ k := Nat.le_trans (List.length_filter_le _ _) (by rw [List.length_take]; omega)
    have htk : (l.take (k + 1)).filter (mtB p) = (l.take k).filter (mtB p) ++ if mtB p (lget l k) = true then [lget l k] else [] := by
      rw [List.take_add_one, List.getElem?_eq_getElem hk, List.filter_append, lget_eq l hk]
      simp only [Option.toList_some, List.filter_cons, List.filter_nil]
    refine .idx rfl hk ((refMeet_eq p _).bind fun y1 h1 => ?_)
    have hy : y1.2 = mtB p (lget l k) := by rw [Bool.eq_iff_iff, mtB_iff]; exact h1.1
    refine .bind (P := fun o => o = (l.take (k + 1)).filter (mtB p)) (.cond (fun h => ?_) (fun h => .ret ?_)) fun o ho => .ret ⟨w64_succ (by omega), ho⟩
    · refine .eq (a := (l.take k).filter (mtB p) ++ [lget l k]) (by unfold appM; rw [if_pos]; unfold maxLen; simp only [List.length_cons, List.length_nil]; omega) (.ret ?_)
      rw [htk, ← hy, h]; rfl
    · rw [htk, ← hy, h]; simp
  · obtain ⟨n, o⟩ := s; obtain ⟨e1, e2⟩ := hi
    simp only at e1 e2; subst e1; subst e2
    rw [List.take_length]
    refine ⟨_, by simp; rfl, ?_⟩
    exact .ret rfl

theorem covR_near {p : Bits} {l : List Bits} : covR p (l.filter (mtB p)) ↔ covR p l := by
  constructor
  · intro h q hq
    obtain ⟨x, hx, h1⟩ := h q hq
    exact ⟨x, (List.mem_filter.1 hx).1, h1⟩
  · intro h q hq
    obtain ⟨x, hx, h1⟩ := h q hq
    refine ⟨x, List.mem_filter.2 ⟨hx, mtB_iff.2 fun i hi => ?_⟩, h1⟩
    rcases hq i hi with h2 | h2
    · exact .inl h2
    · rcases h1 i hi with h3 | h3
      · exact .inr (.inl h3)
      · exact .inr (.inr (by rw [h2, h3]))

def nfreeR (p : Bits) : Nat := cnt 512 (fun i => vget p i == 2#8)
theorem inR_own {p : Bits} (hp : isB p) : ∃ q, inR p q := by
  obtain ⟨q, hq⟩ := point_ex fun i => vget p i == 1#8
  refine ⟨q, fun i hi => ?_⟩
  rw [hq i hi]
  rcases hp i hi with h | h | h <;> rw [h] <;> simp

theorem inR_set {p : Bits} {k : Nat} (hk : k < 512) (hf : vget p k = 2#8) (b : Bool) (q : Pnt) : inR (vset p k (if b = true then 1#8 else 0#8)) q ↔ inR p q ∧ cv q k = b := by
  constructor
  · intro h
    refine ⟨fun i hi => ?_, ?_⟩
    · by_cases hik : i = k
      · subst hik; exact .inl hf
      · have := h i hi
        rw [vget_vset _ _ hk, if_neg hik] at this; exact this
    · have := h k hk
      rw [vget_vset _ _ hk, if_pos rfl] at this
      cases b <;> cases h2 : cv q k <;> simp [h2] at this ⊢
  · rintro ⟨h, h2⟩ i hi
    rw [vget_vset _ _ hk]
    by_cases hik : i = k
    · subst hik; rw [if_pos rfl, h2]; right; rfl
    · rw [if_neg hik]; exact h i hi
theorem isB_set {p : Bits} {k : Nat} (hk : k < 512) (hp : isB p) (b : Bool) : isB (vset p k (if b = true then 1#8 else 0#8)) := fun i hi => by
  rw [vget_vset _ _ hk]
  by_cases hik : i = k
  · rw [if_pos hik]; cases b <;> simp
  · rw [if_neg hik]; exact hp i hi
theorem nfreeR_set {p : Bits} {k : Nat} (hk : k < 512) (hf : vget p k = 2#8) (b : Bool) : nfreeR (vset p k (if b = true then 1#8 else 0#8)) < nfreeR p := by
  refine cnt_lt_of hk (fun i hi h => ?_) ?_ (by rw [hf]; rfl)
  · rw [vget_vset _ _ hk] at h
    by_cases hik : i = k
    · subst hik; rw [hf]; rfl
    · rw [if_neg hik] at h; exact h
  · rw [vget_vset _ _ hk, if_pos rfl]; cases b <;> rfl

set_option maxHeartbeats 2000000 in
theorem refcovered_spec : ∀ (n : Nat) (p : Bits) (l : List Bits), isB p → (∀ x ∈ l, isB x) → l.length < 2 ^ 30 → nfreeR p < n → Tot (Lr_ref26_covered n p l) (fun r => r = true ↔ covR p l) := by
  intro n
  induction n with
  | zero => intro p l _ _ _ h; omega
  | succ n ih =>
    intro p l0 hp hl0 hlen hn
    unfold Lr_ref26_covered
    refine .eq (refnear_eq p l0 hlen) ?_
    have hl : ∀ x ∈ l0.filter (mtB p), isB x := fun x hx => hl0 x (List.mem_filter.1 hx).1
    have hmt : ∀ x ∈ l0.filter (mtB p), meetR p x := fun x hx => mtB_iff.1 (List.mem_filter.1 hx).2
    have hlen2 : (l0.filter (mtB p)).length < 2 ^ 30 := Nat.lt_of_le_of_lt (List.length_filter_le _ _) hlen
    rw [← covR_near (l := l0)]
    generalize l0.filter (mtB p) = l at hl hmt hlen2
    refine .cond (fun h0 => .ret ?_) (fun h0 => ?_)
    · have : l = [] := by
        simp only [beq_iff_eq] at h0
        exact List.length_eq_zero_iff.1 (by omega)
      subst this
      refine ⟨fun h => (by cases h), fun hcov => ?_⟩
      obtain ⟨q, hq⟩ := inR_own hp
      obtain ⟨x, hx, _⟩ := hcov q hq
      cases hx
    have hpos : 0 < l.length := by
      rcases Nat.eq_zero_or_pos l.length with h | h
      · rw [h] at h0; simp at h0
      · exact h
    refine Tot.loop l.length (fun k s => s = (k : Int) ∧ ∀ j, j < k → ¬ ∀ i, i < 512 → vget (lget l j) i = 2#8 ∨ vget p i = vget (lget l j) i) (by omega) ⟨rfl, fun j hj => by omega⟩ (fun k s hk hi => ?_) (fun s hi => ?_)
    · obtain ⟨e1, e2⟩ := hi; subst e1
      refine Tot.cond (fun _ => ?_) (fun h => by simp at h; omega)
      refine .idx rfl hk ((refWithin_eq p _).bind fun y2 h2 => .cond (fun h => ?_) (fun h => ?_))
      · refine .ret ?_
        refine .ret ?_
        refine ⟨fun _ q hq => ⟨lget l k, by rw [lget_eq l hk]; exact List.getElem_mem hk, fun i hi => ?_⟩, fun _ => rfl⟩
        rcases h2.1 h i hi with h3 | h3
        · exact .inl h3
        · rw [← h3]; exact hq i hi
      · refine .ret ⟨w64_succ (by omega), fun j hj => ?_⟩
        by_cases hjk : j = k
        · subst hjk; intro hw; rw [h2.2 hw] at h; cases h
        · exact e2 j (by omega)
    · obtain ⟨e1, hnot⟩ := hi; subst e1
      refine ⟨_, by simp; rfl, ?_⟩
      simp only [Sum.elim_inl]
      have h00 := hnot 0 hpos
      have hm0 : meetR p (lget l 0) := hmt _ (by rw [lget_eq l hpos]; exact List.getElem_mem hpos)
      have hB0 : isB (lget l 0) := hl _ (by rw [lget_eq l hpos]; exact List.getElem_mem hpos)
      obtain ⟨x, hx⟩ : ∃ x, lget l 0 = x := ⟨_, rfl⟩
      rw [hx] at h00 hm0 hB0
      refine Tot.loop 512 (fun k s => s = (k : Int) ∧ ∀ j, j < k → ¬ (vget p j = 2#8 ∧ vget x j ≠ 2#8)) (by omega) ⟨rfl, fun j hj => by omega⟩ (fun k s hk hi => ?_) (fun s hi => ?_)
      · obtain ⟨e1, e2⟩ := hi; subst e1
        refine Tot.cond (fun _ => ?_) (fun h => by simp at h; omega)
        refine .idx rfl hk ?_
        refine .condM (P := fun r => r = 0) (fun _ => ⟨0, idx_nat (k := 0) hpos, rfl⟩) fun k3 h3 => ?_
        refine .condM (P := fun r => r = k) (fun _ => ⟨k, idx_nat hk, rfl⟩) fun k4 h4 => ?_
        refine .cond (fun h => ?_) (fun h => ?_)
        · refine .ret ⟨w64_succ (by omega), fun j hj => ?_⟩
          by_cases hjk : j = k
          · subst hjk
            rintro ⟨ha, hb⟩
            have hne : (vget p j != 2#8) = false := by rw [ha]; rfl
            rw [h3 hne, h4 hne, hx, hne, Bool.false_or, beq_iff_eq] at h
            exact hb h
          · exact e2 j (by omega)
        · rw [Bool.or_eq_false_iff] at h
          rw [h3 h.1, h4 h.1, hx] at h
          have hpk : vget p k = 2#8 := by simpa using h.1
          have hxk : vget x k ≠ 2#8 := by simpa using h.2
          obtain ⟨b, hb⟩ : ∃ b : Bool, vget x k = if b = true then 1#8 else 0#8 := by
            rcases hB0 k hk with h5 | h5 | h5
            · exact ⟨false, h5⟩
            · exact ⟨true, h5⟩
            · exact absurd h5 hxk
          refine .idx (k := 0) rfl hpos (.idx rfl hk (.idx (k := 0) rfl hpos (.idx rfl hk (.idx rfl hk (.idx rfl hk ?_)))))
          rw [hx, hb, show 1#8 - (if b = true then 1#8 else 0#8) = (if (!b) = true then 1#8 else 0#8) from by cases b <;> rfl]
          refine (ih _ l (isB_set hk hp (!b)) hl hlen2 (by have := nfreeR_set hk hpk (!b); omega)).bind fun y3 g3 => ?_
          refine .condM (P := fun r => r = true ↔ covR (vset p k (if b = true then 1#8 else 0#8)) l) (fun _ => ih _ l (isB_set hk hp b) hl hlen2 (by have := nfreeR_set hk hpk b; omega)) fun y4 g4 => ?_
          refine .ret ?_
          refine .ret ?_
          rw [Bool.and_eq_true]
          constructor
          · rintro ⟨ha, hb'⟩ q hq
            by_cases hqb : cv q k = b
            · exact (g4 ha).1 hb' q ((inR_set hk hpk b q).2 ⟨hq, hqb⟩)
            · exact g3.1 ha q ((inR_set hk hpk (!b) q).2 ⟨hq, by cases b <;> simp at hqb ⊢ <;> exact hqb⟩)
          · intro hc
            have ha := g3.2 fun q hq => hc q ((inR_set hk hpk (!b) q).1 hq).1
            exact ⟨ha, (g4 ha).2 fun q hq => hc q ((inR_set hk hpk b q).1 hq).1⟩
      · obtain ⟨e1, e2⟩ := hi
        exfalso
        refine h00 fun i hi => ?_
        rcases hm0 i hi with h5 | h5 | h5
        · left
          false_or_by_contra
          rename_i h6
          exact e2 i hi ⟨h5, h6⟩
        · exact .inl h5
        · exact .inr h5

theorem refCovered_tot (p : Bits) (l : List Bits) (hp : isB p) (hl : ∀ x ∈ l, isB x) (hlen : l.length < 2 ^ 30) :
    Tot (L_ref26_Covered p l) (fun r => if (l.filter (mtB p)).length > 16 then r = (false, 26) else (r.2 = 0 ∧ (r.1 = true ↔ covR p l))) := by
  unfold L_ref26_Covered
  refine .eq (refnear_eq p l hlen) (.cond (fun h => .ret ?_) (fun h => ?_))
  · rw [if_pos (by have := of_decide_eq_true h; omega)]
  · have hn : nfreeR p < FUEL := by have : nfreeR p ≤ 512 := cnt_le; unfold FUEL; omega
    refine (refcovered_spec FUEL p l hp hl hlen hn).bind fun y hy => .ret ?_
    rw [if_neg (by have := of_decide_eq_false h; omega)]
    exact ⟨rfl, hy⟩

theorem bits26_eq (l : List T_cube_Cube) (hl : l.length < 2 ^ 30) : Tot (L_law26_bits l) (All2 rel l) := by
  unfold L_law26_bits
  refine Tot.loop l.length (fun k s => s.1 = k ∧ All2 rel (l.take k) s.2) (by omega) ⟨rfl, .nil⟩ (fun k s hk hi => ?_) (fun s hi => ?_)
  · obtain ⟨n, o⟩ := s; obtain ⟨e1, e2⟩ := hi
    simp only at e1 e2; subst e1
    refine Tot.cond (fun _ => ?_) (fun h => by simp at h; omega)
    have hlen : o.length = k := by rw [← e2.1, List.length_take]; omega
    refine .idx rfl hk ((Read25_eq _ _).bind fun y1 h1 => .eq (a := o ++ [y1]) (by unfold appM; rw [if_pos]; unfold maxLen; simp only [List.length_cons, List.length_nil]; omega) ?_)
    refine .ret ⟨w64_succ (by omega), ?_⟩
    rw [List.take_add_one, List.getElem?_eq_getElem hk]
    rw [lget_eq l hk] at h1
    exact e2.snoc h1
  · obtain ⟨n, o⟩ := s; obtain ⟨e1, e2⟩ := hi
    simp only at e1 e2; subst e1
    rw [List.take_length] at e2
    refine ⟨_, by simp; rfl, ?_⟩
    exact .ret e2

theorem covered_same {c : T_cube_Cube} {p : Bits} {l : List T_cube_Cube} {m : List Bits} (hc : can c) (hl : ∀ x ∈ l, can x) (h : rel c p) (hm : All2 rel l m) {a b : Bool × Int}
    (ha : if (l.filter (agB c)).length > 16 then a = (false, 26) else (a.2 = 0 ∧ (a.1 = true ↔ cov c l)))
    (hb : if (m.filter (mtB p)).length > 16 then b = (false, 26) else (b.2 = 0 ∧ (b.1 = true ↔ covR p m))) : a = b := by
  have e : (l.filter (agB c)).length = (m.filter (mtB p)).length := (hm.filter (f := agB c) (g := mtB p) fun x _ y hy => (rel_meet h hy).symm).1
  rw [← e] at hb
  by_cases hg : (l.filter (agB c)).length > 16
  · rw [if_pos hg] at ha hb; rw [ha, hb]
  · rw [if_neg hg] at ha hb
    obtain ⟨a1, a2⟩ := a; obtain ⟨b1, b2⟩ := b
    simp only at ha hb
    rw [ha.1, hb.1]
    have : a1 = b1 := by rw [Bool.eq_iff_iff, ha.2, hb.2, rel_cov hc hl h hm]
    rw [this]

theorem begun26_ok : L_law26_begun = some true := by kernel_rfl
end Go.Proofs.Ytabodolbdalimaa
