/-
  What the reference of cover computes, and the laws CoverDecides, CoverParts, CoverPoints. Plain Lean. Conditions: none.
-/
import Derived.Test.YtodajdohokmjnaaCov
namespace Go.Proofs.Ytodajdohokmjnaa
open Go Gv
set_option linter.unusedVariables false
set_option linter.unusedSimpArgs false
set_option maxRecDepth 100000

theorem All2.cons_inv {α β : Type} {R : α → β → Prop} {x : α} {xs : List α} {ys : List β} (h : All2 R (x :: xs) ys) : ∃ y r, ys = y :: r ∧ R x y ∧ All2 R xs r := by
  obtain ⟨h1, h2⟩ := h
  cases ys with
  | nil => simp at h1
  | cons y r =>
    refine ⟨y, r, rfl, h2 0 (by simp) (by simp), by simpa using h1, fun t ht ht' => ?_⟩
    have := h2 (t + 1) (by simp; omega) (by simp; omega)
    simpa using this
theorem All2.nil_inv {α β : Type} {R : α → β → Prop} {ys : List β} (h : All2 R [] ys) : ys = [] := by
  have := h.1
  cases ys with
  | nil => rfl
  | cons y r => simp at this
theorem All2.cons {α β : Type} {R : α → β → Prop} {x : α} {y : β} : ∀ {xs : List α} {ys : List β}, R x y → All2 R xs ys → All2 R (x :: xs) (y :: ys) := fun {xs ys} h k =>
  ⟨by simp [k.1], fun t ht ht' => by
    cases t with
    | zero => exact h
    | succ t => simpa using k.2 t (by simpa using ht) (by simpa using ht')⟩
theorem All2.filter {α β : Type} {R : α → β → Prop} {f : α → Bool} {g : β → Bool} : ∀ {xs : List α} {ys : List β}, All2 R xs ys → (∀ x ∈ xs, ∀ y, R x y → f x = g y) → All2 R (xs.filter f) (ys.filter g)
  | [], ys, h, _ => by rw [h.nil_inv]; exact .nil
  | x :: xs, ys, h, hf => by
    obtain ⟨y, r, rfl, h1, h2⟩ := h.cons_inv
    have ih := All2.filter h2 (fun x hx => hf x (by simp [hx]))
    have := hf x (by simp) y h1
    simp only [List.filter_cons, this]
    cases g y
    · exact ih
    · exact .cons h1 ih
theorem All2.ex {α β : Type} {R : α → β → Prop} {xs : List α} {ys : List β} (h : All2 R xs ys) {P : α → Prop} {Q : β → Prop} (hp : ∀ x ∈ xs, ∀ y, R x y → (P x ↔ Q y)) : (∃ x ∈ xs, P x) ↔ ∃ y ∈ ys, Q y := by
  constructor
  · rintro ⟨x, hx, h1⟩
    obtain ⟨t, ht, rfl⟩ := List.mem_iff_getElem.1 hx
    have ht' : t < ys.length := by rw [← h.1]; exact ht
    exact ⟨ys[t], List.getElem_mem ht', (hp _ (List.getElem_mem ht) _ (h.2 t ht ht')).1 h1⟩
  · rintro ⟨y, hy, h1⟩
    obtain ⟨t, ht', rfl⟩ := List.mem_iff_getElem.1 hy
    have ht : t < xs.length := by rw [h.1]; exact ht'
    exact ⟨xs[t], List.getElem_mem ht, (hp _ (List.getElem_mem ht) _ (h.2 t ht ht')).2 h1⟩

abbrev Bits := Vector (BitVec 8) 512
abbrev Pnt := Vector T_api_Value 4
def inR (p : Bits) (q : Pnt) : Prop := ∀ i, i < 512 → vget p i = 2#8 ∨ vget p i = if cv q i = true then 1#8 else 0#8
def isB (p : Bits) : Prop := ∀ i, i < 512 → vget p i = 0#8 ∨ vget p i = 1#8 ∨ vget p i = 2#8
def covR (p : Bits) (l : List Bits) : Prop := ∀ q, inR p q → ∃ x ∈ l, inR x q
def rel (c : T_cube_Cube) (p : Bits) : Prop := ∀ i, i < 512 → vget p i = cell c.f_Value c.f_Mask i
def meetR (p x : Bits) : Prop := ∀ i, i < 512 → vget p i = 2#8 ∨ vget x i = 2#8 ∨ vget p i = vget x i
noncomputable def mtB (p x : Bits) : Bool := @decide (meetR p x) (Classical.propDecidable _)
theorem mtB_iff {p x : Bits} : mtB p x = true ↔ meetR p x := by unfold mtB; simp

theorem rel_isB {c : T_cube_Cube} {p : Bits} (h : rel c p) : isB p := fun i hi => by
  rw [h i hi]; unfold cell
  cases cv c.f_Mask i <;> cases cv c.f_Value i <;> simp
theorem rel_in {c : T_cube_Cube} {p : Bits} (hc : can c) (h : rel c p) (q : Pnt) : inR p q ↔ inB c q = true := by
  rw [in_iff hc]
  constructor
  · intro g i hi hm
    have := g i hi
    rw [h i hi] at this
    unfold cell at this
    rw [hm] at this
    cases h1 : cv c.f_Value i <;> cases h2 : cv q i <;> simp [h1, h2] at this ⊢
  · intro g i hi
    rw [h i hi]
    unfold cell
    cases hm : cv c.f_Mask i
    · simp
    · rw [g i hi hm]
      cases h1 : cv c.f_Value i <;> simp
theorem rel_meet {c x : T_cube_Cube} {p r : Bits} (h : rel c p) (h' : rel x r) : mtB p r = agB c x := by
  rw [Bool.eq_iff_iff, mtB_iff, agB_iff]
  exact agree_cells h h'
theorem rel_cov {c : T_cube_Cube} {p : Bits} {l : List T_cube_Cube} {m : List Bits} (hc : can c) (hl : ∀ x ∈ l, can x) (h : rel c p) (hm : All2 rel l m) : covR p m ↔ cov c l := by
  constructor
  · intro g q hq
    exact (hm.ex fun x hx y hy => (rel_in (hl x hx) hy q).symm).2 (g q ((rel_in hc h q).2 hq))
  · intro g q hq
    exact (hm.ex fun x hx y hy => (rel_in (hl x hx) hy q).symm).1 (g q ((rel_in hc h q).1 hq))

theorem covR_near {p : Bits} {l : List Bits} : covR p (l.filter (mtB p)) ↔ covR p l := by
  constructor
  · intro h q hq
    obtain ⟨x, hx, h1⟩ := h q hq
    exact ⟨x, (List.mem_filter.1 hx).1, h1⟩
  · intro h q hq
    obtain ⟨x, hx, h1⟩ := h q hq
    refine ⟨x, List.mem_filter.2 ⟨hx, mtB_iff.2 fun i hi => ?_⟩, h1⟩
    rcases hq i hi with h2 | h2
    · exact .inl h2
    · rcases h1 i hi with h3 | h3
      · exact .inr (.inl h3)
      · exact .inr (.inr (by rw [h2, h3]))

def nfreeR (p : Bits) : Nat := cnt 512 (fun i => vget p i == 2#8)
theorem inR_own {p : Bits} (hp : isB p) : ∃ q, inR p q := by
  obtain ⟨q, hq⟩ := point_ex fun i => vget p i == 1#8
  refine ⟨q, fun i hi => ?_⟩
  rw [hq i hi]
  rcases hp i hi with h | h | h <;> rw [h] <;> simp

theorem inR_set {p : Bits} {k : Nat} (hk : k < 512) (hf : vget p k = 2#8) (b : Bool) (q : Pnt) : inR (vset p k (if b = true then 1#8 else 0#8)) q ↔ inR p q ∧ cv q k = b := by
  constructor
  · intro h
    refine ⟨fun i hi => ?_, ?_⟩
    · by_cases hik : i = k
      · subst hik; exact .inl hf
      · have := h i hi
        rw [vget_vset _ _ hk, if_neg hik] at this; exact this
    · have := h k hk
      rw [vget_vset _ _ hk, if_pos rfl] at this
      cases b <;> cases h2 : cv q k <;> simp [h2] at this ⊢
  · rintro ⟨h, h2⟩ i hi
    rw [vget_vset _ _ hk]
    by_cases hik : i = k
    · subst hik; rw [if_pos rfl, h2]; right; rfl
    · rw [if_neg hik]; exact h i hi
theorem isB_set {p : Bits} {k : Nat} (hk : k < 512) (hp : isB p) (b : Bool) : isB (vset p k (if b = true then 1#8 else 0#8)) := fun i hi => by
  rw [vget_vset _ _ hk]
  by_cases hik : i = k
  · rw [if_pos hik]; cases b <;> simp
  · rw [if_neg hik]; exact hp i hi
theorem nfreeR_set {p : Bits} {k : Nat} (hk : k < 512) (hf : vget p k = 2#8) (b : Bool) : nfreeR (vset p k (if b = true then 1#8 else 0#8)) < nfreeR p := by
  refine cnt_lt_of hk (fun i hi h => ?_) ?_ (by rw [hf]; rfl)
  · rw [vget_vset _ _ hk] at h
    by_cases hik : i = k
    · subst hik; rw [hf]; rfl
    · rw [if_neg hik] at h; exact h
  · rw [vget_vset _ _ hk, if_pos rfl]; cases b <;> rfl

theorem covered_same {c : T_cube_Cube} {p : Bits} {l : List T_cube_Cube} {m : List Bits} (hc : can c) (hl : ∀ x ∈ l, can x) (h : rel c p) (hm : All2 rel l m) {a b : Bool × Int}
    (ha : if (l.filter (agB c)).length > 16 then a = (false, 26) else (a.2 = 0 ∧ (a.1 = true ↔ cov c l)))
    (hb : if (m.filter (mtB p)).length > 16 then b = (false, 26) else (b.2 = 0 ∧ (b.1 = true ↔ covR p m))) : a = b := by
  have e : (l.filter (agB c)).length = (m.filter (mtB p)).length := (hm.filter (f := agB c) (g := mtB p) fun x _ y hy => (rel_meet h hy).symm).1
  rw [← e] at hb
  by_cases hg : (l.filter (agB c)).length > 16
  · rw [if_pos hg] at ha hb; rw [ha, hb]
  · rw [if_neg hg] at ha hb
    obtain ⟨a1, a2⟩ := a; obtain ⟨b1, b2⟩ := b
    simp only at ha hb
    rw [ha.1, hb.1]
    have : a1 = b1 := by rw [Bool.eq_iff_iff, ha.2, hb.2, rel_cov hc hl h hm]
    rw [this]

end Go.Proofs.Ytodajdohokmjnaa
