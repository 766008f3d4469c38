/-
  The library of the decompiler, part U: variables that hold slices of the call's own in their fields. Conditions: none; it is about whatever program.
-/
import Derived.Test.YtodajdohokmjnaaGvS
namespace Gv
open Go
set_option linter.unusedVariables false
set_option linter.unusedSimpArgs false

def nilS : Value := .slice none 0 0

/-- the cells, with nil in place of the call's own slices -/
def blank : List (Nat × Value) → List Value → List Value
  | [], cs => cs
  | o :: r, cs => blank r (cs.set o.1 nilS)
theorem blank_length : ∀ {os : List (Nat × Value)} {cs : List Value}, (blank os cs).length = cs.length
  | [], _ => rfl
  | o :: r, cs => by rw [blank, blank_length, List.length_set]
theorem blank_get : ∀ {os : List (Nat × Value)} {cs : List Value} (i : Nat), (blank os cs)[i]? = if os.any (fun h => Nat.beq h.1 i) = true then cs[i]?.map (fun _ => nilS) else cs[i]?
  | [], _, i => by simp [blank]
  | o :: r, cs, i => by
    rw [blank, blank_get i, List.any_cons]
    by_cases h : o.1 = i
    · subst h
      simp only [Nat.beq_refl, Bool.true_or, if_true, List.getElem?_set]
      by_cases hl : o.1 < cs.length
      · simp [hl]
      · simp [hl]
    · have hb : Nat.beq o.1 i = false := by
        cases hb : Nat.beq o.1 i
        · rfl
        · exact absurd (look_beq.1 hb) h
      rw [hb, Bool.false_or, List.getElem?_set_ne h]

/-- none of the own slices lies among n cells from off on -/
def apartB (os : List (Nat × Value)) (off n : Nat) : Bool := os.all fun h => Nat.blt h.1 off || Nat.ble (off + n) h.1
theorem apartB_any {os : List (Nat × Value)} {off n i : Nat} (h : apartB os off n = true) (h1 : off ≤ i) (h2 : i < off + n) : os.any (fun h => Nat.beq h.1 i) = false := by
  rw [List.any_eq_false]
  intro x hx hb
  have h3 := List.all_eq_true.1 h x hx
  have h4 := look_beq.1 hb
  simp only [Bool.or_eq_true, Nat.blt_eq, Nat.ble_eq] at h3
  omega
theorem blank_cut {os : List (Nat × Value)} {off n : Nat} {cs : List Value} (h : apartB os off n = true) : ((blank os cs).drop off).take n = (cs.drop off).take n := by
  apply List.ext_getElem?
  intro i
  simp only [List.getElem?_take, List.getElem?_drop]
  split
  · rw [blank_get, apartB_any h (by omega) (by omega)]; rfl
  · rfl
theorem splice_get {cs ds : List Value} {off : Nat} (h : off + ds.length ≤ cs.length) (i : Nat) : (splice cs off ds)[i]? = if i < off then cs[i]? else if i < off + ds.length then ds[i - off]? else cs[i]? := by
  have h1 : (cs.take off).length = off := by rw [List.length_take]; omega
  unfold splice
  rw [List.append_assoc]
  by_cases hi : i < off
  · rw [if_pos hi, List.getElem?_append_left (by omega), List.getElem?_take, if_pos hi]
  · rw [if_neg hi, List.getElem?_append_right (by omega), h1]
    by_cases h2 : i < off + ds.length
    · rw [if_pos h2, List.getElem?_append_left (by omega)]
    · rw [if_neg h2, List.getElem?_append_right (by omega), List.getElem?_drop]
      congr 1; omega
theorem splice_len {cs ds : List Value} {off : Nat} (h : off + ds.length ≤ cs.length) : (splice cs off ds).length = cs.length := by
  simp only [splice, List.length_append, List.length_take, List.length_drop]; omega
theorem blank_splice {os : List (Nat × Value)} {off : Nat} {cs ds : List Value} (h : apartB os off ds.length = true) (hs : off + ds.length ≤ cs.length) : blank os (splice cs off ds) = splice (blank os cs) off ds := by
  apply List.ext_getElem?
  intro i
  rw [blank_get, splice_get hs, splice_get (by rw [blank_length]; exact hs), blank_get]
  by_cases h1 : i < off
  · simp only [if_pos h1]
  · simp only [if_neg h1]
    by_cases h2 : i < off + ds.length
    · simp only [if_pos h2, apartB_any h (Nat.not_lt.1 h1) h2]; rfl
    · simp only [if_neg h2]

/-- own slice u at o; those that were there before -/
def setHole (os : List (Nat × Value)) (o : Nat) (u : Value) : List (Nat × Value) :=
  bif os.any (fun h => Nat.beq h.1 o) then os.map (fun h => bif Nat.beq h.1 o then (o, u) else h) else (o, u) :: os
theorem setHole_mem {os : List (Nat × Value)} {o : Nat} {u : Value} {h : Nat × Value} (hm : h ∈ setHole os o u) : h = (o, u) ∨ (h ∈ os ∧ h.1 ≠ o) := by
  unfold setHole at hm
  cases hb : os.any (fun h => Nat.beq h.1 o)
  · rw [hb] at hm
    simp only [cond_false] at hm
    rcases List.mem_cons.1 hm with hm | hm
    · exact .inl hm
    · refine .inr ⟨hm, fun e => ?_⟩
      have := List.any_eq_false.1 hb h hm
      exact this (look_beq.2 e)
  · rw [hb] at hm
    simp only [cond_true] at hm
    obtain ⟨x, hx, he⟩ := List.mem_map.1 hm
    cases h1 : Nat.beq x.1 o
    · rw [h1] at he
      simp only [cond_false] at he
      subst he
      exact .inr ⟨hx, fun e => by rw [look_beq.2 e] at h1; cases h1⟩
    · rw [h1] at he
      exact .inl he.symm
theorem setHole_any {os : List (Nat × Value)} {o i : Nat} {u : Value} : (setHole os o u).any (fun h => Nat.beq h.1 i) = (Nat.beq o i || os.any (fun h => Nat.beq h.1 i)) := by
  unfold setHole
  cases hb : os.any (fun h => Nat.beq h.1 o)
  · simp only [cond_false, List.any_cons]
  · simp only [cond_true, List.any_map]
    rw [Bool.eq_iff_iff, Bool.or_eq_true, List.any_eq_true, List.any_eq_true]
    constructor
    · rintro ⟨x, hx, he⟩
      simp only [Function.comp] at he
      cases h1 : Nat.beq x.1 o
      · rw [h1] at he
        exact .inr ⟨x, hx, he⟩
      · rw [h1] at he
        exact .inl he
    · rintro (h | ⟨x, hx, he⟩)
      · obtain ⟨x, hx, h1⟩ := List.any_eq_true.1 hb
        exact ⟨x, hx, by simp only [Function.comp, h1, cond_true]; exact h⟩
      · refine ⟨x, hx, ?_⟩
        simp only [Function.comp]
        cases h1 : Nat.beq x.1 o
        · exact he
        · have e1 := look_beq.1 h1; have e2 := look_beq.1 he
          simp only [cond_true]; exact look_beq.2 (by omega)
def delHole (os : List (Nat × Value)) (o : Nat) : List (Nat × Value) := os.filter (fun h => !Nat.beq h.1 o)
theorem delHole_any {os : List (Nat × Value)} {o i : Nat} : (delHole os o).any (fun h => Nat.beq h.1 i) = (!(Nat.beq o i) && os.any (fun h => Nat.beq h.1 i)) := by
  rw [Bool.eq_iff_iff]
  simp only [List.any_eq_true, Bool.and_eq_true, Bool.not_eq_true', delHole, List.mem_filter]
  constructor
  · rintro ⟨x, ⟨h1, h2⟩, h3⟩
    refine ⟨?_, x, h1, h3⟩
    cases hb : Nat.beq o i
    · rfl
    · have := look_beq.1 hb; have h4 := look_beq.1 h3
      rw [h4, ← this, Nat.beq_refl] at h2; cases h2
  · rintro ⟨h0, x, h1, h3⟩
    refine ⟨x, ⟨h1, ?_⟩, h3⟩
    cases hb : Nat.beq x.1 o
    · rfl
    · have := look_beq.1 hb; have h4 := look_beq.1 h3
      rw [← this, h4, Nat.beq_refl] at h0; cases h0

/-- the cells represent x, apart from slices of the call's own, which are told one by one -/
def RepH {α : Type} [Rp α] (A : List Nat) (W : World) (cs : List Value) (x : α) (os : List (Nat × Value)) : Prop := Rp.rep A W (blank os cs) x ∧ ∀ h ∈ os, cs[h.1]? = some h.2 ∧ h.2.oneCell' = true
theorem RepH.len {α : Type} [Rp α] {A W} {cs : List Value} {x : α} {os : List (Nat × Value)} (h : RepH A W cs x os) : cs.length = Rp.size α := by rw [← blank_length (os := os)]; exact Rp.len h.1
theorem RepH.mono {α : Type} [Rp α] {A W A' W'} {cs : List Value} {x : α} {os : List (Nat × Value)} (e : Ext A W A' W') (h : RepH A W cs x os) : RepH A' W' cs x os := ⟨Rp.mono e h.1, h.2⟩
theorem RepH.one {α : Type} [Rp α] {A W} {cs : List Value} {x : α} {os : List (Nat × Value)} (h : RepH A W cs x os) : ∀ u ∈ cs, u.oneCell' = true := by
  intro u hu
  obtain ⟨i, hi⟩ := List.mem_iff_getElem?.1 hu
  by_cases hb : os.any (fun h => Nat.beq h.1 i) = true
  · obtain ⟨o, ho, he⟩ := List.any_eq_true.1 hb
    have he := look_beq.1 he
    obtain ⟨h1, h2⟩ := h.2 o ho
    rw [he, hi] at h1
    cases h1; exact h2
  · have h1 := blank_get (os := os) (cs := cs) i
    rw [if_neg hb, hi] at h1
    exact Rp.one h.1 u (List.mem_of_getElem? h1)

/-- a variable in a block of its own; slices of the call's own in its fields are told one by one, elsewhere it is as x says -/
def CP.varX {α : Type} [Rp α] (x : α) (os : List (Nat × Value)) : CP where
  holds A W o := ∃ cs T, o = .cells cs T (0, 0) ∧ RepH A W cs.toList x os
  nilOk := False
  mono e h := let ⟨cs, T, ho, hr⟩ := h; ⟨cs, T, ho, hr.mono e⟩

/-- a value with slices of the call's own in its fields -/
def VP.ofX {α : Type} [Rp α] (x : α) (os : List (Nat × Value)) : VP where
  holds A W v := shaped (Rp.agg α) v ∧ RepH A W v.cells.toList x os
  mono e h := ⟨h.1, h.2.mono e⟩

/-- the very value of one cell -/
structure Ex where
  v : Value
instance : Rp Ex where
  size := 1
  agg := false
  rep _ _ cs x := cs = [x.v] ∧ x.v.oneCell' = true
  len h := by rw [h.1]; rfl
  one h := by rw [h.1]; intro u hu; rw [List.mem_singleton.1 hu]; exact h.2
  flat _ := rfl
  mono _ h := h
theorem of_ex {A W v} {u : Value} : (VP.of (⟨u⟩ : Ex)).holds A W v ↔ v = u ∧ u.oneCell' = true := by
  constructor
  · rintro ⟨h1, h2, h3⟩
    have h1 : v.oneCell' = true := h1
    exact ⟨toList_one h1 h2, h3⟩
  · rintro ⟨rfl, h⟩
    exact ⟨h, by show v.cells.toList = [v] ∧ _; rw [cells_one h]; exact ⟨rfl, h⟩⟩
theorem Ty.ex {P : Program} {t : TypeId} {γ : Type} [Rp γ] (h : Ty P t (List γ)) : Ty P t Ex := ⟨h.size, h.und⟩
theorem slv_one {key : Option Nat} {n cap : Nat} : (slv key n cap).oneCell' = true := by cases key <;> rfl
theorem rep_nil {A W} {γ : Type} [Rp γ] : Rp.rep A W [nilS] ([] : List γ) := ⟨nilS, rfl, .inl ⟨rfl, rfl⟩⟩

theorem repH_set {α γ : Type} [Rp α] [Rp γ] {A W} {cs ds : List Value} {x : α} {v : γ} {os : List (Nat × Value)} (l : Lens α γ) (h : RepH A W cs x os) (hd : Rp.rep A W ds v) (ha : apartB os l.off (Rp.size γ) = true) : RepH A W (splice cs l.off ds) (l.set x v) os := by
  have h1 := h.len
  have hin := l.inb
  have hl := Rp.len hd
  refine ⟨?_, fun o hm => ?_⟩
  · have h6 := l.set_rep h.1 hd
    rw [blank_splice (by rw [hl]; exact ha) (by rw [hl]; omega)]
    simpa [splice, hl] using h6
  · refine ⟨?_, (h.2 o hm).2⟩
    rw [splice_get (by rw [hl]; omega)]
    have h7 := List.all_eq_true.1 ha o hm
    simp only [Bool.or_eq_true, Nat.blt_eq, Nat.ble_eq] at h7
    rw [hl]
    by_cases h8 : o.1 < l.off
    · rw [if_pos h8]; exact (h.2 o hm).1
    · rw [if_neg h8, if_neg (by omega)]; exact (h.2 o hm).1

theorem repH_hole {α γ : Type} [Rp α] [Rp γ] {A W} {cs : List Value} {x : α} {u : Value} {os : List (Nat × Value)} (l : Lens α (List γ)) (h : RepH A W cs x os) (hu : u.oneCell' = true) : RepH A W (splice cs l.off [u]) (l.set x []) (setHole os l.off u) := by
  have h1 := h.len
  have hin : l.off + 1 ≤ Rp.size α := l.inb
  refine ⟨?_, fun o hm => ?_⟩
  · have h6 : Rp.rep A W ((blank os cs).take l.off ++ [nilS] ++ (blank os cs).drop (l.off + 1)) (l.set x []) := l.set_rep h.1 (rep_nil (γ := γ))
    have e : blank (setHole os l.off u) (splice cs l.off [u]) = splice (blank os cs) l.off [nilS] := by
      apply List.ext_getElem?
      intro i
      rw [blank_get, splice_get (by simp; omega), splice_get (by rw [blank_length]; simp; omega), blank_get]
      rw [setHole_any]
      by_cases hi : l.off = i
      · subst hi
        simp
      · have hb : Nat.beq l.off i = false := by
          cases hb : Nat.beq l.off i
          · rfl
          · exact absurd (look_beq.1 hb) hi
        rw [hb]
        simp only [Bool.false_or, List.length_singleton]
        by_cases h2 : i < l.off
        · simp only [if_pos h2]
        · have h9 : ¬ i < l.off + 1 := by omega
          simp only [if_neg h2, if_neg h9]
    rw [e]
    simpa [splice] using h6
  · rw [splice_get (by simp; omega)]
    rcases setHole_mem hm with rfl | ⟨h3, hne⟩
    · exact ⟨by simp, hu⟩
    ·
      simp only [List.length_singleton]
      refine ⟨?_, (h.2 o h3).2⟩
      by_cases h8 : o.1 < l.off
      · rw [if_pos h8]; exact (h.2 o h3).1
      · rw [if_neg h8, if_neg (by omega)]; exact (h.2 o h3).1

/-- an own slice in a field becomes one that is read -/
theorem repH_fill {α γ : Type} [Rp α] [Rp γ] {A W} {cs : List Value} {x : α} {u : Value} {xs : List γ} {os : List (Nat × Value)} (l : Lens α (List γ)) (h : RepH A W cs x os) (hm : (l.off, u) ∈ os) (hs : Sl A W u xs) : RepH A W cs (l.set x xs) (delHole os l.off) := by
  have h1 := h.len
  have hin : l.off + 1 ≤ Rp.size α := l.inb
  have hcu := (h.2 _ hm).1
  refine ⟨?_, fun o ho => h.2 o (List.mem_filter.1 ho).1⟩
  have h6 : Rp.rep A W ((blank os cs).take l.off ++ [u] ++ (blank os cs).drop (l.off + 1)) (l.set x xs) := l.set_rep h.1 (ds := [u]) (g := xs) ⟨u, rfl, hs⟩
  have e : blank (delHole os l.off) cs = splice (blank os cs) l.off [u] := by
    apply List.ext_getElem?
    intro i
    rw [blank_get, splice_get (by rw [blank_length]; simp; omega), blank_get, delHole_any]
    by_cases hi : l.off = i
    · subst hi
      simp [hcu]
    · have hb : Nat.beq l.off i = false := by
        cases hb : Nat.beq l.off i
        · rfl
        · exact absurd (look_beq.1 hb) hi
      rw [hb]
      simp only [Bool.not_false, Bool.true_and, List.length_singleton]
      by_cases h2 : i < l.off
      · simp only [if_pos h2]
      · have h9 : ¬ i < l.off + 1 := by omega
        simp only [if_neg h2, if_neg h9]
  rw [e]
  simpa [splice] using h6

section
variable {c : Cx} {E : List (Nat × VP)} {L : List Ent} {ops : Array Oper} {Q : Exit → Act → World → Prop}
variable {d : Option Tmp} {ty : TypeId} {pos : String} {af : Array Edge} {g : Option (Nat × Bool)} {x y : Operand} {t t2 : TypeId}

/-- an entry is told in other words -/
theorem St.retell {a : Act} {W : World} (s : St c E L a W) {i : Nat} {key : Option Nat} {cp cp' : CP} (hL : L[i]? = some ⟨key, cp⟩) (h : ∀ o, cp.holds (ks L ++ c.A0) W o → cp'.holds (ks L ++ c.A0) W o) (hn : cp.nilOk → cp'.nilOk) : St c E (L.set i ⟨key, cp'⟩) a W := by
  have hks : ks (L.set i ⟨key, cp'⟩) = ks L := ks_set (e := ⟨key, cp⟩) (cp := cp') hL
  exact
  { defers := s.defers
    size := s.size
    env := fun t τ hl => by rw [hks]; exact s.env t τ hl
    fr := s.fr
    own := fun e he => by
      rw [hks]
      obtain ⟨j, hj⟩ := List.mem_iff_getElem?.1 he
      rw [List.getElem?_set] at hj
      split at hj
      · split at hj
        · simp only [Option.some.injEq] at hj
          subst hj
          have ho := s.own _ (List.mem_of_getElem? hL)
          cases key with
          | none => exact hn ho
          | some p => obtain ⟨o, h1, h2⟩ := ho; exact ⟨o, h1, h _ h2⟩
        · cases hj
      · exact s.own e (List.mem_of_getElem? hj)
    nodup := by rw [hks]; exact s.nodup
    lt := by rw [hks]; exact s.lt
    mine := by rw [hks]; exact s.mine
    old := by rw [hks]; exact s.old }

theorem Sq.toX {l : List Oper} {p : Nat} {β : Type} [Rp β] {b : β} (i : Nat) (hL : L[i]? = some ⟨some p, .var b⟩) (k : Sq c ops Q l E (L.set i ⟨some p, .varX b []⟩)) : Sq c ops Q l E L := fun a W s =>
  k a W (s.retell hL (fun o ⟨cs, T, h1, h2⟩ => ⟨cs, T, h1, h2, fun _ h => by cases h⟩) id)
theorem Sq.fromX {l : List Oper} {p : Nat} {β : Type} [Rp β] {b : β} (i : Nat) (hL : L[i]? = some ⟨some p, .varX b []⟩) (k : Sq c ops Q l E (L.set i ⟨some p, .var b⟩)) : Sq c ops Q l E L := fun a W s =>
  k a W (s.retell hL (fun o ⟨cs, T, h1, h2⟩ => ⟨cs, T, h1, h2.1⟩) id)
theorem To.fromX {z : Exit} {p : Nat} {β : Type} [Rp β] {b : β} (i : Nat) (hL : L[i]? = some ⟨some p, .varX b []⟩) (k : To c Q z E (L.set i ⟨some p, .var b⟩)) : To c Q z E L := fun a W s =>
  k a W (s.retell hL (fun o ⟨cs, T, h1, h2⟩ => ⟨cs, T, h1, h2.1⟩) id)
theorem Wp.fromX {z : Code} {p : Nat} {β : Type} [Rp β] {b : β} (i : Nat) (hL : L[i]? = some ⟨some p, .varX b []⟩) (k : Wp c Q z E (L.set i ⟨some p, .var b⟩)) : Wp c Q z E L := fun a W s =>
  k a W (s.retell hL (fun o ⟨cs, T, h1, h2⟩ => ⟨cs, T, h1, h2.1⟩) id)

def isNilS : Option Value → Bool
  | some (.slice none 0 0) => true
  | _ => false
theorem isNilS_iff {v : Option Value} (h : isNilS v = true) : v = some nilS := by
  unfold isNilS at h
  split at h
  · rfl
  · cases h
/-- the zero value of a type has nil slices at these cells -/
def Zh (P : Program) (t : TypeId) (hs : List Nat) : Prop := ((P.info? t).bind (·.zero)).any (fun v => hs.all fun o => isNilS v.cells.toList[o]?) = true

theorem blank_self : ∀ {os : List (Nat × Value)} {cs : List Value}, (∀ h ∈ os, cs[h.1]? = some nilS) → blank os cs = cs
  | [], _, _ => rfl
  | o :: r, cs, h => by
    have h1 := h o (by simp)
    have e : cs.set o.1 nilS = cs := by
      apply List.ext_getElem?
      intro i
      rw [List.getElem?_set]
      split
      · rename_i he; subst he
        have := (List.getElem?_eq_some_iff.1 h1).1
        rw [if_pos this, h1]
      · rfl
    rw [blank, e]
    exact blank_self fun x hx => h x (by simp [hx])

theorem Sq.allocX {rest : List Oper} {dd : Nat} {α : Type} [Rp α] {z : α} (hs : List Nat) (zh : Zh c.P t hs) (zr : Zr c.P t z) (hn : Nat.blt dd c.n = true)
    (k : ∀ p, Sq c ops Q rest ((dd, .eq (.pointer (some ⟨p, 0, none⟩))) :: E) (⟨some p, .varX z (hs.map fun o => (o, nilS))⟩ :: L)) : Sq c ops Q (⟨some dd, .alloc t, ty, pos, af, none⟩ :: rest) E L := fun a W s => by
  obtain ⟨i, zv, h1, h2, h3⟩ := zr.zero
  have hh : ∀ o ∈ hs, zv.cells.toList[o]? = some nilS := fun o ho => by
    unfold Zh at zh
    rw [h1] at zh
    simp only [Option.bind_some, h2, Option.any_some] at zh
    exact isNilS_iff (List.all_eq_true.1 zh o ho)
  have hh2 : ∀ h ∈ hs.map (fun o => (o, nilS)), zv.cells.toList[h.1]? = some h.2 := fun h hm => by
    obtain ⟨o, ho, rfl⟩ := List.mem_map.1 hm
    exact hh o ho
  refine wpList_op rfl (R := fun v W' => v = .pointer (some ⟨W.heap.size, 0, none⟩) ∧ W' = W.alloc (.cells zv.cells t)) (.of_run ?_ ⟨rfl, rfl⟩) fun v W' ⟨hv, hw⟩ => ?_
  · simp [execOp, Instr.alloc, zeroValue, typeInfo, h1, h2, newVar, newRow]
  · subst hv
    subst hw
    refine k _ _ _ ((s.alloc (cp := .varX z (hs.map fun o => (o, nilS))) ⟨zv.cells, t, rfl, ?_, fun h hm => ⟨hh2 h hm, by obtain ⟨o, _, rfl⟩ := List.mem_map.1 hm; rfl⟩⟩).put (by simpa using hn) rfl)
    rw [blank_self fun h hm => by rw [hh2 h hm]; obtain ⟨o, _, rfl⟩ := List.mem_map.1 hm; rfl]
    exact (h3 _ _).2

/-- boxed: a value with own slices -/
theorem Sq.boxX {rest : List Oper} {dd : Nat} {α : Type} [Rp α] {z : α} {os : List (Nat × Value)} (hx : Look c E L x (.ofX z os)) (hn : Nat.blt dd c.n = true)
    (k : ∀ p, Sq c ops Q rest ((dd, .eq (.pointer (some ⟨p, 0, none⟩))) :: E) (⟨some p, .varX z os⟩ :: L)) : Sq c ops Q (⟨some dd, .box t x, ty, pos, af, none⟩ :: rest) E L := fun a W s => by
  refine wpList_op rfl (R := fun v W' => v = .pointer (some ⟨W.heap.size, 0, none⟩) ∧ W' = W.alloc (.cells (a.eval x).cells t)) (.of_run ?_ ⟨rfl, rfl⟩) fun v W' ⟨hv, hw⟩ => ?_
  · simp [execOp, Instr.box, newVar, newRow]
  · subst hv
    subst hw
    obtain ⟨h1, h2⟩ := hx a W s
    exact k _ _ _ ((s.alloc (cp := .varX z os) ⟨_, t, rfl, h2⟩).put (by simpa using hn) rfl)

theorem r_loadX {t : TypeId} {i p o : Nat} {β γ : Type} [Rp β] [Rp γ] {b : β} {os : List (Nat × Value)} (l : Lens β γ) {r : γ} (tt : Ty c.P t γ) (hx : Look c E L x (.eq (.pointer (some ⟨p, o, none⟩))))
    (hL : L[i]? = some ⟨some p, .varX b os⟩) (ho : o = l.off) (hr : l.get b = r) (ha : apartB os l.off (Rp.size γ) = true) : HR c E L ⟨d, .load t x, ty, pos, af, g⟩ (.of r) := .pure fun a W s => by
  subst ho
  subst hr
  obtain ⟨ob, hob, cs, T, rfl, hrep⟩ := s.own _ (List.mem_of_getElem? hL)
  have h1 : cs.toList.length = Rp.size β := hrep.len
  have h5 := l.get_rep hrep.1
  rw [blank_cut ha] at h5
  obtain ⟨v, h2, h3⟩ := run_loadVar_at (A := ks L ++ c.A0) tt hob (by have := l.inb; simp at h1; omega) h5
  refine ⟨v, ?_, h3⟩
  have h4 : a.eval x = _ := hx a W s
  simp [execOp, Instr.loadAt, Instr.sureAddr, h4, h2]

theorem cell_at {cs : List Value} {o : Nat} {u : Value} (h : cs[o]? = some u) : (cs.drop o).take 1 = [u] := by
  apply List.ext_getElem?
  intro i
  rw [List.getElem?_take, List.getElem?_drop]
  cases i with
  | zero => simpa using h
  | succ i => simp

/-- an own slice is read out of its field -/
theorem r_loadH {t : TypeId} {i p o q : Nat} {β γ : Type} [Rp β] [Rp γ] {b : β} {os : List (Nat × Value)} {u : Value} (tt : Ty c.P t (List γ)) (hx : Look c E L x (.eq (.pointer (some ⟨p, o, none⟩))))
    (hL : L[i]? = some ⟨some p, .varX b os⟩) (hq : os[q]? = some (o, u)) : HR c E L ⟨d, .load t x, ty, pos, af, g⟩ (.eq u) := .pure fun a W s => by
  obtain ⟨ob, hob, cs, T, rfl, hrep, hh⟩ := s.own _ (List.mem_of_getElem? hL)
  obtain ⟨h5, hu⟩ := hh _ (List.mem_of_getElem? hq)
  have hlt : o < cs.size := by have := (List.getElem?_eq_some_iff.1 h5).1; simpa using this
  obtain ⟨v, h2, h3⟩ := run_loadVar_at (α := Ex) (x := ⟨u⟩) (A := ks L ++ c.A0) tt.ex hob (show o + 1 ≤ cs.size by omega) ⟨cell_at h5, hu⟩
  refine ⟨v, ?_, (of_ex.1 h3).1⟩
  have h4 : a.eval x = _ := hx a W s
  simp [execOp, Instr.loadAt, Instr.sureAddr, h4, h2]

theorem Sq.storeX {t : TypeId} {rest : List Oper} {i p o : Nat} {β γ : Type} [Rp β] [Rp γ] {b b' : β} {v : γ} {os : List (Nat × Value)} (l : Lens β γ) (tt : Ty c.P t γ) (hx : Look c E L x (.eq (.pointer (some ⟨p, o, none⟩))))
    (hy : Look c E L y (.of v)) (hL : L[i]? = some ⟨some p, .varX b os⟩) (ho : o = l.off) (hb : l.set b v = b') (ha : apartB os l.off (Rp.size γ) = true)
    (k : Sq c ops Q rest E (L.set i ⟨some p, .varX b' os⟩)) : Sq c ops Q (⟨none, .store t x y, ty, pos, af, none⟩ :: rest) E L := fun a W s => by
  subst ho
  subst hb
  obtain ⟨ob, hob, cs, T, rfl, hrep⟩ := s.own _ (List.mem_of_getElem? hL)
  have h1 : cs.toList.length = Rp.size β := hrep.len
  have hin := l.inb
  have hv := hy a W s
  have h2 := run_storeVar_at (A := ks L ++ c.A0) tt hob (off := l.off) (by simp at h1; omega) hv
  have h4 : a.eval x = _ := hx a W s
  refine wpList_op rfl (R := fun v W' => W' = W.setRow p (splice cs.toList l.off (a.eval y).cells.toList).toArray) (.of_skip ?_ rfl) fun v W' hw => ?_
  · simp [execOp, Instr.storeAt, Instr.sureAddr, h4, h2]
  · subst hw
    exact k _ _ (s.store hL hob ⟨_, T, rfl, by rw [List.toList_toArray]; exact repH_set l hrep hv.2 ha⟩)

/-- an own slice is put into a field -/
theorem Sq.storeH {t : TypeId} {rest : List Oper} {i p o : Nat} {β γ : Type} [Rp β] [Rp γ] {b b' : β} {u : Value} {os os' : List (Nat × Value)} (l : Lens β (List γ)) (tt : Ty c.P t (List γ)) (hx : Look c E L x (.eq (.pointer (some ⟨p, o, none⟩))))
    (hy : Look c E L y (.eq u)) (hu : u.oneCell' = true) (hL : L[i]? = some ⟨some p, .varX b os⟩) (ho : o = l.off) (hb : l.set b [] = b') (hos : setHole os o u = os')
    (k : Sq c ops Q rest E (L.set i ⟨some p, .varX b' os'⟩)) : Sq c ops Q (⟨none, .store t x y, ty, pos, af, none⟩ :: rest) E L := fun a W s => by
  subst ho
  subst hb
  subst hos
  obtain ⟨ob, hob, cs, T, rfl, hrep⟩ := s.own _ (List.mem_of_getElem? hL)
  have h1 : cs.toList.length = Rp.size β := hrep.len
  have hin : l.off + 1 ≤ Rp.size β := l.inb
  have hyv : a.eval y = u := hy a W s
  have hv : (VP.of (⟨u⟩ : Ex)).holds (ks L ++ c.A0) W (a.eval y) := of_ex.2 ⟨hyv, hu⟩
  have h2 := run_storeVar_at (A := ks L ++ c.A0) tt.ex hob (off := l.off) (show l.off + 1 ≤ cs.size by simp at h1; omega) hv
  have h4 : a.eval x = _ := hx a W s
  have hcl : (a.eval y).cells.toList = [u] := by rw [hyv, cells_one hu]
  rw [hcl] at h2
  refine wpList_op rfl (R := fun v W' => W' = W.setRow p (splice cs.toList l.off [u]).toArray) (.of_skip ?_ rfl) fun v W' hw => ?_
  · simp [execOp, Instr.storeAt, Instr.sureAddr, h4, h2]
  · subst hw
    exact k _ _ (s.store hL hob ⟨_, T, rfl, by rw [List.toList_toArray]; exact repH_hole l hrep hu⟩)

theorem run_storeVar_raw {P : Program} {W : World} {b off : Nat} {cur : Array Value} {T t : TypeId} {α : Type} [Rp α] {v : Value} (ty : Ty P t α)
    (hb : W.heap[b]? = some (.cells cur T (0, 0))) (hs : off + Rp.size α ≤ cur.size) (hl : v.cells.toList.length = Rp.size α) (h1 : ∀ u ∈ v.cells.toList, u.oneCell' = true) :
    (storeVar t ⟨b, off, none⟩ v).run P W = .ok () (W.setRow b (splice cur.toList off v.cells.toList).toArray) := by
  have h2 := run_storeCells_at P b off T v.cells.toList 0 cur W hb (by rw [hl]; omega) h1
  have hsz : v.cells.size = Rp.size α := by simpa using hl
  simp only [Nat.add_zero] at h2
  simp only [storeVar, Sem.run_bind, ty.sizeOf, Result.andThen_ok, hsz]
  simp only [ne_eq, not_true_eq_false, ↓reduceIte, Sem.run_pure, Sem.run_bind, Result.andThen_ok]
  simpa [splice] using h2

/-- a value is put over all of the variable -/
theorem Sq.storeW {t : TypeId} {rest : List Oper} {i p : Nat} {β : Type} [Rp β] {b b' : β} {os os' : List (Nat × Value)} (tt : Ty c.P t β) (hx : Look c E L x (.eq (.pointer (some ⟨p, 0, none⟩))))
    (hy : Look c E L y (.ofX b' os')) (hL : L[i]? = some ⟨some p, .varX b os⟩)
    (k : Sq c ops Q rest E (L.set i ⟨some p, .varX b' os'⟩)) : Sq c ops Q (⟨none, .store t x y, ty, pos, af, none⟩ :: rest) E L := fun a W s => by
  obtain ⟨ob, hob, cs, T, rfl, hrep⟩ := s.own _ (List.mem_of_getElem? hL)
  have h1 : cs.toList.length = Rp.size β := hrep.len
  obtain ⟨g1, g2⟩ := hy a W s
  have hl := g2.len
  have h2 := run_storeVar_raw tt hob (off := 0) (by simp at h1; omega) hl g2.one
  have h4 : a.eval x = _ := hx a W s
  have e : splice cs.toList 0 (a.eval y).cells.toList = (a.eval y).cells.toList := by
    unfold splice
    rw [List.take_zero, List.nil_append, Nat.zero_add, hl, ← h1, List.drop_length, List.append_nil]
  rw [e] at h2
  refine wpList_op rfl (R := fun v W' => W' = W.setRow p (a.eval y).cells.toList.toArray) (.of_skip ?_ rfl) fun v W' hw => ?_
  · simp [execOp, Instr.storeAt, Instr.sureAddr, h4, h2]
  · subst hw
    exact k _ _ (s.store hL hob ⟨_, T, rfl, by rw [List.toList_toArray]; exact g2⟩)

/-- the whole variable, with its own slices -/
theorem r_loadW {t : TypeId} {i p : Nat} {β : Type} [Rp β] {b : β} {os : List (Nat × Value)} (tt : Ty c.P t β) (ha : Rp.agg β = true) (hx : Look c E L x (.eq (.pointer (some ⟨p, 0, none⟩))))
    (hL : L[i]? = some ⟨some p, .varX b os⟩) : HR c E L ⟨d, .load t x, ty, pos, af, g⟩ (.ofX b os) := .pure fun a W s => by
  obtain ⟨ob, hob, cs, T, rfl, hrep⟩ := s.own _ (List.mem_of_getElem? hL)
  have hcell : ∀ j v, cs.toList[j]? = some v → W.cell? ((⟨p, 0, none⟩ : Addr).add j) = some v := by
    intro j v hv
    rw [addr_add, cell_of_row W p (0 + j) cs T (0, 0) hob, Nat.zero_add]
    simpa using hv
  have h1 := run_loadCells_list (P := c.P) W ⟨p, 0, none⟩ _ hcell
  rw [hrep.len] at h1
  have h4 : a.eval x = _ := hx a W s
  refine ⟨.agg cs.toList.toArray, ?_, by simp [shaped, ha], by simpa [Value.cells] using hrep⟩
  simp [execOp, Instr.loadAt, Instr.sureAddr, h4, loadVar, tt.isAgg, tt.sizeOf, ha, h1]

theorem r_nck {p : Addr} (hx : Look c E L x (.eq (.pointer (some p)))) : HR c E L ⟨d, .nilCheck x, ty, pos, af, g⟩ (.eq (.pointer (some p))) := .pure fun a W s => by
  have h4 : a.eval x = _ := hx a W s
  exact ⟨_, by simp [execOp, h4], rfl⟩
theorem r_nckp {γ : Type} [Rp γ] {r : γ} (hx : Look c E L x (.ptr r)) : HR c E L ⟨d, .nilCheck x, ty, pos, af, g⟩ (.ptr r) := .pure fun a W s => by
  have hp := hx a W s
  obtain ⟨b, off, cur, T, fz, h4, h5⟩ := hp
  exact ⟨_, by simp [execOp, h4], b, off, cur, T, fz, rfl, h5⟩

/-- an own slice in a field is let go: it reads as a list from here on -/
theorem St.thaw {a : Act} {W : World} (s : St c E L a W) {i j p cap T : Nat} {key : Option Nat} {β γ : Type} [Rp β] [Rp γ] {b b' : β} {xs : List γ} {os os' : List (Nat × Value)} (l : Lens β (List γ)) (hij : i ≠ j) (hL : L[i]? = some ⟨some p, .varX b os⟩) (hJ : L[j]? = some ⟨key, .row T xs cap⟩)
    (q : Nat) (hq : os[q]? = some (l.off, slv key xs.length cap)) (hb : l.set b xs = b') (hos : delHole os l.off = os') : St c E ((L.set j ⟨none, .dead⟩).set i ⟨some p, .varX b' os'⟩) a W := by
  subst hb
  subst hos
  have hk := s.kill j
  have hi : (L.set j ⟨none, .dead⟩)[i]? = some ⟨some p, .varX b os⟩ := by rw [List.getElem?_set_ne (fun e => hij e.symm)]; exact hL
  have hsub := ks_set_none_sub (L := L) (i := j) (cp := .dead)
  have hsl : Sl (ks (L.set j ⟨none, .dead⟩) ++ c.A0) W (slv key xs.length cap) xs := by
    have ho := s.own _ (List.mem_of_getElem? hJ)
    cases key with
    | none => exact .inl ⟨rfl, ho.1⟩
    | some p =>
      obtain ⟨o, hob, cs, rfl, hsz, hn, hcm, hr⟩ := ho
      obtain ⟨h3, h4⟩ := reps_prefix hsz hn hr
      refine .inr ⟨p, 0, cap, cs, T, (0, 0), rfl, s.not_left hJ, hob, hn, by omega, h3, ?_⟩
      exact h4.mono (.drop fun k hm => by
        rcases List.mem_append.1 hm with hm | hm
        · exact List.mem_append.2 (.inl (hsub.subset hm))
        · exact List.mem_append.2 (.inr hm))
  exact hk.retell hi (fun o ⟨cs, T, h1, h2⟩ => ⟨cs, T, h1, repH_fill l h2 (List.mem_of_getElem? hq) hsl⟩) id
theorem Sq.thaw {l0 : List Oper} {p cap T : Nat} {key : Option Nat} {β γ : Type} [Rp β] [Rp γ] {b b' : β} {xs : List γ} {os os' : List (Nat × Value)} (l : Lens β (List γ)) (i j q : Nat) (hij : Nat.beq i j = false) (hL : L[i]? = some ⟨some p, .varX b os⟩) (hJ : L[j]? = some ⟨key, .row T xs cap⟩)
    (hq : os[q]? = some (l.off, slv key xs.length cap)) (hb : l.set b xs = b') (hos : delHole os l.off = os') (k : Sq c ops Q l0 E ((L.set j ⟨none, .dead⟩).set i ⟨some p, .varX b' os'⟩)) : Sq c ops Q l0 E L :=
  fun a W s => k a W (s.thaw l (fun e => by rw [e, Nat.beq_refl] at hij; cases hij) hL hJ q hq hb hos)
theorem To.thaw {z : Exit} {p cap T : Nat} {key : Option Nat} {β γ : Type} [Rp β] [Rp γ] {b b' : β} {xs : List γ} {os os' : List (Nat × Value)} (l : Lens β (List γ)) (i j q : Nat) (hij : Nat.beq i j = false) (hL : L[i]? = some ⟨some p, .varX b os⟩) (hJ : L[j]? = some ⟨key, .row T xs cap⟩)
    (hq : os[q]? = some (l.off, slv key xs.length cap)) (hb : l.set b xs = b') (hos : delHole os l.off = os') (k : To c Q z E ((L.set j ⟨none, .dead⟩).set i ⟨some p, .varX b' os'⟩)) : To c Q z E L :=
  fun a W s => k a W (s.thaw l (fun e => by rw [e, Nat.beq_refl] at hij; cases hij) hL hJ q hq hb hos)
theorem Wp.thaw {z : Code} {p cap T : Nat} {key : Option Nat} {β γ : Type} [Rp β] [Rp γ] {b b' : β} {xs : List γ} {os os' : List (Nat × Value)} (l : Lens β (List γ)) (i j q : Nat) (hij : Nat.beq i j = false) (hL : L[i]? = some ⟨some p, .varX b os⟩) (hJ : L[j]? = some ⟨key, .row T xs cap⟩)
    (hq : os[q]? = some (l.off, slv key xs.length cap)) (hb : l.set b xs = b') (hos : delHole os l.off = os') (k : Wp c Q z E ((L.set j ⟨none, .dead⟩).set i ⟨some p, .varX b' os'⟩)) : Wp c Q z E L :=
  fun a W s => k a W (s.thaw l (fun e => by rw [e, Nat.beq_refl] at hij; cases hij) hL hJ q hq hb hos)

/-- .. and a slot that holds it reads as a list, too -/
theorem St.thawS {a : Act} {W : World} (s : St c E L a W) {i j p cap T sl : Nat} {key : Option Nat} {β γ : Type} [Rp β] [Rp γ] {b b' : β} {xs : List γ} {os os' : List (Nat × Value)} (l : Lens β (List γ)) (hij : i ≠ j) (hL : L[i]? = some ⟨some p, .varX b os⟩) (hJ : L[j]? = some ⟨key, .row T xs cap⟩)
    (q : Nat) (hq : os[q]? = some (l.off, slv key xs.length cap)) (hb : l.set b xs = b') (hos : delHole os l.off = os') (hsl : look E sl = some (.eq (slv key xs.length cap))) : St c ((sl, .of xs) :: E) ((L.set j ⟨none, .dead⟩).set i ⟨some p, .varX b' os'⟩) a W := by
  have h1 := s.freeze hsl hJ
  subst hb
  subst hos
  have hi : (L.set j ⟨none, .dead⟩)[i]? = some ⟨some p, .varX b os⟩ := by rw [List.getElem?_set_ne (fun e => hij e.symm)]; exact hL
  obtain ⟨v, h2, h3⟩ := h1.env sl (.of xs) (by simp [look, Nat.beq_refl])
  obtain ⟨v', h4, h5⟩ := s.env sl _ hsl
  rw [h2] at h4
  cases h4
  have h5 : v = _ := h5
  subst h5
  exact h1.retell hi (fun o ⟨cs, T, g1, g2⟩ => ⟨cs, T, g1, repH_fill l g2 (List.mem_of_getElem? hq) (of_list.1 h3)⟩) id
theorem Sq.thawS {l0 : List Oper} {p cap T : Nat} {key : Option Nat} {β γ : Type} [Rp β] [Rp γ] {b b' : β} {xs : List γ} {os os' : List (Nat × Value)} (l : Lens β (List γ)) (i j q sl : Nat) (hij : Nat.beq i j = false) (hL : L[i]? = some ⟨some p, .varX b os⟩) (hJ : L[j]? = some ⟨key, .row T xs cap⟩)
    (hq : os[q]? = some (l.off, slv key xs.length cap)) (hb : l.set b xs = b') (hos : delHole os l.off = os') (hsl : look E sl = some (.eq (slv key xs.length cap))) (k : Sq c ops Q l0 ((sl, .of xs) :: E) ((L.set j ⟨none, .dead⟩).set i ⟨some p, .varX b' os'⟩)) : Sq c ops Q l0 E L :=
  fun a W s => k a W (s.thawS l (fun e => by rw [e, Nat.beq_refl] at hij; cases hij) hL hJ q hq hb hos hsl)
theorem Wp.thawS {z : Code} {p cap T : Nat} {key : Option Nat} {β γ : Type} [Rp β] [Rp γ] {b b' : β} {xs : List γ} {os os' : List (Nat × Value)} (l : Lens β (List γ)) (i j q sl : Nat) (hij : Nat.beq i j = false) (hL : L[i]? = some ⟨some p, .varX b os⟩) (hJ : L[j]? = some ⟨key, .row T xs cap⟩)
    (hq : os[q]? = some (l.off, slv key xs.length cap)) (hb : l.set b xs = b') (hos : delHole os l.off = os') (hsl : look E sl = some (.eq (slv key xs.length cap))) (k : Wp c Q z ((sl, .of xs) :: E) ((L.set j ⟨none, .dead⟩).set i ⟨some p, .varX b' os'⟩)) : Wp c Q z E L :=
  fun a W s => k a W (s.thawS l (fun e => by rw [e, Nat.beq_refl] at hij; cases hij) hL hJ q hq hb hos hsl)
theorem To.thawS {z : Exit} {p cap T : Nat} {key : Option Nat} {β γ : Type} [Rp β] [Rp γ] {b b' : β} {xs : List γ} {os os' : List (Nat × Value)} (l : Lens β (List γ)) (i j q sl : Nat) (hij : Nat.beq i j = false) (hL : L[i]? = some ⟨some p, .varX b os⟩) (hJ : L[j]? = some ⟨key, .row T xs cap⟩)
    (hq : os[q]? = some (l.off, slv key xs.length cap)) (hb : l.set b xs = b') (hos : delHole os l.off = os') (hsl : look E sl = some (.eq (slv key xs.length cap))) (k : To c Q z ((sl, .of xs) :: E) ((L.set j ⟨none, .dead⟩).set i ⟨some p, .varX b' os'⟩)) : To c Q z E L :=
  fun a W s => k a W (s.thawS l (fun e => by rw [e, Nat.beq_refl] at hij; cases hij) hL hJ q hq hb hos hsl)

/-- the parts of a struct that is built, some of them slices of the call's own -/
inductive FillsX (c : Cx) (E : List (Nat × VP)) (L : List Ent) (place : Nat → Option (Nat × Nat)) {β : Type} [Rp β] : β → List (Nat × Value) → List (Nat × Operand) → β → List (Nat × Value) → Prop
  | nil {b os} : FillsX c E L place b os [] b os
  | cons {b b1 b' : β} {os os' : List (Nat × Value)} {γ : Type} [Rp γ] {v : γ} {i : Nat} {x : Operand} {r : List (Nat × Operand)} (l : Lens β γ) : place i = some (l.off, Rp.size γ) → Look c E L x (.of v) → l.set b v = b1 → apartB os l.off (Rp.size γ) = true → FillsX c E L place b1 os r b' os' → FillsX c E L place b os ((i, x) :: r) b' os'
  | hole {b b1 b' : β} {os os1 os' : List (Nat × Value)} {γ : Type} [Rp γ] {u : Value} {i : Nat} {x : Operand} {r : List (Nat × Operand)} (l : Lens β (List γ)) : place i = some (l.off, 1) → Look c E L x (.eq u) → u.oneCell' = true → l.set b [] = b1 → setHole os l.off u = os1 → FillsX c E L place b1 os1 r b' os' → FillsX c E L place b os ((i, x) :: r) b' os'

theorem FillsX.run {place : Nat → Option (Nat × Nat)} {β : Type} [Rp β] {b b' : β} {os os' : List (Nat × Value)} {ps : List (Nat × Operand)} (h : FillsX c E L place b os ps b' os') : ∀ a W, St c E L a W → ∀ cs : Array Value, RepH (ks L ++ c.A0) W cs.toList b os →
    ∃ cs', Instr.fill place cs (ps.map fun (i, x) => (i, a.eval x)) = some cs' ∧ RepH (ks L ++ c.A0) W cs'.toList b' os' := by
  induction h with
  | nil => intro a W s cs hr; exact ⟨cs, rfl, hr⟩
  | @cons b b1 b' os os' γ _ v i x r l h1 h2 h3 h4 _ ih =>
    intro a W s cs hr
    subst h3
    have hv := h2 a W s
    have hsz : (a.eval x).cells.size = Rp.size γ := by have := Rp.len hv.2; simpa using this
    have hl : cs.toList.length = Rp.size β := hr.len
    have hin := l.inb
    rw [List.map_cons, run_fill h1 hsz (by simp at hl; omega)]
    refine ih a W s _ ?_
    have := repH_set l hr hv.2 h4
    simpa [splice, Rp.len hv.2] using this
  | @hole b b1 b' os os1 os' γ _ u i x r l h1 h2 h3 h4 h5 _ ih =>
    intro a W s cs hr
    subst h4
    subst h5
    have hv : a.eval x = u := h2 a W s
    have hc : (a.eval x).cells.toList = [u] := by rw [hv, cells_one h3]
    have hsz : (a.eval x).cells.size = 1 := by have := congrArg List.length hc; simpa using this
    have hl : cs.toList.length = Rp.size β := hr.len
    have hin : l.off + 1 ≤ Rp.size β := l.inb
    rw [List.map_cons, run_fill h1 hsz (by simp at hl; omega)]
    refine ih a W s _ ?_
    have := repH_hole l hr h3
    simpa [splice, hc] using this

theorem r_buildX {β : Type} [Rp β] {z b : β} {ps : List (Nat × Operand)} {pl : Array (Nat × Nat)} {os : List (Nat × Value)} (hs0 : List Nat) (zh : Zh c.P t hs0) (ha : Rp.agg β = true) (bu : Bu c.P t pl) (zr : Zr c.P t z)
    (hf : FillsX c E L (pl[·]?) z (hs0.map fun o => (o, nilS)) ps b os) : HR c E L ⟨d, .build t ps.toArray, ty, pos, af, g⟩ (.ofX b os) := .pure fun a W s => by
  obtain ⟨fs, hu, hs, rfl⟩ := bu.at_
  obtain ⟨i, zv, h1, h2, h3⟩ := zr.zero
  have hh : ∀ o ∈ hs0, zv.cells.toList[o]? = some nilS := fun o ho => by
    unfold Zh at zh
    rw [h1] at zh
    simp only [Option.bind_some, h2, Option.any_some] at zh
    exact isNilS_iff (List.all_eq_true.1 zh o ho)
  obtain ⟨cs', h4, h5⟩ := hf.run a W s zv.cells ⟨by
    rw [blank_self fun h hm => by obtain ⟨o, ho, rfl⟩ := List.mem_map.1 hm; exact hh o ho]
    exact (h3 _ _).2, fun h hm => by obtain ⟨o, ho, rfl⟩ := List.mem_map.1 hm; exact ⟨hh o ho, rfl⟩⟩
  refine ⟨.agg cs', ?_, by simp [shaped, ha], by simpa [Value.cells] using h5⟩
  have hm : (ps.toArray.map fun (x : Nat × Operand) => (x.1, a.eval x.2)).toList = ps.map fun (i, x) => (i, a.eval x) := by simp
  simp only [execOp, Instr.build, Sem.run_bind, zeroValue, typeInfo, run_program, Result.andThen_ok, h1, h2, Sem.run_pure, run_underlying hu, run_fieldSizes fs hs]
  rw [hm, h4]
  rfl
/-- 'make([]T, n)'; none: out of range -/
def mkM {α : Type} [Inhabited α] (bytes : Nat) (n : Int) : Option (List α) := if 0 ≤ n ∧ n ≤ 140737488355328 ∧ bytes * n ≤ 140737488355328 then some (List.replicate n.toNat default) else none
theorem mkM_some {α : Type} [Inhabited α] {bytes : Nat} {n : Int} {r : List α} (h : mkM bytes n = some r) : 0 ≤ n ∧ n ≤ 140737488355328 ∧ bytes * n ≤ 140737488355328 ∧ List.replicate n.toNat default = r := by
  unfold mkM at h
  split at h
  · rename_i hc; exact ⟨hc.1, hc.2.1, hc.2.2, some_in h⟩
  · cases h

theorem Sq.mks {α : Type} [Rp α] [Inhabited α] {rest : List Oper} {dd e bytes : Nat} {r : List α} {n : Int} (hu : c.P.underlying t = some (.slice e)) (te : Ty c.P e α) (zr : Zr c.P e (default : α)) (hs : Nat.beq (Rp.size α) 0 = false) (hb : (c.P.info? e).map (·.bytes) = some bytes)
    (hx : Look c E L x (.of n)) (hy : Look c E L y (.of n)) (hm : mkM bytes n = some r) (hN : Nat.blt dd c.n = true) (k : ∀ p, Sq c ops Q rest ((dd, .eq (slv p r.length r.length)) :: E) (⟨p, .row e r r.length⟩ :: L)) :
    Sq c ops Q (⟨some dd, .makeSlice t x y, ty, pos, af, none⟩ :: rest) E L := fun a W s => by
  obtain ⟨h0, hn, hbn, rfl⟩ := mkM_some hm
  obtain ⟨m, rfl⟩ := Int.eq_ofNat_of_zero_le h0
  obtain ⟨ie, zv, hie, hz, hzh⟩ := zr.zero
  have hie2 : ie.size = Rp.size α := by
    obtain ⟨i2, h1, h2⟩ := te.info
    rw [hie] at h1; cases h1; exact h2
  have hby : ie.bytes = bytes := by rw [hie] at hb; simpa using hb
  have hs' : Rp.size α ≠ 0 := fun h => by rw [h] at hs; cases hs
  have hz0 := reps_zero (hzh (ks L ++ c.A0) W) m hs'
  have h1 := of_int.1 (hx a W s)
  have h2 := of_int.1 (hy a W s)
  have hw : IntKind.i64.wrap (m : Int) = m := by have : w64 (m : Int) = m := w64_in (by omega) (by omega); exact this
  have hp : (2 : Int) ^ 48 = 281474976710656 := by decide
  simp only [Int.toNat_natCast, List.length_replicate] at k
  generalize hD : (Array.range (m * Rp.size α)).map (zv.cells[· % zv.cells.size]!) = D at hz0
  refine wpList_op rfl (R := fun v W' => v = .slice (some ⟨W.heap.size, 0, none⟩) m m ∧ W' = W.alloc (.cells D e)) (.of_run (v := .slice (some ⟨W.heap.size, 0, none⟩) m m) (W' := W.alloc (.cells D e)) ?_ ⟨rfl, rfl⟩) fun v W' ⟨h3, h4⟩ => ?_
  · have hc1 : ((decide ((m : Int) < 0) || decide ((ie.bytes : Int) * m > 2 ^ 48)) || decide ((m : Int) < 0) || decide ((m : Int) > m)) = false := by
      rw [hby, hp]; simp; omega
    have hD2 : ((Array.range (m * ie.size)).map fun i => (if m * ie.size = 0 then (#[] : Array Value) else zv.cells)[i % (if m * ie.size = 0 then (#[] : Array Value) else zv.cells).size]!) = D := by
      rw [← hD, hie2]
      by_cases hm0 : m * Rp.size α = 0
      · rw [hm0]; simp
      · simp only [if_neg hm0]
    have ha : (asInt (.int .i64 (m : Int)) : Sem Int).run c.P W = .ok (m : Int) W := by simp [asInt, asIntOf]
    simp only [execOp, Instr.makeSlice, Sem.run_bind, run_underlying hu, Result.andThen_ok, h1, h2, ha, Sem.run_pure, typeInfo, run_program, hie, hw, hc1, Bool.false_eq_true, if_false, run_askRoom, Go.sizeOf, Int.toNat_natCast]
    by_cases hm0 : m * ie.size = 0
    · simp only [hm0, if_true, Sem.run_pure, Result.andThen_ok, Sem.run_bind, newRow] at hD2 ⊢
      rw [hD2]
      simp
    · simp only [hm0, if_false, Sem.run_pure, Result.andThen_ok, Sem.run_bind, newRow, zeroValue, typeInfo, run_program, hie, hz] at hD2 ⊢
      rw [hD2]
      simp
  · subst h3 h4
    have hcap : m ≤ maxLen := by
      have : maxLen = 9223372036854775807 := rfl
      omega
    have hsz : D.size = m * Rp.size α := by have := hz0.1; simpa using this
    have s' := s.alloc (o := .cells D e) (cp := .row e (List.replicate m (default : α)) m) ⟨D, rfl, hsz, by simp, hcap, by
      have h6 := hz0.1
      rw [List.length_replicate] at h6 ⊢
      rw [← h6, List.take_length]
      exact hz0⟩
    exact k (some W.heap.size) _ _ (s'.put (τ := .eq (slv (some W.heap.size) m m)) (by simpa using hN) rfl)
theorem To.endO0 {fn : Func} {δ : Type} {ρ : δ → VP} {Lo : δ → List Ent} (dd : δ) (hs : (Lo dd).Sublist L) (hr : fn.results = #[]) (hρ : ρ dd = .tup []) (hds : c.ds = [] := by rfl) : To c (bodyPost c.P fn (PostO c.X c.A0 c.W0 ρ Lo)) .ret E L := fun a W s =>
  ⟨s.nodefers hds, .tuple #[], by simp [results_eq, hr], s.ends dd hs (by rw [hρ]; exact ⟨_, rfl, .nil⟩)⟩
theorem Sq.callOx {rest : List Oper} {f : FuncId} {xs : List Operand} {ats : Array TypeId} {τs : List VP} {Lin Lr : List Ent} {δ : Type} {ρ : δ → VP} {Lo : δ → List Ent} (en : En c.P f) (h : MeetsO c.P f τs Lin ρ Lo)
    (hx : Looks c E (Lin ++ Lr) xs τs) (k : ∀ q, Sq c ops Q rest E (Lo q ++ Lr)) :
    Sq c ops Q (⟨none, .call ⟨.value (.func f), xs.toArray, ats⟩, ty, pos, af, none⟩ :: rest) E (Lin ++ Lr) := fun a W s =>
  wpList_op rfl (opto_callO en h s (hx.holds a W s)) fun v W' ⟨q, s', hv⟩ => k q _ _ s'
end
end Gv
