/-
  The library of the decompiler, as far as it is needed here. Conditions: none.
-/
import Derived.Lib.AppendZerosOnto
import Derived.Lib.Overlaps
import Derived.MapKept
import Derived.Maps.RangeRun
import Derived.Test.YtcglmhpembonmaaDoorKl0
namespace Gv
open Go
set_option linter.unusedVariables false
set_option linter.unusedSimpArgs false

def nilS : Value := .slice none 0 0

/-- the cells, with nil in place of the call's own slices -/
def blank : List (Nat × Value) → List Value → List Value
  | [], cs => cs
  | o :: r, cs => blank r (cs.set o.1 nilS)
theorem blank_length : ∀ {os : List (Nat × Value)} {cs : List Value}, (blank os cs).length = cs.length
  | [], _ => rfl
  | o :: r, cs => by rw [blank, blank_length, List.length_set]
theorem blank_get : ∀ {os : List (Nat × Value)} {cs : List Value} (i : Nat), (blank os cs)[i]? = if os.any (fun h => Nat.beq h.1 i) = true then cs[i]?.map (fun _ => nilS) else cs[i]?
  | [], _, i => by simp [blank]
  | o :: r, cs, i => by
    rw [blank, blank_get i, List.any_cons]
    by_cases h : o.1 = i
    · subst h
      simp only [Nat.beq_refl, Bool.true_or, if_true, List.getElem?_set]
      by_cases hl : o.1 < cs.length
      · simp [hl]
      · simp [hl]
    · have hb : Nat.beq o.1 i = false := by
        cases hb : Nat.beq o.1 i
        · rfl
        · exact absurd (look_beq.1 hb) h
      rw [hb, Bool.false_or, List.getElem?_set_ne h]

/-- none of the own slices lies among n cells from off on -/
def apartB (os : List (Nat × Value)) (off n : Nat) : Bool := os.all fun h => Nat.blt h.1 off || Nat.ble (off + n) h.1
theorem apartB_any {os : List (Nat × Value)} {off n i : Nat} (h : apartB os off n = true) (h1 : off ≤ i) (h2 : i < off + n) : os.any (fun h => Nat.beq h.1 i) = false := by
  rw [List.any_eq_false]
  intro x hx hb
  have h3 := List.all_eq_true.1 h x hx
  have h4 := look_beq.1 hb
  simp only [Bool.or_eq_true, Nat.blt_eq, Nat.ble_eq] at h3
  omega
theorem blank_cut {os : List (Nat × Value)} {off n : Nat} {cs : List Value} (h : apartB os off n = true) : ((blank os cs).drop off).take n = (cs.drop off).take n := by
  apply List.ext_getElem?
  intro i
  simp only [List.getElem?_take, List.getElem?_drop]
  split
  · rw [blank_get, apartB_any h (by omega) (by omega)]; rfl
  · rfl
theorem splice_get {cs ds : List Value} {off : Nat} (h : off + ds.length ≤ cs.length) (i : Nat) : (splice cs off ds)[i]? = if i < off then cs[i]? else if i < off + ds.length then ds[i - off]? else cs[i]? := by
  have h1 : (cs.take off).length = off := by rw [List.length_take]; omega
  unfold splice
  rw [List.append_assoc]
  by_cases hi : i < off
  · rw [if_pos hi, List.getElem?_append_left (by omega), List.getElem?_take, if_pos hi]
  · rw [if_neg hi, List.getElem?_append_right (by omega), h1]
    by_cases h2 : i < off + ds.length
    · rw [if_pos h2, List.getElem?_append_left (by omega)]
    · rw [if_neg h2, List.getElem?_append_right (by omega), List.getElem?_drop]
      congr 1; omega
theorem blank_splice {os : List (Nat × Value)} {off : Nat} {cs ds : List Value} (h : apartB os off ds.length = true) (hs : off + ds.length ≤ cs.length) : blank os (splice cs off ds) = splice (blank os cs) off ds := by
  apply List.ext_getElem?
  intro i
  rw [blank_get, splice_get hs, splice_get (by rw [blank_length]; exact hs), blank_get]
  by_cases h1 : i < off
  · simp only [if_pos h1]
  · simp only [if_neg h1]
    by_cases h2 : i < off + ds.length
    · simp only [if_pos h2, apartB_any h (Nat.not_lt.1 h1) h2]; rfl
    · simp only [if_neg h2]

/-- own slice u at o; those that were there before -/
def setHole (os : List (Nat × Value)) (o : Nat) (u : Value) : List (Nat × Value) :=
  bif os.any (fun h => Nat.beq h.1 o) then os.map (fun h => bif Nat.beq h.1 o then (o, u) else h) else (o, u) :: os
theorem setHole_mem {os : List (Nat × Value)} {o : Nat} {u : Value} {h : Nat × Value} (hm : h ∈ setHole os o u) : h = (o, u) ∨ (h ∈ os ∧ h.1 ≠ o) := by
  unfold setHole at hm
  cases hb : os.any (fun h => Nat.beq h.1 o)
  · rw [hb] at hm
    simp only [cond_false] at hm
    rcases List.mem_cons.1 hm with hm | hm
    · exact .inl hm
    · refine .inr ⟨hm, fun e => ?_⟩
      have := List.any_eq_false.1 hb h hm
      exact this (look_beq.2 e)
  · rw [hb] at hm
    simp only [cond_true] at hm
    obtain ⟨x, hx, he⟩ := List.mem_map.1 hm
    cases h1 : Nat.beq x.1 o
    · rw [h1] at he
      simp only [cond_false] at he
      subst he
      exact .inr ⟨hx, fun e => by rw [look_beq.2 e] at h1; cases h1⟩
    · rw [h1] at he
      exact .inl he.symm
theorem setHole_any {os : List (Nat × Value)} {o i : Nat} {u : Value} : (setHole os o u).any (fun h => Nat.beq h.1 i) = (Nat.beq o i || os.any (fun h => Nat.beq h.1 i)) := by
  unfold setHole
  cases hb : os.any (fun h => Nat.beq h.1 o)
  · simp only [cond_false, List.any_cons]
  · simp only [cond_true, List.any_map]
    rw [Bool.eq_iff_iff, Bool.or_eq_true, List.any_eq_true, List.any_eq_true]
    constructor
    · rintro ⟨x, hx, he⟩
      simp only [Function.comp] at he
      cases h1 : Nat.beq x.1 o
      · rw [h1] at he
        exact .inr ⟨x, hx, he⟩
      · rw [h1] at he
        exact .inl he
    · rintro (h | ⟨x, hx, he⟩)
      · obtain ⟨x, hx, h1⟩ := List.any_eq_true.1 hb
        exact ⟨x, hx, by simp only [Function.comp, h1, cond_true]; exact h⟩
      · refine ⟨x, hx, ?_⟩
        simp only [Function.comp]
        cases h1 : Nat.beq x.1 o
        · exact he
        · have e1 := look_beq.1 h1; have e2 := look_beq.1 he
          simp only [cond_true]; exact look_beq.2 (by omega)
def delHole (os : List (Nat × Value)) (o : Nat) : List (Nat × Value) := os.filter (fun h => !Nat.beq h.1 o)
theorem delHole_any {os : List (Nat × Value)} {o i : Nat} : (delHole os o).any (fun h => Nat.beq h.1 i) = (!(Nat.beq o i) && os.any (fun h => Nat.beq h.1 i)) := by
  rw [Bool.eq_iff_iff]
  simp only [List.any_eq_true, Bool.and_eq_true, Bool.not_eq_true', delHole, List.mem_filter]
  constructor
  · rintro ⟨x, ⟨h1, h2⟩, h3⟩
    refine ⟨?_, x, h1, h3⟩
    cases hb : Nat.beq o i
    · rfl
    · have := look_beq.1 hb; have h4 := look_beq.1 h3
      rw [h4, ← this, Nat.beq_refl] at h2; cases h2
  · rintro ⟨h0, x, h1, h3⟩
    refine ⟨x, ⟨h1, ?_⟩, h3⟩
    cases hb : Nat.beq x.1 o
    · rfl
    · have := look_beq.1 hb; have h4 := look_beq.1 h3
      rw [← this, h4, Nat.beq_refl] at h0; cases h0

/-- the cells represent x, apart from slices of the call's own, which are told one by one -/
def RepH {α : Type} [Rp α] (A : List Nat) (W : World) (cs : List Value) (x : α) (os : List (Nat × Value)) : Prop := Rp.rep A W (blank os cs) x ∧ ∀ h ∈ os, cs[h.1]? = some h.2 ∧ h.2.oneCell' = true
theorem RepH.len {α : Type} [Rp α] {A W} {cs : List Value} {x : α} {os : List (Nat × Value)} (h : RepH A W cs x os) : cs.length = Rp.size α := by rw [← blank_length (os := os)]; exact Rp.len h.1
theorem RepH.mono {α : Type} [Rp α] {A W A' W'} {cs : List Value} {x : α} {os : List (Nat × Value)} (e : Ext A W A' W') (h : RepH A W cs x os) : RepH A' W' cs x os := ⟨Rp.mono e h.1, h.2⟩
theorem RepH.one {α : Type} [Rp α] {A W} {cs : List Value} {x : α} {os : List (Nat × Value)} (h : RepH A W cs x os) : ∀ u ∈ cs, u.oneCell' = true := by
  intro u hu
  obtain ⟨i, hi⟩ := List.mem_iff_getElem?.1 hu
  by_cases hb : os.any (fun h => Nat.beq h.1 i) = true
  · obtain ⟨o, ho, he⟩ := List.any_eq_true.1 hb
    have he := look_beq.1 he
    obtain ⟨h1, h2⟩ := h.2 o ho
    rw [he, hi] at h1
    cases h1; exact h2
  · have h1 := blank_get (os := os) (cs := cs) i
    rw [if_neg hb, hi] at h1
    exact Rp.one h.1 u (List.mem_of_getElem? h1)

/-- a variable in a block of its own; slices of the call's own in its fields are told one by one, elsewhere it is as x says -/
def CP.varX {α : Type} [Rp α] (x : α) (os : List (Nat × Value)) : CP where
  holds A W o := ∃ cs T, o = .cells cs T (0, 0) ∧ RepH A W cs.toList x os
  nilOk := False
  mono e h := let ⟨cs, T, ho, hr⟩ := h; ⟨cs, T, ho, hr.mono e⟩

/-- the very value of one cell -/
structure Ex where
  v : Value
instance : Rp Ex where
  size := 1
  agg := false
  rep _ _ cs x := cs = [x.v] ∧ x.v.oneCell' = true
  len h := by rw [h.1]; rfl
  one h := by rw [h.1]; intro u hu; rw [List.mem_singleton.1 hu]; exact h.2
  flat _ := rfl
  mono _ h := h
theorem of_ex {A W v} {u : Value} : (VP.of (⟨u⟩ : Ex)).holds A W v ↔ v = u ∧ u.oneCell' = true := by
  constructor
  · rintro ⟨h1, h2, h3⟩
    have h1 : v.oneCell' = true := h1
    exact ⟨toList_one h1 h2, h3⟩
  · rintro ⟨rfl, h⟩
    exact ⟨h, by show v.cells.toList = [v] ∧ _; rw [cells_one h]; exact ⟨rfl, h⟩⟩
theorem Ty.ex {P : Program} {t : TypeId} {γ : Type} [Rp γ] (h : Ty P t (List γ)) : Ty P t Ex := ⟨h.size, h.und⟩
theorem slv_one {key : Option Nat} {n cap : Nat} : (slv key n cap).oneCell' = true := by cases key <;> rfl
theorem rep_nil {A W} {γ : Type} [Rp γ] : Rp.rep A W [nilS] ([] : List γ) := ⟨nilS, rfl, .inl ⟨⟨_, rfl⟩, rfl⟩⟩

theorem repH_set {α γ : Type} [Rp α] [Rp γ] {A W} {cs ds : List Value} {x : α} {v : γ} {os : List (Nat × Value)} (l : Lens α γ) (h : RepH A W cs x os) (hd : Rp.rep A W ds v) (ha : apartB os l.off (Rp.size γ) = true) : RepH A W (splice cs l.off ds) (l.set x v) os := by
  have h1 := h.len
  have hin := l.inb
  have hl := Rp.len hd
  refine ⟨?_, fun o hm => ?_⟩
  · have h6 := l.set_rep h.1 hd
    rw [blank_splice (by rw [hl]; exact ha) (by rw [hl]; omega)]
    simpa [splice, hl] using h6
  · refine ⟨?_, (h.2 o hm).2⟩
    rw [splice_get (by rw [hl]; omega)]
    have h7 := List.all_eq_true.1 ha o hm
    simp only [Bool.or_eq_true, Nat.blt_eq, Nat.ble_eq] at h7
    rw [hl]
    by_cases h8 : o.1 < l.off
    · rw [if_pos h8]; exact (h.2 o hm).1
    · rw [if_neg h8, if_neg (by omega)]; exact (h.2 o hm).1

theorem repH_hole {α γ : Type} [Rp α] [Rp γ] {A W} {cs : List Value} {x : α} {u : Value} {os : List (Nat × Value)} (l : Lens α (List γ)) (h : RepH A W cs x os) (hu : u.oneCell' = true) : RepH A W (splice cs l.off [u]) (l.set x []) (setHole os l.off u) := by
  have h1 := h.len
  have hin : l.off + 1 ≤ Rp.size α := l.inb
  refine ⟨?_, fun o hm => ?_⟩
  · have h6 : Rp.rep A W ((blank os cs).take l.off ++ [nilS] ++ (blank os cs).drop (l.off + 1)) (l.set x []) := l.set_rep h.1 (rep_nil (γ := γ))
    have e : blank (setHole os l.off u) (splice cs l.off [u]) = splice (blank os cs) l.off [nilS] := by
      apply List.ext_getElem?
      intro i
      rw [blank_get, splice_get (by simp; omega), splice_get (by rw [blank_length]; simp; omega), blank_get]
      rw [setHole_any]
      by_cases hi : l.off = i
      · subst hi
        simp
      · have hb : Nat.beq l.off i = false := by
          cases hb : Nat.beq l.off i
          · rfl
          · exact absurd (look_beq.1 hb) hi
        rw [hb]
        simp only [Bool.false_or, List.length_singleton]
        by_cases h2 : i < l.off
        · simp only [if_pos h2]
        · have h9 : ¬ i < l.off + 1 := by omega
          simp only [if_neg h2, if_neg h9]
    rw [e]
    simpa [splice] using h6
  · rw [splice_get (by simp; omega)]
    rcases setHole_mem hm with rfl | ⟨h3, hne⟩
    · exact ⟨by simp, hu⟩
    ·
      simp only [List.length_singleton]
      refine ⟨?_, (h.2 o h3).2⟩
      by_cases h8 : o.1 < l.off
      · rw [if_pos h8]; exact (h.2 o h3).1
      · rw [if_neg h8, if_neg (by omega)]; exact (h.2 o h3).1

/-- an own slice in a field becomes one that is read -/
theorem repH_fill {α γ : Type} [Rp α] [Rp γ] {A W} {cs : List Value} {x : α} {u : Value} {xs : List γ} {os : List (Nat × Value)} (l : Lens α (List γ)) (h : RepH A W cs x os) (hm : (l.off, u) ∈ os) (hs : Sl A W u xs) : RepH A W cs (l.set x xs) (delHole os l.off) := by
  have h1 := h.len
  have hin : l.off + 1 ≤ Rp.size α := l.inb
  have hcu := (h.2 _ hm).1
  refine ⟨?_, fun o ho => h.2 o (List.mem_filter.1 ho).1⟩
  have h6 : Rp.rep A W ((blank os cs).take l.off ++ [u] ++ (blank os cs).drop (l.off + 1)) (l.set x xs) := l.set_rep h.1 (ds := [u]) (g := xs) ⟨u, rfl, hs⟩
  have e : blank (delHole os l.off) cs = splice (blank os cs) l.off [u] := by
    apply List.ext_getElem?
    intro i
    rw [blank_get, splice_get (by rw [blank_length]; simp; omega), blank_get, delHole_any]
    by_cases hi : l.off = i
    · subst hi
      simp [hcu]
    · have hb : Nat.beq l.off i = false := by
        cases hb : Nat.beq l.off i
        · rfl
        · exact absurd (look_beq.1 hb) hi
      rw [hb]
      simp only [Bool.not_false, Bool.true_and, List.length_singleton]
      by_cases h2 : i < l.off
      · simp only [if_pos h2]
      · have h9 : ¬ i < l.off + 1 := by omega
        simp only [if_neg h2, if_neg h9]
  rw [e]
  simpa [splice] using h6

section
variable {c : Cx} {E : List (Nat × VP)} {L : List Ent} {ops : Array Oper} {Q : Exit → Act → World → Prop}
variable {d : Option Tmp} {ty : TypeId} {pos : String} {af : Array Edge} {g : Option (Nat × Bool)} {x y : Operand} {t t2 : TypeId}

/-- an entry is told in other words -/
theorem St.retell {a : Act} {W : World} (s : St c E L a W) {i : Nat} {key : Option Nat} {cp cp' : CP} (hL : L[i]? = some ⟨key, cp⟩) (h : ∀ o, cp.holds (ks L ++ c.A0) W o → cp'.holds (ks L ++ c.A0) W o) (hn : cp.nilOk → cp'.nilOk) : St c E (L.set i ⟨key, cp'⟩) a W := by
  have hks : ks (L.set i ⟨key, cp'⟩) = ks L := ks_set (e := ⟨key, cp⟩) (cp := cp') hL
  exact
  { defers := s.defers
    size := s.size
    env := fun t τ hl => by rw [hks]; exact s.env t τ hl
    fr := s.fr
    own := fun e he => by
      rw [hks]
      obtain ⟨j, hj⟩ := List.mem_iff_getElem?.1 he
      rw [List.getElem?_set] at hj
      split at hj
      · split at hj
        · simp only [Option.some.injEq] at hj
          subst hj
          have ho := s.own _ (List.mem_of_getElem? hL)
          cases key with
          | none => exact hn ho
          | some p => obtain ⟨o, h1, h2⟩ := ho; exact ⟨o, h1, h _ h2⟩
        · cases hj
      · exact s.own e (List.mem_of_getElem? hj)
    nodup := by rw [hks]; exact s.nodup
    lt := by rw [hks]; exact s.lt
    mine := by rw [hks]; exact s.mine
    old := by rw [hks]; exact s.old }

theorem Sq.fromX {l : List Oper} {p : Nat} {β : Type} [Rp β] {b : β} (i : Nat) (hL : L[i]? = some ⟨some p, .varX b []⟩) (k : Sq c ops Q l E (L.set i ⟨some p, .var b⟩)) : Sq c ops Q l E L := fun a W s =>
  k a W (s.retell hL (fun o ⟨cs, T, h1, h2⟩ => ⟨cs, T, h1, h2.1⟩) id)
theorem To.fromX {z : Exit} {p : Nat} {β : Type} [Rp β] {b : β} (i : Nat) (hL : L[i]? = some ⟨some p, .varX b []⟩) (k : To c Q z E (L.set i ⟨some p, .var b⟩)) : To c Q z E L := fun a W s =>
  k a W (s.retell hL (fun o ⟨cs, T, h1, h2⟩ => ⟨cs, T, h1, h2.1⟩) id)
theorem Wp.fromX {z : Code} {p : Nat} {β : Type} [Rp β] {b : β} (i : Nat) (hL : L[i]? = some ⟨some p, .varX b []⟩) (k : Wp c Q z E (L.set i ⟨some p, .var b⟩)) : Wp c Q z E L := fun a W s =>
  k a W (s.retell hL (fun o ⟨cs, T, h1, h2⟩ => ⟨cs, T, h1, h2.1⟩) id)

def isNilS : Option Value → Bool
  | some (.slice none 0 0) => true
  | _ => false
theorem isNilS_iff {v : Option Value} (h : isNilS v = true) : v = some nilS := by
  unfold isNilS at h
  split at h
  · rfl
  · cases h
/-- the zero value of a type has nil slices at these cells -/
def Zh (P : Program) (t : TypeId) (hs : List Nat) : Prop := ((P.info? t).bind (·.zero)).any (fun v => hs.all fun o => isNilS v.cells.toList[o]?) = true

theorem blank_self : ∀ {os : List (Nat × Value)} {cs : List Value}, (∀ h ∈ os, cs[h.1]? = some nilS) → blank os cs = cs
  | [], _, _ => rfl
  | o :: r, cs, h => by
    have h1 := h o (by simp)
    have e : cs.set o.1 nilS = cs := by
      apply List.ext_getElem?
      intro i
      rw [List.getElem?_set]
      split
      · rename_i he; subst he
        have := (List.getElem?_eq_some_iff.1 h1).1
        rw [if_pos this, h1]
      · rfl
    rw [blank, e]
    exact blank_self fun x hx => h x (by simp [hx])

theorem Sq.allocX {rest : List Oper} {dd : Nat} {α : Type} [Rp α] {z : α} (hs : List Nat) (zh : Zh c.P t hs) (zr : Zr c.P t z) (hn : Nat.blt dd c.n = true)
    (k : ∀ p, Sq c ops Q rest ((dd, .eq (.pointer (some ⟨p, 0, none⟩))) :: E) (⟨some p, .varX z (hs.map fun o => (o, nilS))⟩ :: L)) : Sq c ops Q (⟨some dd, .alloc t, ty, pos, af, none⟩ :: rest) E L := fun a W s => by
  obtain ⟨i, zv, h1, h2, h3⟩ := zr.zero
  have hh : ∀ o ∈ hs, zv.cells.toList[o]? = some nilS := fun o ho => by
    unfold Zh at zh
    rw [h1] at zh
    simp only [Option.bind_some, h2, Option.any_some] at zh
    exact isNilS_iff (List.all_eq_true.1 zh o ho)
  have hh2 : ∀ h ∈ hs.map (fun o => (o, nilS)), zv.cells.toList[h.1]? = some h.2 := fun h hm => by
    obtain ⟨o, ho, rfl⟩ := List.mem_map.1 hm
    exact hh o ho
  refine wpList_op rfl (R := fun v W' => v = .pointer (some ⟨W.heap.size, 0, none⟩) ∧ W' = W.alloc (.cells zv.cells t)) (.of_run ?_ ⟨rfl, rfl⟩) fun v W' ⟨hv, hw⟩ => ?_
  · simp [execOp, Instr.alloc, zeroValue, typeInfo, h1, h2, newVar, newRow]
  · subst hv
    subst hw
    refine k _ _ _ ((s.alloc (cp := .varX z (hs.map fun o => (o, nilS))) ⟨zv.cells, t, rfl, ?_, fun h hm => ⟨hh2 h hm, by obtain ⟨o, _, rfl⟩ := List.mem_map.1 hm; rfl⟩⟩).put (by simpa using hn) rfl)
    rw [blank_self fun h hm => by rw [hh2 h hm]; obtain ⟨o, _, rfl⟩ := List.mem_map.1 hm; rfl]
    exact (h3 _ _).2

theorem r_loadX {t : TypeId} {i p o : Nat} {β γ : Type} [Rp β] [Rp γ] {b : β} {os : List (Nat × Value)} (l : Lens β γ) {r : γ} (tt : Ty c.P t γ) (hx : Look c E L x (.eq (.pointer (some ⟨p, o, none⟩))))
    (hL : L[i]? = some ⟨some p, .varX b os⟩) (ho : o = l.off) (hr : l.get b = r) (ha : apartB os l.off (Rp.size γ) = true) : HR c E L ⟨d, .load t x, ty, pos, af, g⟩ (.of r) := .pure fun a W s => by
  subst ho
  subst hr
  obtain ⟨ob, hob, cs, T, rfl, hrep⟩ := s.own _ (List.mem_of_getElem? hL)
  have h1 : cs.toList.length = Rp.size β := hrep.len
  have h5 := l.get_rep hrep.1
  rw [blank_cut ha] at h5
  obtain ⟨v, h2, h3⟩ := run_loadVar_at (A := ks L ++ c.A0) tt hob (by have := l.inb; simp at h1; omega) h5
  refine ⟨v, ?_, h3⟩
  have h4 : a.eval x = _ := hx a W s
  simp [execOp, Instr.loadAt, Instr.sureAddr, h4, h2]

theorem cell_at {cs : List Value} {o : Nat} {u : Value} (h : cs[o]? = some u) : (cs.drop o).take 1 = [u] := by
  apply List.ext_getElem?
  intro i
  rw [List.getElem?_take, List.getElem?_drop]
  cases i with
  | zero => simpa using h
  | succ i => simp

/-- an own slice is read out of its field -/
theorem r_loadH {t : TypeId} {i p o q : Nat} {β γ : Type} [Rp β] [Rp γ] {b : β} {os : List (Nat × Value)} {u : Value} (tt : Ty c.P t (List γ)) (hx : Look c E L x (.eq (.pointer (some ⟨p, o, none⟩))))
    (hL : L[i]? = some ⟨some p, .varX b os⟩) (hq : os[q]? = some (o, u)) : HR c E L ⟨d, .load t x, ty, pos, af, g⟩ (.eq u) := .pure fun a W s => by
  obtain ⟨ob, hob, cs, T, rfl, hrep, hh⟩ := s.own _ (List.mem_of_getElem? hL)
  obtain ⟨h5, hu⟩ := hh _ (List.mem_of_getElem? hq)
  have hlt : o < cs.size := by have := (List.getElem?_eq_some_iff.1 h5).1; simpa using this
  obtain ⟨v, h2, h3⟩ := run_loadVar_at (α := Ex) (x := ⟨u⟩) (A := ks L ++ c.A0) tt.ex hob (show o + 1 ≤ cs.size by omega) ⟨cell_at h5, hu⟩
  refine ⟨v, ?_, (of_ex.1 h3).1⟩
  have h4 : a.eval x = _ := hx a W s
  simp [execOp, Instr.loadAt, Instr.sureAddr, h4, h2]

/-- an own slice is put into a field -/
theorem Sq.storeH {t : TypeId} {rest : List Oper} {i p o : Nat} {β γ : Type} [Rp β] [Rp γ] {b b' : β} {u : Value} {os os' : List (Nat × Value)} (l : Lens β (List γ)) (tt : Ty c.P t (List γ)) (hx : Look c E L x (.eq (.pointer (some ⟨p, o, none⟩))))
    (hy : Look c E L y (.eq u)) (hu : u.oneCell' = true) (hL : L[i]? = some ⟨some p, .varX b os⟩) (ho : o = l.off) (hb : l.set b [] = b') (hos : setHole os o u = os')
    (k : Sq c ops Q rest E (L.set i ⟨some p, .varX b' os'⟩)) : Sq c ops Q (⟨none, .store t x y, ty, pos, af, none⟩ :: rest) E L := fun a W s => by
  subst ho
  subst hb
  subst hos
  obtain ⟨ob, hob, cs, T, rfl, hrep⟩ := s.own _ (List.mem_of_getElem? hL)
  have h1 : cs.toList.length = Rp.size β := hrep.len
  have hin : l.off + 1 ≤ Rp.size β := l.inb
  have hyv : a.eval y = u := hy a W s
  have hv : (VP.of (⟨u⟩ : Ex)).holds (ks L ++ c.A0) W (a.eval y) := of_ex.2 ⟨hyv, hu⟩
  have h2 := run_storeVar_at (A := ks L ++ c.A0) tt.ex hob (off := l.off) (show l.off + 1 ≤ cs.size by simp at h1; omega) hv
  have h4 : a.eval x = _ := hx a W s
  have hcl : (a.eval y).cells.toList = [u] := by rw [hyv, cells_one hu]
  rw [hcl] at h2
  refine wpList_op rfl (R := fun v W' => W' = W.setRow p (splice cs.toList l.off [u]).toArray) (.of_skip ?_ rfl) fun v W' hw => ?_
  · simp [execOp, Instr.storeAt, Instr.sureAddr, h4, h2]
  · subst hw
    exact k _ _ (s.store hL hob ⟨_, T, rfl, by rw [List.toList_toArray]; exact repH_hole l hrep hu⟩)

theorem r_nck {p : Addr} (hx : Look c E L x (.eq (.pointer (some p)))) : HR c E L ⟨d, .nilCheck x, ty, pos, af, g⟩ (.eq (.pointer (some p))) := .pure fun a W s => by
  have h4 : a.eval x = _ := hx a W s
  exact ⟨_, by simp [execOp, h4], rfl⟩
theorem r_nckp {γ : Type} [Rp γ] {r : γ} (hx : Look c E L x (.ptr r)) : HR c E L ⟨d, .nilCheck x, ty, pos, af, g⟩ (.ptr r) := .pure fun a W s => by
  have hp := hx a W s
  obtain ⟨b, off, cur, T, fz, h4, h5⟩ := hp
  exact ⟨_, by simp [execOp, h4], b, off, cur, T, fz, rfl, h5⟩

/-- an own slice in a field is let go: it reads as a list from here on -/
theorem St.thaw {a : Act} {W : World} (s : St c E L a W) {i j p cap T : Nat} {key : Option Nat} {β γ : Type} [Rp β] [Rp γ] {b b' : β} {xs : List γ} {os os' : List (Nat × Value)} (l : Lens β (List γ)) (hij : i ≠ j) (hL : L[i]? = some ⟨some p, .varX b os⟩) (hJ : L[j]? = some ⟨key, .row T xs cap⟩)
    (q : Nat) (hq : os[q]? = some (l.off, slv key xs.length cap)) (hb : l.set b xs = b') (hos : delHole os l.off = os') : St c E ((L.set j ⟨none, .dead⟩).set i ⟨some p, .varX b' os'⟩) a W := by
  subst hb
  subst hos
  have hk := s.kill j
  have hi : (L.set j ⟨none, .dead⟩)[i]? = some ⟨some p, .varX b os⟩ := by rw [List.getElem?_set_ne (fun e => hij e.symm)]; exact hL
  have hsub := ks_set_none_sub (L := L) (i := j) (cp := .dead)
  have hsl : Sl (ks (L.set j ⟨none, .dead⟩) ++ c.A0) W (slv key xs.length cap) xs := by
    have ho := s.own _ (List.mem_of_getElem? hJ)
    cases key with
    | none => exact .inl ⟨⟨_, rfl⟩, ho.1⟩
    | some p =>
      obtain ⟨o, hob, cs, ⟨fz, hmk, rfl⟩, hsz, hn, hcm, hr⟩ := ho
      obtain ⟨h3, h4⟩ := reps_prefix hsz hn hr
      refine .inr ⟨p, 0, cap, cs, T, fz, rfl, s.not_left hJ, hob, hn, by omega, h3, ?_⟩
      exact h4.mono (.drop fun k hm => by
        rcases List.mem_append.1 hm with hm | hm
        · exact List.mem_append.2 (.inl (hsub.subset hm))
        · exact List.mem_append.2 (.inr hm))
  exact hk.retell hi (fun o ⟨cs, T, h1, h2⟩ => ⟨cs, T, h1, repH_fill l h2 (List.mem_of_getElem? hq) hsl⟩) id
theorem Sq.thaw {l0 : List Oper} {p cap T : Nat} {key : Option Nat} {β γ : Type} [Rp β] [Rp γ] {b b' : β} {xs : List γ} {os os' : List (Nat × Value)} (l : Lens β (List γ)) (i j q : Nat) (hij : Nat.beq i j = false) (hL : L[i]? = some ⟨some p, .varX b os⟩) (hJ : L[j]? = some ⟨key, .row T xs cap⟩)
    (hq : os[q]? = some (l.off, slv key xs.length cap)) (hb : l.set b xs = b') (hos : delHole os l.off = os') (k : Sq c ops Q l0 E ((L.set j ⟨none, .dead⟩).set i ⟨some p, .varX b' os'⟩)) : Sq c ops Q l0 E L :=
  fun a W s => k a W (s.thaw l (fun e => by rw [e, Nat.beq_refl] at hij; cases hij) hL hJ q hq hb hos)
theorem To.thaw {z : Exit} {p cap T : Nat} {key : Option Nat} {β γ : Type} [Rp β] [Rp γ] {b b' : β} {xs : List γ} {os os' : List (Nat × Value)} (l : Lens β (List γ)) (i j q : Nat) (hij : Nat.beq i j = false) (hL : L[i]? = some ⟨some p, .varX b os⟩) (hJ : L[j]? = some ⟨key, .row T xs cap⟩)
    (hq : os[q]? = some (l.off, slv key xs.length cap)) (hb : l.set b xs = b') (hos : delHole os l.off = os') (k : To c Q z E ((L.set j ⟨none, .dead⟩).set i ⟨some p, .varX b' os'⟩)) : To c Q z E L :=
  fun a W s => k a W (s.thaw l (fun e => by rw [e, Nat.beq_refl] at hij; cases hij) hL hJ q hq hb hos)
theorem Wp.thaw {z : Code} {p cap T : Nat} {key : Option Nat} {β γ : Type} [Rp β] [Rp γ] {b b' : β} {xs : List γ} {os os' : List (Nat × Value)} (l : Lens β (List γ)) (i j q : Nat) (hij : Nat.beq i j = false) (hL : L[i]? = some ⟨some p, .varX b os⟩) (hJ : L[j]? = some ⟨key, .row T xs cap⟩)
    (hq : os[q]? = some (l.off, slv key xs.length cap)) (hb : l.set b xs = b') (hos : delHole os l.off = os') (k : Wp c Q z E ((L.set j ⟨none, .dead⟩).set i ⟨some p, .varX b' os'⟩)) : Wp c Q z E L :=
  fun a W s => k a W (s.thaw l (fun e => by rw [e, Nat.beq_refl] at hij; cases hij) hL hJ q hq hb hos)

/-- the parts of a struct that is built, some of them slices of the call's own -/
inductive FillsX (c : Cx) (E : List (Nat × VP)) (L : List Ent) (place : Nat → Option (Nat × Nat)) {β : Type} [Rp β] : β → List (Nat × Value) → List (Nat × Operand) → β → List (Nat × Value) → Prop
  | nil {b os} : FillsX c E L place b os [] b os
  | cons {b b1 b' : β} {os os' : List (Nat × Value)} {γ : Type} [Rp γ] {v : γ} {i : Nat} {x : Operand} {r : List (Nat × Operand)} (l : Lens β γ) : place i = some (l.off, Rp.size γ) → Look c E L x (.of v) → l.set b v = b1 → apartB os l.off (Rp.size γ) = true → FillsX c E L place b1 os r b' os' → FillsX c E L place b os ((i, x) :: r) b' os'
  | hole {b b1 b' : β} {os os1 os' : List (Nat × Value)} {γ : Type} [Rp γ] {u : Value} {i : Nat} {x : Operand} {r : List (Nat × Operand)} (l : Lens β (List γ)) : place i = some (l.off, 1) → Look c E L x (.eq u) → u.oneCell' = true → l.set b [] = b1 → setHole os l.off u = os1 → FillsX c E L place b1 os1 r b' os' → FillsX c E L place b os ((i, x) :: r) b' os'

theorem FillsX.run {place : Nat → Option (Nat × Nat)} {β : Type} [Rp β] {b b' : β} {os os' : List (Nat × Value)} {ps : List (Nat × Operand)} (h : FillsX c E L place b os ps b' os') : ∀ a W, St c E L a W → ∀ cs : Array Value, RepH (ks L ++ c.A0) W cs.toList b os →
    ∃ cs', Instr.fill place cs (ps.map fun (i, x) => (i, a.eval x)) = some cs' ∧ RepH (ks L ++ c.A0) W cs'.toList b' os' := by
  induction h with
  | nil => intro a W s cs hr; exact ⟨cs, rfl, hr⟩
  | @cons b b1 b' os os' γ _ v i x r l h1 h2 h3 h4 _ ih =>
    intro a W s cs hr
    subst h3
    have hv := h2 a W s
    have hsz : (a.eval x).cells.size = Rp.size γ := by have := Rp.len hv.2; simpa using this
    have hl : cs.toList.length = Rp.size β := hr.len
    have hin := l.inb
    rw [List.map_cons, run_fill h1 hsz (by simp at hl; omega)]
    refine ih a W s _ ?_
    have := repH_set l hr hv.2 h4
    simpa [splice, Rp.len hv.2] using this
  | @hole b b1 b' os os1 os' γ _ u i x r l h1 h2 h3 h4 h5 _ ih =>
    intro a W s cs hr
    subst h4
    subst h5
    have hv : a.eval x = u := h2 a W s
    have hc : (a.eval x).cells.toList = [u] := by rw [hv, cells_one h3]
    have hsz : (a.eval x).cells.size = 1 := by have := congrArg List.length hc; simpa using this
    have hl : cs.toList.length = Rp.size β := hr.len
    have hin : l.off + 1 ≤ Rp.size β := l.inb
    rw [List.map_cons, run_fill h1 hsz (by simp at hl; omega)]
    refine ih a W s _ ?_
    have := repH_hole l hr h3
    simpa [splice, hc] using this

theorem To.endO0 {fn : Func} {δ : Type} {ρ : δ → VP} {Lo : δ → List Ent} (dd : δ) (hs : (Lo dd).Sublist L) (hr : fn.results = #[]) (hρ : ρ dd = .tup []) (hds : c.ds = [] := by rfl) : To c (bodyPost c.P fn (PostO c.X c.A0 c.W0 ρ Lo)) .ret E L := fun a W s =>
  ⟨s.nodefers hds, .tuple #[], by simp [results_eq, hr], s.ends dd hs (by rw [hρ]; exact ⟨_, rfl, .nil⟩)⟩
end
end Gv

namespace Gv
open Go
set_option linter.unusedVariables false
set_option linter.unusedSimpArgs false

/-- what is hidden of an operation's effect: addresses, capacities -/
abbrev Hid := Nat → Option Nat
def gm (l : List (Option Nat)) : Hid := fun i => (l[i]?).getD none

/-- an operation of the region: the slot it fills, the operations that have come up ahead of it, the entries it leans on and those it leaves, its value -/
structure Hd where
  slot : Option Nat
  up : List Nat
  rd : List Nat
  wr : List Nat
  τ : (Nat → Hid) → VP
  ent : (Nat → Hid) → Nat → Ent

/-- what operation i knows of what is hidden: its own, and what those have left that came up ahead of it -/
def msk (up : List Nat) (i : Nat) (hd : Nat → Hid) : Nat → Hid := fun j => bif Nat.beq j i || up.any (fun k => Nat.beq k j) then hd j else fun _ => none
def upd (hd : Nat → Hid) (i : Nat) (x : Hid) : Nat → Hid := fun j => bif Nat.beq j i then x else hd j
theorem msk_congr {up : List Nat} {i : Nat} {hd hd' : Nat → Hid} (h : hd i = hd' i) (h' : ∀ k ∈ up, hd k = hd' k) : msk up i hd = msk up i hd' := by
  funext j
  unfold msk
  cases h1 : Nat.beq j i
  · cases h2 : up.any (fun k => Nat.beq k j)
    · rfl
    · obtain ⟨k, hk, he⟩ := List.any_eq_true.1 h2
      have := look_beq.1 he
      subst this
      simp only [Bool.false_or, cond_true]
      exact h' k hk
  · have := look_beq.1 h1
    subst this
    simp only [Bool.true_or, cond_true]
    exact h

def setE : List Ent → (Nat → Ent) → List Nat → List Ent
  | L, _, [] => L
  | L, f, j :: r => setE (L.set j (f j)) f r
theorem setE_length : ∀ {L : List Ent} {f : Nat → Ent} {js : List Nat}, (setE L f js).length = L.length
  | _, _, [] => rfl
  | L, f, j :: r => by rw [setE, setE_length, List.length_set]
theorem setE_get : ∀ {L : List Ent} {f : Nat → Ent} {js : List Nat} (i : Nat), (setE L f js)[i]? = if js.contains i = true then L[i]?.map (fun _ => f i) else L[i]?
  | _, _, [], i => by simp [setE]
  | L, f, j :: r, i => by
    rw [setE, setE_get i]
    by_cases h : j = i
    · subst h
      simp only [List.contains_cons, BEq.rfl, Bool.true_or, if_true, List.getElem?_set]
      by_cases hl : j < L.length
      · simp [hl]
      · simp [hl]
    · have hb : (i == j) = false := by simp; exact fun e => h e.symm
      rw [List.contains_cons, hb, Bool.false_or, List.getElem?_set_ne h]

/-- the entries, once these operations have come up -/
def Lf (ls : Nat → Bool) (hd : Nat → Hid) : Nat → List Hd → List Ent → List Ent
  | _, [], L => L
  | k, h :: r, L => Lf ls hd (k + 1) r (bif ls k then setE L (h.ent (msk h.up k hd)) h.wr else L)
/-- the slots -/
def zipD (ls : Nat → Bool) (hd : Nat → Hid) (E : List (Nat × VP)) : Nat → List Hd → List (Nat × VP)
  | _, [] => E
  | k, h :: r => match ls k, h.slot with
    | true, some s => (s, h.τ (msk h.up k hd)) :: zipD ls hd E (k + 1) r
    | _, _ => zipD ls hd E (k + 1) r

/-- entry j -/
def valD (ls : Nat → Bool) (hd : Nat → Hid) (j : Nat) : Nat → List Hd → Option Ent → Option Ent
  | _, [], v => v
  | k, h :: r, v => valD ls hd j (k + 1) r (bif ls k && h.wr.contains j then v.map (fun _ => h.ent (msk h.up k hd) j) else v)
theorem Lf_get {ls : Nat → Bool} {hd : Nat → Hid} (j : Nat) : ∀ {k : Nat} {hs : List Hd} {L : List Ent}, (Lf ls hd k hs L)[j]? = valD ls hd j k hs L[j]?
  | _, [], _ => rfl
  | k, h :: r, L => by
    rw [Lf, valD, Lf_get j]
    congr 1
    cases ls k
    · rfl
    · simp only [cond_true, Bool.true_and]
      rw [setE_get]
      cases h.wr.contains j <;> rfl
theorem valD_none {ls : Nat → Bool} {hd : Nat → Hid} {j : Nat} : ∀ {k : Nat} {hs : List Hd} {v : Option Ent}, (∀ m h, hs[m]? = some h → h.wr.contains j = true → ls (k + m) = false) → valD ls hd j k hs v = v
  | _, [], _, _ => rfl
  | k, h :: r, v, hn => by
    rw [valD, valD_none fun m x hm hx => by have := hn (m + 1) x (by simpa using hm) hx; rw [← this]; congr 1; omega]
    cases hw : h.wr.contains j
    · simp
    · have := hn 0 h rfl hw
      simp only [Nat.add_zero] at this
      rw [this]; rfl
theorem valD_append {ls : Nat → Bool} {hd : Nat → Hid} {j : Nat} : ∀ {k : Nat} {hs rs : List Hd} {v : Option Ent}, valD ls hd j k (hs ++ rs) v = valD ls hd j (k + hs.length) rs (valD ls hd j k hs v)
  | _, [], _, _ => rfl
  | k, h :: r, rs, v => by
    rw [List.cons_append, valD, valD_append, valD, List.length_cons]
    congr 1; omega
theorem valD_congr {ls ls' : Nat → Bool} {hd hd' : Nat → Hid} {j : Nat} : ∀ {k : Nat} {hs : List Hd} {v : Option Ent}, (∀ m h, hs[m]? = some h → h.wr.contains j = true → ls (k + m) = ls' (k + m) ∧ (ls (k + m) = true → msk h.up (k + m) hd = msk h.up (k + m) hd')) → valD ls hd j k hs v = valD ls' hd' j k hs v
  | _, [], _, _ => rfl
  | k, h :: r, v, hn => by
    have ih := valD_congr (ls := ls) (ls' := ls') (hd := hd) (hd' := hd') (j := j) (k := k + 1) (hs := r) (v := bif ls k && h.wr.contains j then v.map (fun _ => h.ent (msk h.up k hd) j) else v) fun m x hm hx => by
      have := hn (m + 1) x (by simpa using hm) hx
      rw [show k + 1 + m = k + (m + 1) by omega]; exact this
    rw [valD, valD, ih]
    congr 1
    cases hw : h.wr.contains j
    · simp
    · have := hn 0 h rfl hw
      simp only [Nat.add_zero] at this
      rw [← this.1]
      cases hl : ls k
      · rfl
      · rw [this.2 hl]

theorem zipD_base {ls : Nat → Bool} {hd : Nat → Hid} {E : List (Nat × VP)} {t : Nat} : ∀ {k : Nat} {hs : List Hd}, (∀ (m : Nat) (h : Hd), hs[m]? = some h → ls (k + m) = true → h.slot ≠ some t) → look (zipD ls hd E k hs) t = look E t
  | _, [], _ => rfl
  | k, h :: r, hn => by
    have ih := zipD_base (ls := ls) (hd := hd) (E := E) (t := t) (k := k + 1) (hs := r) fun m x hm hl => hn (m + 1) x (by simpa using hm) (by rw [← hl]; congr 1; omega)
    unfold zipD
    split
    · rename_i s h1 h2
      have hne : Nat.beq s t = false := by
        cases hb : Nat.beq s t
        · rfl
        · have := look_beq.1 hb; subst this; exact absurd h2 (hn 0 h rfl h1)
      simp only [look, hne, cond_false]
      exact ih
    · exact ih
theorem zipD_get {ls : Nat → Bool} {hd : Nat → Hid} {E : List (Nat × VP)} {s : Nat} : ∀ {k : Nat} {hs : List Hd} {j : Nat} {h : Hd}, hs[j]? = some h → ls (k + j) = true → h.slot = some s → (∀ m x, hs[m]? = some x → x.slot = some s → m = j) → look (zipD ls hd E k hs) s = some (h.τ (msk h.up (k + j) hd))
  | _, [], _, _, h, _, _, _ => by simp at h
  | k, x :: r, 0, h, hj, hl, hs, _ => by
    simp only [List.getElem?_cons_zero, Option.some.injEq] at hj
    subst hj
    simp only [Nat.add_zero] at hl
    unfold zipD
    rw [hl, hs]
    simp [look, Nat.beq_refl]
  | k, x :: r, j + 1, h, hj, hl, hs, hu => by
    have ih := zipD_get (ls := ls) (hd := hd) (E := E) (s := s) (k := k + 1) (hs := r) (j := j) (h := h) (by simpa using hj) (by rw [← hl]; congr 1; omega) hs fun m y hm hy => by
      have := hu (m + 1) y (by simpa using hm) hy; omega
    rw [show k + 1 + j = k + (j + 1) by omega] at ih
    unfold zipD
    split
    · rename_i s' h1 h2
      have hne : Nat.beq s' s = false := by
        cases hb : Nat.beq s' s
        · rfl
        · have := look_beq.1 hb; subst this
          have := hu 0 x rfl h2; omega
      simp only [look, hne, cond_false]
      exact ih
    · exact ih
theorem zipD_inv {ls : Nat → Bool} {hd : Nat → Hid} {E : List (Nat × VP)} {t : Nat} {τ : VP} : ∀ {k : Nat} {hs : List Hd}, look (zipD ls hd E k hs) t = some τ → (∃ (j : Nat) (h : Hd), hs[j]? = some h ∧ ls (k + j) = true ∧ h.slot = some t ∧ τ = h.τ (msk h.up (k + j) hd)) ∨ (look E t = some τ ∧ ∀ (m : Nat) (h : Hd), hs[m]? = some h → ls (k + m) = true → h.slot ≠ some t)
  | _, [], h => .inr ⟨h, fun m h hm => by simp at hm⟩
  | k, x :: r, h => by
    unfold zipD at h
    have go : (ls k = true → x.slot ≠ some t) → look (zipD ls hd E (k + 1) r) t = some τ → (∃ (j : Nat) (h : Hd), (x :: r)[j]? = some h ∧ ls (k + j) = true ∧ h.slot = some t ∧ τ = h.τ (msk h.up (k + j) hd)) ∨ (look E t = some τ ∧ ∀ (m : Nat) (h : Hd), (x :: r)[m]? = some h → ls (k + m) = true → h.slot ≠ some t) := fun hx h => by
      rcases zipD_inv h with ⟨j, y, h1, h2, h3, h4⟩ | ⟨h1, h2⟩
      · exact .inl ⟨j + 1, y, by simpa using h1, by rw [← h2]; congr 1; omega, h3, by rw [h4]; congr 2; omega⟩
      · refine .inr ⟨h1, fun m y hm hl => ?_⟩
        cases m with
        | zero => simp only [List.getElem?_cons_zero, Option.some.injEq] at hm; subst hm; exact hx hl
        | succ m => exact h2 m y (by simpa using hm) (by rw [← hl]; congr 1; omega)
    split at h
    · rename_i s h1 h2
      simp only [look] at h
      by_cases e : Nat.beq s t = true
      · rw [e] at h
        simp only [cond_true, Option.some.injEq] at h
        have := look_beq.1 e
        subst this
        exact .inl ⟨0, x, rfl, h1, h2, h.symm⟩
      · rw [Bool.not_eq_true] at e
        rw [e] at h
        exact go (fun _ hs' => by rw [h2] at hs'; cases hs'; rw [Nat.beq_refl] at e; cases e) h
    · rename_i hno
      exact go (fun hl hs' => hno t hl hs') h

/-- the slots that an operation may look at -/
def heD (hd : Nat → Hid) (hs : List Hd) (E : List (Nat × VP)) : List Nat → List (Nat × VP)
  | [] => E
  | j :: r => match hs[j]? with
    | some h => match h.slot with
      | some s => (s, h.τ (msk h.up j hd)) :: heD hd hs E r
      | none => heD hd hs E r
    | none => heD hd hs E r
theorem heD_inv {hd : Nat → Hid} {hs : List Hd} {E : List (Nat × VP)} {t : Nat} {τ : VP} : ∀ {ds : List Nat}, look (heD hd hs E ds) t = some τ → (∃ j ∈ ds, ∃ h : Hd, hs[j]? = some h ∧ h.slot = some t ∧ τ = h.τ (msk h.up j hd)) ∨ look E t = some τ
  | [], h => .inr h
  | j :: r, h => by
    have go : look (heD hd hs E r) t = some τ → (∃ i ∈ j :: r, ∃ h : Hd, hs[i]? = some h ∧ h.slot = some t ∧ τ = h.τ (msk h.up i hd)) ∨ look E t = some τ := fun h => by
      rcases heD_inv h with ⟨i, h1, h2⟩ | h1
      · exact .inl ⟨i, by simp [h1], h2⟩
      · exact .inr h1
    unfold heD at h
    split at h
    · rename_i x hx
      split at h
      · rename_i s hsl
        simp only [look] at h
        by_cases e : Nat.beq s t = true
        · rw [e] at h
          simp only [cond_true, Option.some.injEq] at h
          have := look_beq.1 e
          subst this
          exact .inl ⟨j, by simp, x, hx, hsl, h.symm⟩
        · simp only [Bool.not_eq_true] at e
          rw [e] at h
          exact go h
      · exact go h
    · exact go h

/-- these slots hold this very value -/
def AllEq (E : List (Nat × VP)) (v : Value) : List Nat → Prop
  | [] => True
  | s :: r => look E s = some (.eq v) ∧ AllEq E v r
theorem AllEq.get {E : List (Nat × VP)} {v : Value} : ∀ {ss : List Nat}, AllEq E v ss → ∀ s ∈ ss, look E s = some (.eq v)
  | _ :: _, h, s, hs => by
    rcases List.mem_cons.1 hs with rfl | hs
    · exact h.1
    · exact AllEq.get h.2 s hs
def asE (τ : VP) (E : List (Nat × VP)) : List Nat → List (Nat × VP)
  | [] => E
  | s :: r => (s, τ) :: asE τ E r
theorem look_asE {τ : VP} {E : List (Nat × VP)} {t : Nat} {σ : VP} : ∀ {ss : List Nat}, look (asE τ E ss) t = some σ → (t ∈ ss ∧ σ = τ) ∨ look E t = some σ
  | [], h => .inr h
  | s :: r, h => by
    simp only [asE, look] at h
    by_cases e : Nat.beq s t = true
    · rw [e] at h
      simp only [cond_true, Option.some.injEq] at h
      have := look_beq.1 e
      subst this
      exact .inl ⟨by simp, h.symm⟩
    · simp only [Bool.not_eq_true] at e
      rw [e] at h
      rcases look_asE h with ⟨h1, h2⟩ | h1
      · exact .inl ⟨by simp [h1], h2⟩
      · exact .inr h1

def umin {w : Nat} (a b : BitVec w) : BitVec w := if a ≤ b then a else b
def addE : Option Nat → VP → List (Nat × VP) → List (Nat × VP)
  | some s, τ, E => (s, τ) :: E
  | none, _, E => E

section
variable {c : Cx} {E : List (Nat × VP)} {L : List Ent} {ops : Array Oper} {Q : Exit → Act → World → Prop}

/-- a slice of the call's own is let go, and each slot that holds it reads as a list -/
theorem St.freezeL {a : Act} {W : World} {α : Type} [Rp α] {i cap T : Nat} {ss : List Nat} {key : Option Nat} {xs : List α} (h : St c E L a W) (hl : AllEq E (slv key xs.length cap) ss) (hL : L[i]? = some ⟨key, .row T xs cap⟩) :
    St c (asE (.of xs) E ss) (L.set i ⟨none, .dead⟩) a W := by
  have hk := h.kill i
  refine { hk with env := fun t τ hlk => ?_ }
  rcases look_asE hlk with ⟨hm, rfl⟩ | h1
  · obtain ⟨v, h1, h2⟩ := h.env t _ (hl.get t hm)
    refine ⟨v, h1, of_list.2 ?_⟩
    have h2' : v = slv key xs.length cap := h2
    subst h2'
    have ho := h.own _ (List.mem_of_getElem? hL)
    cases key with
    | none => exact .inl ⟨⟨_, rfl⟩, ho.1⟩
    | some p =>
      obtain ⟨o, hob, cs, ⟨fz, hmk, rfl⟩, hsz, hn, hcm, hr⟩ := ho
      obtain ⟨h3, h4⟩ := reps_prefix hsz hn hr
      refine .inr ⟨p, 0, cap, cs, T, fz, rfl, h.not_left hL, hob, hn, by omega, h3, ?_⟩
      have hsub := ks_set_none_sub (L := L) (i := i) (cp := .dead)
      exact h4.mono (.drop fun k hm => by
        rcases List.mem_append.1 hm with hm | hm
        · exact List.mem_append.2 (.inl (hsub.subset hm))
        · exact List.mem_append.2 (.inr hm))
  · exact hk.env t τ h1
theorem Sq.freezeL {l : List Oper} {α : Type} [Rp α] {key : Option Nat} {xs : List α} {cap T : Nat} (i : Nat) (ss : List Nat) (hl : AllEq E (slv key xs.length cap) ss) (hL : L[i]? = some ⟨key, .row T xs cap⟩)
    (k : Sq c ops Q l (asE (.of xs) E ss) (L.set i ⟨none, .dead⟩)) : Sq c ops Q l E L := fun a W st => k a W (st.freezeL hl hL)
theorem To.freezeL {x : Exit} {α : Type} [Rp α] {key : Option Nat} {xs : List α} {cap T : Nat} (i : Nat) (ss : List Nat) (hl : AllEq E (slv key xs.length cap) ss) (hL : L[i]? = some ⟨key, .row T xs cap⟩)
    (k : To c Q x (asE (.of xs) E ss) (L.set i ⟨none, .dead⟩)) : To c Q x E L := fun a W st => k a W (st.freezeL hl hL)
theorem Wp.freezeL {code : Code} {α : Type} [Rp α] {key : Option Nat} {xs : List α} {cap T : Nat} (i : Nat) (ss : List Nat) (hl : AllEq E (slv key xs.length cap) ss) (hL : L[i]? = some ⟨key, .row T xs cap⟩)
    (k : Wp c Q code (asE (.of xs) E ss) (L.set i ⟨none, .dead⟩)) : Wp c Q code E L := fun a W st => k a W (st.freezeL hl hL)

/-- operation number i, whatever has come up beside what it waits for -/
def HeadD (c : Cx) (ops : Array Oper) (Q : Exit → Act → World → Prop) (hs : List Hd) (E : List (Nat × VP)) (L : List Ent) (i : Nat) (o : Oper) (h : Hd) : Prop :=
  ∀ (hd : Nat → Hid) (E' : List (Nat × VP)) (L' : List Ent), (∀ t τ, look (heD hd hs E h.up) t = some τ → look E' t = some τ) →
    (∀ j e, (Lf (fun _ => true) hd 0 (hs.take i) L)[j]? = some e → h.rd.contains j = true → L'[j]? = some e) →
    Sq c ops (QK (fun a W => ∃ x, St c (addE h.slot (h.τ (msk h.up i (upd hd i x))) E') (setE L' (h.ent (msk h.up i (upd hd i x))) h.wr) a W) Q) [o] E' L'

def HeadsD (c : Cx) (ops : Array Oper) (Q : Exit → Act → World → Prop) (hs : List Hd) (E : List (Nat × VP)) (L : List Ent) : Nat → List Oper → List Hd → Prop
  | _, [], [] => True
  | i, o :: os, h :: r => HeadD c ops Q hs E L i o h ∧ HeadsD c ops Q hs E L (i + 1) os r
  | _, _, _ => False
theorem HeadsD.get {hs : List Hd} : ∀ {k : Nat} {os : List Oper} {rs : List Hd}, HeadsD c ops Q hs E L k os rs → ∀ i h o, rs[i]? = some h → os[i]? = some o → HeadD c ops Q hs E L (k + i) o h
  | k, [], [], _, i, h, o, hi, _ => by simp at hi
  | k, o0 :: os, h0 :: r, hh, i, h, o, hi, ho => by
    cases i with
    | zero =>
      simp only [List.getElem?_cons_zero, Option.some.injEq] at hi ho
      subst hi; subst ho; exact hh.1
    | succ i =>
      have := HeadsD.get hh.2 i h o (by simpa using hi) (by simpa using ho)
      rw [show k + 1 + i = k + (i + 1) by omega] at this
      exact this
  | k, [], _ :: _, hh, _, _, _, _, _ => hh.elim
  | k, _ :: _, [], hh, _, _, _, _, _ => hh.elim

theorem zipD_congr {ls ls' : Nat → Bool} {hd : Nat → Hid} : ∀ {k : Nat} {hs : List Hd}, (∀ m, m < hs.length → ls (k + m) = ls' (k + m)) → zipD ls hd E k hs = zipD ls' hd E k hs
  | _, [], _ => rfl
  | k, h :: r, hn => by
    have ih := zipD_congr (ls := ls) (ls' := ls') (hd := hd) (k := k + 1) (hs := r) fun m hm => by
      have := hn (m + 1) (by simp; omega)
      rw [show k + 1 + m = k + (m + 1) by omega]; exact this
    have h0 := hn 0 (by simp)
    simp only [Nat.add_zero] at h0
    unfold zipD
    rw [h0, ih]
theorem Lf_congr {ls ls' : Nat → Bool} {hd : Nat → Hid} : ∀ {k : Nat} {hs : List Hd} {L : List Ent}, (∀ m, m < hs.length → ls (k + m) = ls' (k + m)) → Lf ls hd k hs L = Lf ls' hd k hs L
  | _, [], _, _ => rfl
  | k, h :: r, L, hn => by
    have h0 := hn 0 (by simp)
    simp only [Nat.add_zero] at h0
    rw [Lf, Lf, h0]
    exact Lf_congr fun m hm => by
      have := hn (m + 1) (by simp; omega)
      rw [show k + 1 + m = k + (m + 1) by omega]; exact this

def dat (hs : List Hd) : List (Option Nat × List Nat × List Nat × List Nat) := hs.map fun h => (h.slot, h.up, h.rd, h.wr)
theorem dat_get {hs : List Hd} {i : Nat} {h : Hd} (hi : hs[i]? = some h) : (dat hs)[i]? = some (h.slot, h.up, h.rd, h.wr) := by simp [dat, hi]

/-- the same, and from np on the entries are those of the beginning -/
def HeadDP (c : Cx) (ops : Array Oper) (Q : Exit → Act → World → Prop) (hs : List Hd) (E : List (Nat × VP)) (L : List Ent) (np : Nat) (i : Nat) (o : Oper) (h : Hd) : Prop :=
  ∀ (hd : Nat → Hid) (E' : List (Nat × VP)) (L' : List Ent), (∀ t τ, look (heD hd hs E h.up) t = some τ → look E' t = some τ) →
    (∀ j e, (Lf (fun _ => true) hd 0 (hs.take i) L)[j]? = some e → h.rd.contains j = true → L'[j]? = some e) → L'.drop np = L.drop np →
    Sq c ops (QK (fun a W => ∃ x, St c (addE h.slot (h.τ (msk h.up i (upd hd i x))) E') (setE L' (h.ent (msk h.up i (upd hd i x))) h.wr) a W) Q) [o] E' L'
def HeadsDP (c : Cx) (ops : Array Oper) (Q : Exit → Act → World → Prop) (hs : List Hd) (E : List (Nat × VP)) (L : List Ent) (np : Nat) : Nat → List Oper → List Hd → Prop
  | _, [], [] => True
  | i, o :: os, h :: r => HeadDP c ops Q hs E L np i o h ∧ HeadsDP c ops Q hs E L np (i + 1) os r
  | _, _, _ => False
theorem HeadsDP.get {hs : List Hd} {np : Nat} : ∀ {k : Nat} {os : List Oper} {rs : List Hd}, HeadsDP c ops Q hs E L np k os rs → ∀ i h o, rs[i]? = some h → os[i]? = some o → HeadDP c ops Q hs E L np (k + i) o h
  | k, [], [], _, i, h, o, hi, _ => by simp at hi
  | k, o0 :: os, h0 :: r, hh, i, h, o, hi, ho => by
    cases i with
    | zero =>
      simp only [List.getElem?_cons_zero, Option.some.injEq] at hi ho
      subst hi; subst ho; exact hh.1
    | succ i =>
      have := HeadsDP.get hh.2 i h o (by simpa using hi) (by simpa using ho)
      rw [show k + 1 + i = k + (i + 1) by omega] at this
      exact this
  | k, [], _ :: _, hh, _, _, _, _, _ => hh.elim
  | k, _ :: _, [], hh, _, _, _, _, _ => hh.elim
theorem HeadsD.toP {hs : List Hd} {np : Nat} : ∀ {k : Nat} {os : List Oper} {rs : List Hd}, HeadsD c ops Q hs E L k os rs → HeadsDP c ops Q hs E L np k os rs
  | _, [], [], _ => trivial
  | _, _ :: _, _ :: _, h => ⟨fun hd E' L' h1 h2 _ => h.1 hd E' L' h1 h2, HeadsD.toP h.2⟩
  | _, [], _ :: _, h => h.elim
  | _, _ :: _, [], h => h.elim
theorem setE_drop {n : Nat} : ∀ {L : List Ent} {f : Nat → Ent} {js : List Nat}, (∀ j ∈ js, j < n ∨ L.length ≤ j) → (setE L f js).drop n = L.drop n
  | _, _, [], _ => rfl
  | L, f, j :: r, h => by
    rw [setE, setE_drop (fun k hk => by rw [List.length_set]; exact h k (by simp [hk]))]
    rcases h j (by simp) with h1 | h1
    · rw [List.drop_set_of_lt h1]
    · rw [List.set_eq_of_length_le h1]
theorem Lf_drop {ls : Nat → Bool} {hd : Nat → Hid} {n : Nat} : ∀ {k : Nat} {hs : List Hd} {L : List Ent}, (∀ h ∈ hs, ∀ j ∈ h.wr, j < n ∨ L.length ≤ j) → (Lf ls hd k hs L).drop n = L.drop n
  | _, [], _, _ => rfl
  | k, h :: r, L, hw => by
    rw [Lf]
    cases hl : ls k
    · exact Lf_drop fun x hx => hw x (by simp [hx])
    · simp only [cond_true]
      rw [Lf_drop (fun x hx j hj => by rw [setE_length]; exact hw x (by simp [hx]) j hj), setE_drop (hw h (by simp))]

theorem wr_lt {hs : List Hd} {ds : List (Option Nat × List Nat × List Nat × List Nat)} {np : Nat} (hds : dat hs = ds) (h : (ds.all fun d => d.2.2.2.all fun j => Nat.blt j np) = true) : ∀ h ∈ hs, ∀ j ∈ h.wr, j < np ∨ L.length ≤ j := fun x hx j hj => by
  subst hds
  have h1 := List.all_eq_true.1 h (x.slot, x.up, x.rd, x.wr) (List.mem_map.2 ⟨x, hx, rfl⟩)
  have h2 := List.all_eq_true.1 h1 j hj
  exact .inl (Nat.blt_eq.mp h2)
/-- where a head ends -/
theorem To.fin {slot : Option Nat} {up wr : List Nat} {i : Nat} {hd : Nat → Hid} {τ : (Nat → Hid) → VP} {ent : (Nat → Hid) → Nat → Ent} {E' E2 : List (Nat × VP)} {L' L2 : List Ent} (x : Hid) (hE : E2 = addE slot (τ (msk up i (upd hd i x))) E') (hL : L2 = setE L' (ent (msk up i (upd hd i x))) wr) :
    To c (QK (fun a W => ∃ x, St c (addE slot (τ (msk up i (upd hd i x))) E') (setE L' (ent (msk up i (upd hd i x))) wr) a W) Q) .normal E2 L2 := fun a W s => by
  subst hE hL
  exact ⟨x, s⟩

/-- a new entry goes to a place that is kept for it -/
theorem To.place {z : Exit} {e : Ent} (j : Nat) (hj : L[j]? = some ⟨none, .dead⟩) (k : To c Q z E (L.set j e)) : To c Q z E (e :: L) := fun a W s => by
  refine k a W (s.sub (fun x hx => ?_) ?_)
  · rcases List.mem_or_eq_of_mem_set hx with h | h
    · exact List.mem_cons.2 (.inr h)
    · exact List.mem_cons.2 (.inl h)
  · have h1 := bring_perm hj
    have h2 : (L.set j e).Perm (e :: L.eraseIdx j) := by
      have h3 : (L.set j e)[j]? = some e := by rw [List.getElem?_set_self (List.getElem?_eq_some_iff.1 hj).1]
      have h4 := bring_perm h3
      rwa [List.eraseIdx_set_eq] at h4
    have h5 := ks_perm (h1.cons e)
    have h6 : ks (e :: ⟨none, .dead⟩ :: L.eraseIdx j) = ks (e :: L.eraseIdx j) := by cases hk : e.key <;> simp [ks, hk]
    rw [h6] at h5
    exact (ks_perm h2).nodup_iff.2 (h5.nodup_iff.1 s.nodup)
/-- places are kept for entries to come -/
theorem Wp.keep {z : Code} (n : Nat) (k : Wp c Q z E (L ++ List.replicate n ⟨none, .dead⟩)) : Wp c Q z E L := fun a W s => by
  refine k a W ?_
  have hk : ks (L ++ List.replicate n ⟨none, .dead⟩) = ks L := by
    rw [ks_append]
    have : ∀ n, ks (List.replicate n (⟨none, .dead⟩ : Ent)) = [] := fun n => by
      induction n with
      | zero => rfl
      | succ n ih => rw [List.replicate_succ]; simp [ks, ih]
    rw [this, List.append_nil]
  exact
  { defers := s.defers
    size := s.size
    env := fun t τ hl => by rw [hk]; exact s.env t τ hl
    fr := s.fr
    own := fun e he => by
      rw [hk]
      rcases List.mem_append.1 he with he | he
      · exact s.own e he
      · rw [(List.mem_replicate.1 he).2]; trivial
    nodup := by rw [hk]; exact s.nodup
    lt := by rw [hk]; exact s.lt
    mine := by rw [hk]; exact s.mine
    old := by rw [hk]; exact s.old }
theorem To.eqL {z : Exit} {L2 : List Ent} (h : L = L2) (k : To c Q z E L2) : To c Q z E L := by subst h; exact k

theorem To.relen {z : Exit} {key : Option Nat} {n m cap : Nat} (sl : Nat) (hl : look E sl = some (.eq (slv key n cap))) (hn : n = m) (k : To c Q z ((sl, .eq (slv key m cap)) :: E) L) : To c Q z E L := fun a W s => by
  subst hn
  refine k a W (s.less fun t τ h => ?_)
  simp only [look] at h
  by_cases e : Nat.beq sl t = true
  · rw [e] at h
    simp only [cond_true] at h
    have := look_beq.1 e
    subst this
    exact ⟨τ, by rw [hl, h], fun _ _ _ h => h⟩
  · simp only [Bool.not_eq_true] at e
    rw [e] at h
    exact ⟨τ, h, fun _ _ _ h => h⟩

variable {hs : List Hd} {i d : Nat} {up rd : List Nat} {ent : (Nat → Hid) → Nat → Ent} {o : Oper}
/-- a head that yields a value and touches nothing -/
theorem hd_v {τ : VP} (hg : o.guard = none) (hd : o.dst = some d) (hn : Nat.blt d c.n = true)
    (h : ∀ (hd : Nat → Hid) (E' : List (Nat × VP)) (L' : List Ent), (∀ t τ, look (heD hd hs E up) t = some τ → look E' t = some τ) → (∀ j e, (Lf (fun _ => true) hd 0 (hs.take i) L)[j]? = some e → rd.contains j = true → L'[j]? = some e) → HR c E' L' o τ) :
    HeadD c ops Q hs E L i o ⟨some d, up, rd, [], fun _ => τ, ent⟩ := fun hdd E' L' hE hL =>
  Sq.v (h hdd E' L' hE hL) hg hd hn (Sq.nil (To.fin (fun _ => none) rfl rfl))
variable {ty t : TypeId} {pos : String} {af : Array Edge}
variable {g : Option (Nat × Bool)} {x y : Operand}
theorem r_minu64 {a b : BitVec 64} {dd : Option Tmp} {ats : Array TypeId} (hx : Look c E L x (.of a)) (hy : Look c E L y (.of b)) : HR c E L ⟨dd, .call ⟨.builtin .min, #[x, y], ats⟩, ty, pos, af, g⟩ (.of (umin a b)) := .pure fun A W s =>
  ⟨.int .u64 (umin a b).toNat, by
    simp [execOp, resolve, invoke, builtin, Builtin.min_, Builtin.min2, of_u64.1 (hx A W s), of_u64.1 (hy A W s)]
    unfold umin
    split <;> split <;> first | rfl | (rename_i h1 h2; simp only [BitVec.le_def] at *; omega), of_u64.2 rfl⟩
end
end Gv

namespace Gv
open Go
set_option linter.unusedVariables false
set_option linter.unusedSimpArgs false

section
variable {c : Cx} {E : List (Nat × VP)} {L : List Ent} {ops : Array Oper} {Q : Exit → Act → World → Prop}
variable {d : Option Tmp} {ty : TypeId} {pos : String} {af : Array Edge} {g : Option (Nat × Bool)} {x y : Operand} {t t2 : TypeId}

/- a slice of N elements, the first of which are known -/
theorem Wp.some {code : Code} {i T cap : Nat} {key : Option Nat} {α : Type} [Rp α] {xs : List α} (hL : L[i]? = Option.some ⟨key, .row T xs cap⟩) (hx : 0 < xs.length) (k : ∀ p, key = Option.some p → xs.length ≤ cap → cap ≤ maxLen → Wp c Q code E L) : Wp c Q code E L := fun a W s => by
  obtain ⟨p, cs, fz, hmk, rfl, hob, g1, g2, g3, g4⟩ := s.rowAt hL hx
  exact k p rfl g2 g3 a W s
/- two rows have two blocks -/
theorem Wp.apart {code : Code} {p q : Nat} {cp cp' : CP} {L' : List Ent} (hL : L = ⟨Option.some p, cp⟩ :: ⟨Option.some q, cp'⟩ :: L') (k : p ≠ q → Wp c Q code E L) : Wp c Q code E L := fun a W s => by
  refine k (fun e => ?_) a W s
  have := s.nodup
  rw [hL, e] at this
  simp [ks] at this

end

/- what slices.Insert makes, where some are to be inserted; none: out of range, or too many -/
end Gv

namespace Gv
open Go
set_option linter.unusedVariables false
set_option linter.unusedSimpArgs false

section
variable {c : Cx} {E : List (Nat × VP)} {L : List Ent} {ops : Array Oper} {Q : Exit → Act → World → Prop} {rest : List Oper} {o : Oper} {dd : Nat}
variable {ty : TypeId} {pos : String} {af : Array Edge} {x y : Operand} {t t2 : TypeId}

/-! ### The text's shape -/

theorem Qsr {id : Nat} {l : List Oper} {y : Code} (h : Sq c l.toArray (Exit.then (c.wp y Q) Q) l E L) : Wp c Q (.seq (.region id l.toArray false) y) E L := .seq (.reg h)
theorem Qnx {y : Code} (h : Wp c Q y E L) : Sq c ops (Exit.then (c.wp y Q) Q) [] E L := .nil (.next h)
theorem Qns {y z : Code} (h : Wp c (Exit.then (c.wp z Q) Q) y E L) : Sq c ops (Exit.then (c.wp (Code.seq y z) Q) Q) [] E L := .nil (.next (.seq h))
theorem Qnr {id : Nat} {l : List Oper} {z : Code} (h : Sq c l.toArray (Exit.then (c.wp z Q) Q) l E L) : Sq c ops (Exit.then (c.wp (Code.seq (.region id l.toArray false) z) Q) Q) [] E L := .nil (.next (.seq (.reg h)))
theorem Qkn {y : Code} (h : Wp c Q y E L) : Wp c (Exit.then (c.wp y Q) Q) .skip E L := .skip (.next h)
theorem Qbf {α β : Type} {m : Option α} {f : α → Option β} {r : β} {P : Prop} (h : m.bind f = some r) (k : ∀ y, m = some y → f y = some r → P) : P := (bind_some h).elim fun y h => k y h.1 h.2
theorem Qcd {R : Type} {b : Bool} {A B : Option R} {r : R} {y z : Code} (h : cond b A B = some r) (ht : A = some r → Wp c Q y E L) (hf : B = some r → Wp c Q z E L)
    (hl : Look c E L x (.of b) := by first | exact look_t rfl | exact look_bool _) : Wp c Q (.cond x y z) E L :=
  .cond hl (fun hb => ht (cond_t hb h)) (fun hb => hf (cond_f hb h))

/-! ### Operations -/

theorem Qv {τ : VP} (h : HR c E L o τ) (k : Sq c ops Q rest ((dd, τ) :: E) L) (hg : o.guard = none := by rfl) (hd : o.dst = some dd := by rfl) (hn : Nat.blt dd c.n = true := by rfl) : Sq c ops Q (o :: rest) E L := .v h hg hd hn k
theorem Qm {τ : VP} (k : Sq c ops Q rest ((dd, τ) :: E) L) (hx : Look c E L x τ := by first | exact look_t rfl | exact look_int _ | exact look_bool _ | exact look_str _) (hn : Nat.blt dd c.n = true := by rfl) :
    Sq c ops Q (⟨some dd, .move x, ty, pos, af, none⟩ :: rest) E L := .v (r_move hx) rfl rfl hn k
theorem Qa {τ : VP} (k : Sq c ops Q rest ((dd, τ) :: E) L) (hx : Look c E L x τ := by first | exact look_t rfl | exact look_int _ | exact look_bool _ | exact look_str _) (hn : Nat.blt dd c.n = true := by rfl) :
    Sq c ops Q (⟨some dd, .assign x, ty, pos, af, none⟩ :: rest) E L := .v (r_asg hx) rfl rfl hn k
/-- one operand -/
theorem Q1 {σ τ : VP} (h : Look c E L x σ → HR c E L o τ) (k : Sq c ops Q rest ((dd, τ) :: E) L) (hx : Look c E L x σ := by first | exact look_t rfl | exact look_int _ | exact look_bool _ | exact look_str _)
    (hg : o.guard = none := by rfl) (hd : o.dst = some dd := by rfl) (hn : Nat.blt dd c.n = true := by rfl) : Sq c ops Q (o :: rest) E L := .v (h hx) hg hd hn k
/-- two operands -/
theorem Q2 {σ σ2 τ : VP} (h : Look c E L x σ → Look c E L y σ2 → HR c E L o τ) (k : Sq c ops Q rest ((dd, τ) :: E) L) (hx : Look c E L x σ := by first | exact look_t rfl | exact look_int _ | exact look_bool _ | exact look_str _)
    (hy : Look c E L y σ2 := by first | exact look_t rfl | exact look_int _ | exact look_bool _ | exact look_str _)
    (hg : o.guard = none := by rfl) (hd : o.dst = some dd := by rfl) (hn : Nat.blt dd c.n = true := by rfl) : Sq c ops Q (o :: rest) E L := .v (h hx hy) hg hd hn k
/-- the same, its value under a name -/
theorem Qn {α : Type} [Rp α] {a b : α} (e : some a = some b) (h : HR c E L o (.of a)) (k : Sq c ops Q rest ((dd, .of b) :: E) L) (hg : o.guard = none := by rfl) (hd : o.dst = some dd := by rfl) (hn : Nat.blt dd c.n = true := by rfl) :
    Sq c ops Q (o :: rest) E L := .v (h.as (some_in e)) hg hd hn k
theorem Qxt {i : Nat} {τs : List VP} {τ : VP} (k : Sq c ops Q rest ((dd, τ) :: E) L) (hx : Look c E L x (.tup τs) := by exact look_t rfl) (hi : τs[i]? = some τ := by rfl) (hn : Nat.blt dd c.n = true := by rfl) :
    Sq c ops Q (⟨some dd, .extract x i, ty, pos, af, none⟩ :: rest) E L := .v (r_ext hx hi) rfl rfl hn k
theorem Qcl {f : FuncId} {xs : List Operand} {ats : Array TypeId} {τs : List VP} {ρ : VP} (en : En c.P f) (h : Meets c.P f τs ρ) (k : Sq c ops Q rest ((dd, ρ) :: E) L)
    (hx : Looks c E L xs τs := by repeat (first | exact trivial | refine ⟨look_t rfl, ?_⟩ | refine ⟨look_int _, ?_⟩ | refine ⟨look_bool _, ?_⟩ | refine ⟨look_nil, ?_⟩ | refine ⟨look_str _, ?_⟩)) (hn : Nat.blt dd c.n = true := by rfl) :
    Sq c ops Q (⟨some dd, .call ⟨.value (.func f), xs.toArray, ats⟩, ty, pos, af, none⟩ :: rest) E L := .v (r_call en h hx) rfl rfl hn k
theorem Qap {α : Type} [Rp α] {e bytes cap : Nat} {key : Option Nat} {xs ys r : List α} {z : α} (j : Nat) (hu : c.P.underlying t = some (.slice e)) (te : Ty c.P e α) (zr : Zr c.P e z) (h : appM bytes xs ys = some r)
    (k : ∀ key' cap', Sq c ops Q rest ((dd, .eq (slv key' r.length cap')) :: E) (L.set j ⟨key', .row e r cap'⟩)) (hby : (c.P.info? e).map (·.bytes) = some bytes := by kernel_rfl)
    (hs : Look c E L x (.eq (slv key xs.length cap)) := by first | exact look_t rfl | exact look_own) (hL : L[j]? = some ⟨key, .row e xs cap⟩ := by rfl) (hy : Look c E L y (.of ys) := by exact look_t rfl) (hn : Nat.blt dd c.n = true := by rfl) :
    Sq c ops Q (⟨some dd, .call ⟨.builtin .append, #[x, y], #[t, t]⟩, ty, pos, af, none⟩ :: rest) E L := .app hu te zr hby hs hL hy h hn k

/-! ### Structs and lists that are built -/

theorem Qbl {α : Type} [Rp α] {e n : Nat} {z : α} {ps : List (Nat × Operand)} (r : List α) (hu : c.P.underlying t = some (.slice e)) (te : Ty c.P e α) (zr : Zr c.P e z) (k : Sq c ops Q rest ((dd, .of r) :: E) L)
    (hf : FillsL c E L (List.replicate n z) ps r := by repeat (first | exact FillsL.nil | refine FillsL.cons (by simp) (look_t rfl) ?_ | refine FillsL.cons (by simp) (look_int _) ?_ | refine FillsL.cons (by simp) (look_bool _) ?_ | refine FillsL.cons (by simp) (look_str _) ?_))
    (hs : Nat.beq (Rp.size α) 0 = false := by rfl) (hn' : Nat.ble (n * Rp.size α) 16777216 = true := by rfl) (hn : Nat.blt dd c.n = true := by rfl) :
    Sq c ops Q (⟨some dd, .buildSlice t n ps.toArray, ty, pos, af, none⟩ :: rest) E L := .v (r_bsl hu te zr hs hn' hf) rfl rfl hn k

/-! ### What is known, and ends -/

/-- what is known of some slots -/
inductive Sb (E : List (Nat × VP)) : List Nat → List (Nat × VP) → Prop
  | nil : Sb E [] []
  | cons {t : Nat} {ts : List Nat} {τ : VP} {E2 : List (Nat × VP)} : look E t = some τ → Sb E ts E2 → Sb E (t :: ts) ((t, τ) :: E2)
theorem Sb.le : ∀ {ts : List Nat} {E1 : List (Nat × VP)}, Sb E ts E1 → Le E E1
  | _, _, .nil => .nil
  | _, _, .cons h k => .same h k.le
theorem Qwl {code : Code} {E1 : List (Nat × VP)} (ts : List Nat) (k : Wp c Q code E1 L) (hE : Sb E ts E1 := by repeat (first | exact Sb.nil | (apply Sb.cons; rfl))) : Wp c Q code E L := .le hE.le k
theorem Qmt {z : Exit} {E' : List (Nat × VP)} {L' : List Ent} (n : Nat) (k : To c Q z E' L') (hL : L.drop n = L' := by rfl) (h : Le E E' := by repeat (first | exact Le.nil | refine Le.same rfl ?_)) : To c Q z E L := .meet n hL h k
theorem Qrd {σ ε γ δ : Type} {E' : σ → γ → List (Nat × VP)} {L' : σ → γ → List Ent} {xs : ε → Exit} {Ex : ε → δ → List (Nat × VP)} {Lx : ε → δ → List Ent} {s : σ} (g : γ) (n : Nat) (hL : L.drop n = L' s g := by rfl)
    (h : Le E (E' s g) := by repeat (first | exact Le.nil | refine Le.same rfl ?_)) : To c (LQG c E' L' xs Ex Lx (.inl s)) .normal E L := .roundG g n hL h
theorem Qlv {σ ε γ δ : Type} {E' : σ → γ → List (Nat × VP)} {L' : σ → γ → List Ent} {xs : ε → Exit} {Ex : ε → δ → List (Nat × VP)} {Lx : ε → δ → List Ent} {e : ε} {z : Exit} (g : δ) (n : Nat) (hx : z = xs e := by rfl) (hn : z ≠ .normal := by simp) (hL : L.drop n = Lx e g := by rfl)
    (h : Le E (Ex e g) := by repeat (first | exact Le.nil | refine Le.same rfl ?_)) : To c (LQG c E' L' xs Ex Lx (.inr e)) z E L := .leaveG g n hx hn hL h
theorem Qe1 {fn : Func} {t : Nat} {τ : VP} (hr : fn.results = #[.tmp t] := by rfl) (h : look E t = some τ := by rfl) (hds : c.ds = [] := by rfl) : To c (bodyPost c.P fn (Post c τ)) .ret E L := .end1 hr (rv_t h) hds
/-! ### Loops and ways that meet -/

def setN : List Ent → List (Nat × Ent) → List Ent
  | L, [] => L
  | L, (i, e) :: r => setN (L.set i e) r
/-- the same list, spelled out -/
inductive NL : List Ent → List Ent → Prop
  | nil : NL [] []
  | cons {e : Ent} {r s : List Ent} : NL r s → NL (e :: r) (e :: s)
theorem NL.eq : ∀ {l m : List Ent}, NL l m → l = m
  | _, _, .nil => rfl
  | _, _, .cons h => by rw [h.eq]
theorem Qlp {σ ε γ δ : Type} {body : Code} {N : Nat} {b : σ → Option (σ ⊕ ε)} {s0 : σ} {e : ε} {E1 : List (Nat × VP)} {L1 : List Ent} (hl : loopM N b s0 = some e) (ts : List Nat) (u : σ → γ → List (Nat × VP)) (ul : σ → γ → List (Nat × Ent)) (xs : ε → Exit)
    (ux : ε → δ → List (Nat × VP)) (ulx : ε → δ → List (Nat × Ent)) (g0 : γ)
    (hbody : ∀ s r, b s = some r → ∀ g, Wp c (LQG c (fun s g => u s g ++ E1) (fun s g => setN L1 (ul s g)) xs (fun e d => ux e d ++ E1) (fun e d => setN L1 (ulx e d)) r) body (u s g ++ E1) (setN L1 (ul s g)))
    (hafter : ∀ g, To c Q (xs e) (ux e g ++ E1) (setN L1 (ulx e g)))
    (hL1 : NL L L1 := by repeat (first | exact NL.nil | apply NL.cons))
    (hE1 : Sb E ts E1 := by repeat (first | exact Sb.nil | (apply Sb.cons; rfl))) (hE : Le E (u s0 g0 ++ E1) := by repeat (first | exact Le.nil | refine Le.same rfl ?_)) (hL : L1 = setN L1 (ul s0 g0) := by rfl) : Wp c Q (.loop body) E L :=
  Wp.loopG hl (fun s g => u s g ++ E1) (fun s g => setN L1 (ul s g)) xs (fun e d => ux e d ++ E1) (fun e d => setN L1 (ulx e d)) g0 (hL1.eq.trans hL) hE hbody hafter
/-! ### Regions that draw their order -/

section
variable {all : List Hk} {w : Nat → Bool}
theorem Hm {τ : VP} {hyp : List Ent → Prop} (hx : ∀ L', Look c E L' x τ := by first | exact fun _ => look_t rfl | exact fun _ => look_int _ | exact fun _ => look_bool _ | exact fun _ => look_str _) : ∀ L', hyp L' → HO c ops E L' ⟨some dd, .move x, ty, pos, af, none⟩ τ := fun L' _ => .v (r_move (hx L')) rfl
theorem H1 {σ τ : VP} {hyp : List Ent → Prop} (h : ∀ {L'}, Look c E L' x σ → HR c E L' o τ) (hg : o.guard = none := by rfl) (hx : ∀ L', Look c E L' x σ := by first | exact fun _ => look_t rfl | exact fun _ => look_int _ | exact fun _ => look_bool _ | exact fun _ => look_str _) :
    ∀ L', hyp L' → HO c ops E L' o τ := fun L' _ => .v (h (hx L')) hg
theorem H2 {σ σ2 τ : VP} {hyp : List Ent → Prop} (h : ∀ {L'}, Look c E L' x σ → Look c E L' y σ2 → HR c E L' o τ) (hg : o.guard = none := by rfl) (hx : ∀ L', Look c E L' x σ := by first | exact fun _ => look_t rfl | exact fun _ => look_int _ | exact fun _ => look_bool _ | exact fun _ => look_str _)
    (hy : ∀ L', Look c E L' y σ2 := by first | exact fun _ => look_t rfl | exact fun _ => look_int _ | exact fun _ => look_bool _ | exact fun _ => look_str _) : ∀ L', hyp L' → HO c ops E L' o τ := fun L' _ => .v (h (hx L') (hy L')) hg
theorem Hix {α : Type} [Rp α] [Inhabited α] {xs : List α} {e : TypeId} {i : Int} {j : Nat} {hyp : List Ent → Prop} (hk : idx xs.length i = some j) (hu : c.P.underlying t = some (.slice e)) (te : Ty c.P e α)
    (hx : ∀ L', Look c E L' x (.of xs) := by exact fun _ => look_t rfl) (hy : ∀ L', Look c E L' y (.of i) := by first | exact fun _ => look_t rfl | exact fun _ => look_int _) :
    ∀ L', hyp L' → HO c ops E L' ⟨some dd, .indexAddr t x y, ty, pos, af, none⟩ (.ptr (lget xs j)) := fun L' _ => .v (r_ias hu te (hx L') (hy L') (idx_some hk)) rfl
theorem Hfp {s f o : Nat} {β γ : Type} [Rp β] [Rp γ] {b : β} {hyp : List Ent → Prop} (l : Lens β γ) (fd : FdA c.P s f o) (hx : ∀ L', Look c E L' x (.ptr b) := by exact fun _ => look_t rfl) (ho : l.off = o := by rfl) :
    ∀ L', hyp L' → HO c ops E L' ⟨some dd, .fieldAddr s x f, ty, pos, af, none⟩ (.ptr (l.get b)) := fun L' _ => .v (r_fap l fd (hx L') ho rfl) rfl
theorem Hn {α : Type} [Rp α] {a b : α} {hyp : List Ent → Prop} (e : some a = some b) (h : ∀ L', hyp L' → HR c E L' o (.of a)) (hg : o.guard = none := by rfl) : ∀ L', hyp L' → HO c ops E L' o (.of b) := fun L' hL => .v ((h L' hL).as (some_in e)) hg
theorem Hg {τ : VP} {j g : Nat} {b want : Bool} {hyp : List Ent → Prop} (h : ∀ L', hyp L' → b = want → HR c E L' o τ) (hg : o.guard = some (j, want) := by rfl) (hj : (ops[j]?).bind (·.dst) = some g := by rfl) (hl : look E g = some (.of b) := by rfl) :
    ∀ L', hyp L' → HO c ops E L' o (.cond (b = want) τ) := fun L' hL => .g (h L' hL) hg hj hl
end

/-- an operation that only yields a value -/
def Hp (s : Nat) (up rd : List Nat) (τ : VP) : Hd := ⟨some s, up, rd, [], fun _ => τ, fun _ _ => ⟨none, .dead⟩⟩
section
variable {hs : List Hd} {i : Nat} {up rd : List Nat}
theorem Dm {τ : VP} (hx : ∀ (hd : Nat → Hid) (E' : List (Nat × VP)) (L' : List Ent), (∀ t τ, look (heD hd hs E up) t = some τ → look E' t = some τ) → Look c E' L' x τ := by first | exact fun _ _ _ hE => look_t (hE _ _ rfl) | exact fun _ _ _ _ => look_int _ | exact fun _ _ _ _ => look_bool _ | exact fun _ _ _ _ => look_str _)
    (hn : Nat.blt dd c.n = true := by rfl) : HeadD c ops Q hs E L i ⟨some dd, .move x, ty, pos, af, none⟩ (Hp dd up rd τ) := hd_v rfl rfl hn fun hd E' L' hE _ => r_move (hx hd E' L' hE)
theorem D1 {σ τ : VP} (h : ∀ {E' L'}, Look c E' L' x σ → HR c E' L' o τ) (hg : o.guard = none := by rfl) (hd : o.dst = some dd := by rfl)
    (hx : ∀ (hd : Nat → Hid) (E' : List (Nat × VP)) (L' : List Ent), (∀ t τ, look (heD hd hs E up) t = some τ → look E' t = some τ) → Look c E' L' x σ := by first | exact fun _ _ _ hE => look_t (hE _ _ rfl) | exact fun _ _ _ _ => look_int _ | exact fun _ _ _ _ => look_bool _ | exact fun _ _ _ _ => look_str _)
    (hn : Nat.blt dd c.n = true := by rfl) : HeadD c ops Q hs E L i o (Hp dd up rd τ) := hd_v hg hd hn fun hd E' L' hE _ => h (hx hd E' L' hE)
theorem D2 {σ σ2 τ : VP} (h : ∀ {E' L'}, Look c E' L' x σ → Look c E' L' y σ2 → HR c E' L' o τ) (hg : o.guard = none := by rfl) (hd : o.dst = some dd := by rfl)
    (hx : ∀ (hd : Nat → Hid) (E' : List (Nat × VP)) (L' : List Ent), (∀ t τ, look (heD hd hs E up) t = some τ → look E' t = some τ) → Look c E' L' x σ := by first | exact fun _ _ _ hE => look_t (hE _ _ rfl) | exact fun _ _ _ _ => look_int _ | exact fun _ _ _ _ => look_bool _ | exact fun _ _ _ _ => look_str _)
    (hy : ∀ (hd : Nat → Hid) (E' : List (Nat × VP)) (L' : List Ent), (∀ t τ, look (heD hd hs E up) t = some τ → look E' t = some τ) → Look c E' L' y σ2 := by first | exact fun _ _ _ hE => look_t (hE _ _ rfl) | exact fun _ _ _ _ => look_int _ | exact fun _ _ _ _ => look_bool _ | exact fun _ _ _ _ => look_str _)
    (hn : Nat.blt dd c.n = true := by rfl) : HeadD c ops Q hs E L i o (Hp dd up rd τ) := hd_v hg hd hn fun hd E' L' hE _ => h (hx hd E' L' hE) (hy hd E' L' hE)
theorem Dv {τ : VP} (h : ∀ (hd : Nat → Hid) (E' : List (Nat × VP)) (L' : List Ent), (∀ t τ, look (heD hd hs E up) t = some τ → look E' t = some τ) → (∀ j e, (Lf (fun _ => true) hd 0 (hs.take i) L)[j]? = some e → rd.contains j = true → L'[j]? = some e) → HR c E' L' o τ)
    (hg : o.guard = none := by rfl) (hd : o.dst = some dd := by rfl) (hn : Nat.blt dd c.n = true := by rfl) : HeadD c ops Q hs E L i o (Hp dd up rd τ) := hd_v hg hd hn h
end
end
end Gv

namespace Gv
open Go
set_option linter.unusedVariables false
set_option linter.unusedSimpArgs false

/-- the very object -/
def CP.is (o : Obj) : CP where
  holds _ _ x := x = o
  nilOk := False
  mono _ h := h
/-- a function's value with what it has captured -/
def VP.clo (f : FuncId) (τs : List VP) : VP where
  holds A W v := ∃ lb : List Value, v = .func (.func f) #[] lb.toArray ∧ HoldsAll A W τs lb
  mono e h := let ⟨lb, h1, h2⟩ := h; ⟨lb, h1, h2.mono e⟩

/-- what a callee may do with entries of the caller's -/
structure Lent (A : List Nat) (W : World) (L : List Ent) : Prop where
  old : ∀ k ∈ A, k < W.heap.size ∧ k ∉ ks L
  nodup : (ks L).Nodup
  lt : ∀ k ∈ ks L, k < W.heap.size
  ok : ∀ e ∈ L, e.ok (ks L ++ A) W

/-- the value u is a yield: called with x it turns s to s' and says 'go on', or leaves with q and says 'no more' -/
def Yld (P : Program) (u : Value) {α σ ε γ : Type} (τ : α → VP) (Ls : σ → γ → List Ent) (Lx : ε → γ → List Ent) (step : α → σ → Option (σ ⊕ ε)) (R : List Nat → World → Prop) : Prop :=
  ∃ l, u = .func (.yield l) #[] #[] ∧ ∀ x s r, step x s = some r → ∀ g A W v, R (ks (Ls s g) ++ A) W → Lent A W (Ls s g) → (τ x).holds (ks (Ls s g) ++ A) W v →
    YieldAt Fence.wide 8 P l #[v] W (match r with
      | .inl s' => PostO (ks (Ls s g)) A W (fun _ : γ => VP.of true) (fun g => Ls s' g)
      | .inr q => PostO (ks (Ls s g)) A W (fun _ : γ => VP.of false) (fun g => Lx q g))

/-- the caller's entries behind a loop -/
def Lr {σ ε γ : Type} (Ls : σ → γ → List Ent) (Lx : ε → γ → List Ent) : σ ⊕ ε → γ → List Ent
  | .inl s, g => Ls s g
  | .inr q, g => Lx q g

/-- the function f is an iterator: called with a yield it does what 'run' says, the entries Lin being lent to it -/
structure MeetsI (P : Program) (f : FuncId) (τs : List VP) (Lin : List Ent) {α : Type} (τ : α → VP) (run : ∀ {σ ε : Type}, (α → σ → Option (σ ⊕ ε)) → σ → Option (σ ⊕ ε)) : Prop where
  go : ∀ {σ ε γ : Type} (Ls : σ → γ → List Ent) (Lx : ε → γ → List Ent) (step : α → σ → Option (σ ⊕ ε)) (s0 : σ) (g0 : γ) (r : σ ⊕ ε), run step s0 = some r →
    ∀ (A : List Nat) (W : World) (u : Value) (vs : List Value), Lent A W (Lin ++ Ls s0 g0) → HoldsAll (ks (Lin ++ Ls s0 g0) ++ A) W τs vs →
      Yld P u τ Ls Lx step (fun A' W' => Ext (ks (Lin ++ Ls s0 g0) ++ A) W A' W') →
      Calls P f (u :: vs).toArray W (PostO (ks (Lin ++ Ls s0 g0)) A W (fun _ : γ => .tup []) (fun g => Lin ++ Lr Ls Lx r g))

theorem MeetsI.of {P : Program} {f : FuncId} {fn : Func} {code : Code} {n : Nat} {τs : List VP} {Lin : List Ent} {α : Type} {τ : α → VP} {run : ∀ {σ ε : Type}, (α → σ → Option (σ ⊕ ε)) → σ → Option (σ ⊕ ε)}
    (hf : P.funcs[f]? = some fn) (hb : fn.body = some code) (hn : fn.ntmps = n) (hlen : Nat.ble (τs.length + 1) n = true)
    (h : ∀ {σ ε γ : Type} (Ls : σ → γ → List Ent) (Lx : ε → γ → List Ent) (step : α → σ → Option (σ ⊕ ε)) (s0 : σ) (g0 : γ) (r : σ ⊕ ε), run step s0 = some r →
      ∀ W A u, Yld P u τ Ls Lx step (fun A' W' => Ext (ks (Lin ++ Ls s0 g0) ++ A) W A' W') →
        Wp ⟨P, n, W, ks (Lin ++ Ls s0 g0), A, none, []⟩ (bodyPost P fn (PostO (ks (Lin ++ Ls s0 g0)) A W (fun _ : γ => .tup []) (fun g => Lin ++ Lr Ls Lx r g))) code (params 0 (.eq u :: τs)) (Lin ++ Ls s0 g0)) : MeetsI P f τs Lin τ run := by
  refine ⟨?_⟩
  intro σ ε γ Ls Lx step s0 g0 r hr A W u vs hl hv hy
  refine calls_of_wp hf hb (wpIn_wide.1 (h Ls Lx step s0 g0 r hr W A u hy _ _ ?_))
  have hv' : HoldsAll (ks (Lin ++ Ls s0 g0) ++ A) W (.eq u :: τs) (u :: vs) := .cons rfl hv
  have hl' := hv'.length
  have hle : τs.length + 1 ≤ n := Nat.le_of_ble_eq_true hlen
  exact
  { defers := rfl
    size := by simp at hl'; simp [hn, hl']; omega
    env := fun t τ hlk => by
      obtain ⟨_, v, h2, h3⟩ := look_params hv' 0 t τ hlk
      refine ⟨v, ?_, h3⟩
      have hlt : t < (u :: vs).length := (List.getElem?_eq_some_iff.1 h2).1
      rw [Array.getElem?_append_left (by simpa using hlt)]
      simpa using h2
    fr := .refl _ _
    own := hl.ok
    nodup := hl.nodup
    lt := hl.lt
    mine := fun k hk _ => hk
    old := hl.old }

section
variable {c : Cx} {E : List (Nat × VP)} {L : List Ent} {ops : Array Oper} {Q : Exit → Act → World → Prop}
variable {d : Option Tmp} {ty : TypeId} {pos : String} {af : Array Edge} {g : Option (Nat × Bool)} {x y : Operand} {t t2 : TypeId}

theorem St.sofar {a : Act} {W : World} (s : St c E L a W) : Ext (c.X ++ c.A0) c.W0 (ks L ++ c.A0) W :=
  ⟨s.fr.size, fun k hk ha => s.fr.block k hk fun hx => ha (List.mem_append.2 (.inl hx)), fun k hm hlt => by
    rcases List.mem_append.1 hm with hm | hm
    · exact List.mem_append.2 (.inl (s.mine k hm hlt))
    · exact List.mem_append.2 (.inr hm)⟩

theorem St.lent {a : Act} {W : World} {Lin Lr : List Ent} (s : St c E (Lin ++ Lr) a W) : Lent (ks Lr ++ c.A0) W Lin := by
  have hnd0 := s.nodup
  rw [ks_append] at hnd0
  obtain ⟨hn1, hn2, hn3⟩ := List.nodup_append.1 hnd0
  exact
  { old := fun k hm => by
      rcases List.mem_append.1 hm with hm | hm
      · exact ⟨s.lt k (by rw [ks_append]; exact List.mem_append.2 (.inr hm)), fun h => hn3 k h k hm rfl⟩
      · obtain ⟨h1, h2⟩ := s.old k hm
        exact ⟨h1, fun h => h2 (by rw [ks_append]; exact List.mem_append.2 (.inl h))⟩
    nodup := hn1
    lt := fun k hm => s.lt k (by rw [ks_append]; exact List.mem_append.2 (.inl hm))
    ok := fun e he => Ent.ok_mono (s.own e (List.mem_append.2 (.inl he))) (.drop fun k hm => by
      rw [ks_append]
      simp only [List.mem_append] at hm ⊢
      rcases hm with hm | hm | hm
      · exact .inl (.inl hm)
      · exact .inl (.inr hm)
      · exact .inr hm) fun _ _ => rfl }

theorem ks_swap {Lin Lr : List Ent} {A : List Nat} {W : World} : Ext (ks (Lin ++ Lr) ++ A) W (ks Lin ++ (ks Lr ++ A)) W := .drop fun k hm => by
  rw [ks_append]
  simp only [List.mem_append] at hm ⊢
  rcases hm with hm | hm | hm
  · exact .inl (.inl hm)
  · exact .inl (.inr hm)
  · exact .inr hm
theorem ks_swap' {Lin Lr : List Ent} {A : List Nat} {W : World} : Ext (ks Lin ++ (ks Lr ++ A)) W (ks (Lin ++ Lr) ++ A) W := .drop fun k hm => by
  rw [ks_append] at hm
  simp only [List.mem_append] at hm ⊢
  rcases hm with (hm | hm) | hm
  · exact .inl hm
  · exact .inr (.inl hm)
  · exact .inr (.inr hm)

/-- a round is asked for: yield is called -/
theorem Sq.yield {rest : List Oper} {dd tf : Nat} {ats : Array TypeId} {u : Value} {α σ ε γ : Type} {τ : α → VP} {Ls : σ → γ → List Ent} {Lx : ε → γ → List Ent} {step : α → σ → Option (σ ⊕ ε)} {Lin : List Ent} {x : Operand} {v : α} {s : σ} {gg : γ} {r : σ ⊕ ε}
    (hc : c.rd = none) (hy : Yld c.P u τ Ls Lx step (fun A' W' => Ext (c.X ++ c.A0) c.W0 A' W')) (hf : look E tf = some (.eq u)) (hx : Look c E (Lin ++ Ls s gg) x (τ v)) (hr : step v s = some r) (hn : Nat.blt dd c.n = true)
    (k1 : ∀ s', r = .inl s' → ∀ g', Sq c ops Q rest ((dd, .of true) :: E) (Lin ++ Ls s' g')) (k2 : ∀ q, r = .inr q → ∀ g', Sq c ops Q rest ((dd, .of false) :: E) (Lin ++ Lx q g')) :
    Sq c ops Q (⟨some dd, .call ⟨.value (.tmp tf), #[x], ats⟩, ty, pos, af, none⟩ :: rest) E (Lin ++ Ls s gg) := fun a W st => by
  obtain ⟨l, rfl, hy⟩ := hy
  obtain ⟨uf, h1, h2⟩ := st.env tf _ hf
  have hu : uf = .func (.yield l) #[] #[] := h2
  subst hu
  have st' : St c E (Ls s gg ++ Lin) a W := st.perm List.perm_append_comm
  have hv := hx a W st
  have hv' : (τ v).holds (ks (Ls s gg) ++ (ks Lin ++ c.A0)) W (a.eval x) := (τ v).mono (.drop fun k hm => by
    rw [ks_append]
    simp only [List.mem_append] at hm ⊢
    rcases hm with hm | hm | hm
    · exact .inl (.inr hm)
    · exact .inl (.inl hm)
    · exact .inr hm) hv
  obtain ⟨fn, tmps, assign, body, hrun, hR⟩ := hy v s r hr gg (ks Lin ++ c.A0) W (a.eval x) (st'.sofar.trans ks_swap) st'.lent hv'
  have hrun' : (execOp a.eval ⟨some dd, .call ⟨.value (.tmp tf), #[x], ats⟩, ty, pos, af, none⟩).run c.P W = .ok (.round l fn tmps assign body) W := by
    rw [← hrun]
    simp [execOp, resolve, Deferred.ofValue, Act.eval, h1, invoke, Sem.run_bind, Sem.run_pure, Result.andThen]
  refine wpListIn_plain rfl fun K hK => ?_
  refine ⟨fun _ _ => trivial, ?_⟩
  rw [Oper.semAt_eq _ _ _ (fun _ h => by cases h), hrun', Oper.uponIn_round]
  refine ⟨fun h => by simp at h, ?_⟩
  have hR' : RoundIn c.F (9 - 1) c.P l fn tmps assign body W _ := hR
  refine hR'.mono fun e W' he => ?_
  cases r with
  | inl s' =>
    obtain ⟨w, g', rfl, hf', h3, h4, h5, h6⟩ := he
    obtain rfl := of_bool.1 h6
    refine hK _ _ (k1 s' rfl g' _ _ ?_)
    exact (((st'.after hf' h3 h4 h5).perm List.perm_append_comm).put (by simpa using hn) (of_bool.2 rfl))
  | inr q =>
    obtain ⟨w, g', rfl, hf', h3, h4, h5, h6⟩ := he
    obtain rfl := of_bool.1 h6
    refine hK _ _ (k2 q rfl g' _ _ ?_)
    exact (((st'.after hf' h3 h4 h5).perm List.perm_append_comm).put (by simpa using hn) (of_bool.2 rfl))

theorem Sq.eqL {l : List Oper} {L2 : List Ent} (h : L = L2) (k : Sq c ops Q l E L2) : Sq c ops Q l E L := by subst h; exact k

theorem Sq.cases {l : List Oper} (b : Bool) (h1 : b = true → Sq c ops Q l E L) (h2 : b = false → Sq c ops Q l E L) : Sq c ops Q l E L := by
  cases b
  · exact h2 rfl
  · exact h1 rfl
/-! ### The loop over an iterator -/

/-- what an iterator does, for these entries of the caller's -/
def GoI (P : Program) (f : FuncId) (τs : List VP) (Lin : List Ent) {α σ ε γ : Type} (τ : α → VP) (run : (α → σ → Option (σ ⊕ ε)) → σ → Option (σ ⊕ ε)) (Ls : σ → γ → List Ent) (Lx : ε → γ → List Ent) : Prop :=
  ∀ (step : α → σ → Option (σ ⊕ ε)) (s0 : σ) (g0 : γ) (r : σ ⊕ ε), run step s0 = some r →
    ∀ (A : List Nat) (W : World) (u : Value) (vs : List Value), Lent A W (Lin ++ Ls s0 g0) → HoldsAll (ks (Lin ++ Ls s0 g0) ++ A) W τs vs →
      Yld P u τ Ls Lx step (fun A' W' => Ext (ks (Lin ++ Ls s0 g0) ++ A) W A' W') →
      Calls P f (u :: vs).toArray W (PostO (ks (Lin ++ Ls s0 g0)) A W (fun _ : γ => .tup []) (fun g => Lin ++ Lr Ls Lx r g))

/-! ### The end of a function that holds such loops -/

theorem To.endn {P : Program} {fn : Func} {R : Ending → World → Prop} (k : To c (bodyPost P fn R) .ret E L) : To c (bodyPost P fn R) .normal E L := fun a W s => k a W s

end

theorem Meets.enterM {P : Program} {f : FuncId} {fn : Func} {code : Code} {n : Nat} {τs : List VP} {ρ : VP} (hf : P.funcs[f]? = some fn) (hb : fn.body = some code) (hn : fn.ntmps = n) (hlen : Nat.ble τs.length n = true)
    (h : ∀ W A, Wp ⟨P, n, W, [], A, none, []⟩ (bodyPostM Fence.wide 9 P fn fun e W' => ∃ v, e = .returned v ∧ Fr [] W W' ∧ ρ.holds A W' v) code (params 0 τs) []) : Meets P f τs ρ := by
  intro A W vs hA hv
  refine (callsIn_wide (n := 9)).1 (callsIn_of_wp_marks hf hb trivial (h W A _ _ ?_))
  have hl := hv.length
  have hle : τs.length ≤ n := Nat.le_of_ble_eq_true hlen
  exact
  { defers := rfl
    size := by simp [hn, hl]; omega
    env := fun t τ hl' => by
      obtain ⟨_, v, h2, h3⟩ := look_params hv 0 t τ hl'
      refine ⟨v, ?_, h3⟩
      have hlt : t < vs.length := (List.getElem?_eq_some_iff.1 h2).1
      rw [Array.getElem?_append_left (by simpa using hlt)]
      simpa using h2
    fr := .refl _ _
    own := by simp
    nodup := by simp [ks]
    lt := by simp [ks]
    mine := by simp [ks]
    old := fun k hk => ⟨hA k hk, by simp [ks]⟩ }

theorem Meets.ofM {P : Program} {f : FuncId} {fn : Func} {code : Code} {n : Nat} {τs : List VP} {ρ : VP} (hf : P.funcs[f]? = some fn) (hb : fn.body = some code) (hn : fn.ntmps = n) (hlen : Nat.ble τs.length n = true)
    (h : ∀ W A, Wp ⟨P, n, W, [], A, none, []⟩ (bodyPostM Fence.wide 9 P fn (Post ⟨P, n, W, [], A, none, []⟩ ρ)) code (params 0 τs) []) : Meets P f τs ρ := Meets.enterM hf hb hn hlen h

theorem MeetsO.ofM {P : Program} {f : FuncId} {fn : Func} {code : Code} {n : Nat} {τs : List VP} {Lin : List Ent} {δ : Type} {ρ : δ → VP} {Lo : δ → List Ent} (hf : P.funcs[f]? = some fn) (hb : fn.body = some code) (hn : fn.ntmps = n) (hlen : Nat.ble τs.length n = true)
    (h : ∀ W A, Wp ⟨P, n, W, ks Lin, A, none, []⟩ (bodyPostM Fence.wide 9 P fn (PostO (ks Lin) A W ρ Lo)) code (params 0 τs) Lin) : MeetsO P f τs Lin ρ Lo := by
  intro A W vs hA hnd hlt hok hv
  refine (callsIn_wide (n := 9)).1 (callsIn_of_wp_marks hf hb trivial (h W A _ _ ?_))
  have hl := hv.length
  have hle : τs.length ≤ n := Nat.le_of_ble_eq_true hlen
  exact
  { defers := rfl
    size := by simp [hn, hl]; omega
    env := fun t τ hl' => by
      obtain ⟨_, v, h2, h3⟩ := look_params hv 0 t τ hl'
      refine ⟨v, ?_, h3⟩
      have hlt : t < vs.length := (List.getElem?_eq_some_iff.1 h2).1
      rw [Array.getElem?_append_left (by simpa using hlt)]
      simpa using h2
    fr := .refl _ _
    own := hok
    nodup := hnd
    lt := hlt
    mine := fun k hk _ => hk
    old := hA }
end Gv

namespace Gv
open Go
set_option linter.unusedVariables false
set_option linter.unusedSimpArgs false

section
variable {c : Cx} {E : List (Nat × VP)} {L : List Ent} {ops : Array Oper} {Q : Exit → Act → World → Prop}
variable {d : Option Tmp} {ty : TypeId} {pos : String} {af : Array Edge} {g : Option (Nat × Bool)} {x y : Operand} {t t2 : TypeId}

/-! ### Lending: steps ahead of one operation -/

/- an own variable -/
/-! ### Pointers: nil or not, boxed -/

theorem Wp.bring {code : Code} (i : Nat) {e : Ent} (h : L[i]? = Option.some e) (k : Wp c Q code E (e :: L.eraseIdx i)) : Wp c Q code E L := fun a W s => k a W (s.bring h)
/-! ### Operations that leave the own blocks as they are, though they may be at work in them -/

def HS (c : Cx) (E : List (Nat × VP)) (L : List Ent) (o : Oper) (τ : VP) : Prop :=
  ∀ a W, St c E L a W → OpTo c.P o a W fun v W' => St c E L a W' ∧ τ.holds (ks L ++ c.A0) W' v

theorem Sq.vS {o : Oper} {rest : List Oper} {d : Nat} {τ : VP} (h : HS c E L o τ) (hg : o.guard = none) (hd : o.dst = some d) (hn : Nat.blt d c.n = true)
    (k : Sq c ops Q rest ((d, τ) :: E) L) : Sq c ops Q (o :: rest) E L := fun a W s =>
  wpList_op hg (h a W s) fun v W' ⟨f, hv⟩ => by
    rw [hd]
    exact k _ _ (f.put (by simpa using hn) hv)
def Pick (L : List Ent) : List Nat → List Ent → Prop
  | [], [] => True
  | i :: is, e :: es => L[i]? = some e ∧ Pick L is es
  | _, _ => False
theorem eraseIdx_get {L : List Ent} {i j : Nat} (h : i ≠ j) : (L.eraseIdx i)[if j < i then j else j - 1]? = L[j]? := by
  rw [List.getElem?_eraseIdx]
  by_cases h1 : j < i
  · simp [h1]
  · have : ¬ (j - 1 < i) := by omega
    simp only [h1, if_false, this]
    congr 1; omega
theorem Pick.shift {L : List Ent} {i : Nat} : ∀ {is : List Nat} {es : List Ent}, Pick L is es → i ∉ is → Pick (L.eraseIdx i) (is.map fun j => if j < i then j else j - 1) es
  | [], [], _, _ => trivial
  | j :: is, e :: es, ⟨h1, h2⟩, hn => by
    simp only [List.mem_cons, not_or] at hn
    exact ⟨by rw [eraseIdx_get hn.1]; exact h1, Pick.shift h2 hn.2⟩
theorem nodup_shift {i : Nat} : ∀ {is : List Nat}, is.Nodup → i ∉ is → (is.map fun j => if j < i then j else j - 1).Nodup
  | [], _, _ => by simp
  | j :: is, h, hn => by
    simp only [List.mem_cons, not_or] at hn
    obtain ⟨h1, h2⟩ := List.nodup_cons.1 h
    refine List.nodup_cons.2 ⟨fun hm => ?_, nodup_shift h2 hn.2⟩
    obtain ⟨k, hk, he⟩ := List.mem_map.1 hm
    have hki : k ≠ i := fun e => hn.2 (e ▸ hk)
    have hkj : k ≠ j := fun e => h1 (e ▸ hk)
    have hji : j ≠ i := fun e => hn.1 e.symm
    have he' : (if k < i then k else k - 1) = (if j < i then j else j - 1) := he
    split at he' <;> split at he' <;> omega
theorem Pick.perm : ∀ {is : List Nat} {es L : List Ent}, Pick L is es → is.Nodup → ∃ R, L.Perm (es ++ R)
  | [], [], L, _, _ => ⟨L, List.Perm.refl _⟩
  | i :: is, e :: es, L, ⟨h1, h2⟩, hn => by
    obtain ⟨hn1, hn2⟩ := List.nodup_cons.1 hn
    obtain ⟨R, hR⟩ := (h2.shift hn1).perm (nodup_shift hn2 hn1)
    exact ⟨R, (bring_perm h1).trans (hR.cons e)⟩
  termination_by is => is.length
  decreasing_by simp

theorem HS.call {f : FuncId} {xs : List Operand} {ats : Array TypeId} {τs : List VP} {Lin : List Ent} {ρ : Unit → VP} {Lo : Unit → List Ent} (is : List Nat) (en : En c.P f) (h : MeetsO c.P f τs Lin ρ Lo)
    (hx : Looks c E L xs τs) (hn : decide is.Nodup = true) (hp : Pick L is Lin) (hl : Lo () = Lin) : HS c E L ⟨d, .call ⟨.value (.func f), xs.toArray, ats⟩, ty, pos, af, g⟩ (ρ ()) := fun a W s => by
  obtain ⟨R, hR⟩ := hp.perm (of_decide_eq_true hn)
  have s' := s.perm hR
  have hkp := ks_perm hR
  have hAs : ∀ k, k ∈ ks L ++ c.A0 ↔ k ∈ ks (Lin ++ R) ++ c.A0 := fun k => by
    simp only [List.mem_append]; rw [hkp.mem_iff]
  have hh : HoldsAll (ks (Lin ++ R) ++ c.A0) W τs (xs.map a.eval) := (hx.holdsO s).mono (.drop fun k hm => (hAs k).2 hm)
  have ho := opto_callO (d := d) (ty := ty) (pos := pos) (af := af) (g := g) (ats := ats) en h s' hh
  unfold OpTo at ho ⊢
  refine Oper.wp_mono (fun a' W' ⟨v, h1, dd, h2, h3⟩ => ⟨v, h1, ?_, ?_⟩) ho
  · cases dd; rw [hl] at h2; exact h2.perm hR.symm
  · cases dd
    rw [hl] at h3
    exact VP.mono _ (.drop fun k hm => (hAs k).1 hm) h3

theorem Pick.set {L : List Ent} {i j : Nat} {x y e1 e2 : Ent} (hij : i ≠ j) (hi : L[i]? = some e1) (hj : L[j]? = some e2) : ∃ R, L.Perm (e1 :: e2 :: R) ∧ ((L.set i x).set j y).Perm (x :: y :: R) := by
  have hpi : Pick L [i, j] [e1, e2] := ⟨hi, hj, trivial⟩
  have hle : ∀ M : List Ent, ∀ u v : Ent, M[i]? = some u → M[j]? = some v → M.Perm (u :: v :: (M.eraseIdx i).eraseIdx (if j < i then j else j - 1)) := fun M u v h1 h2 =>
    (bring_perm h1).trans ((bring_perm (by rw [eraseIdx_get hij]; exact h2)).cons u)
  refine ⟨_, hle L e1 e2 hi hj, ?_⟩
  have hi' := (List.getElem?_eq_some_iff.1 hi).1
  have hj' := (List.getElem?_eq_some_iff.1 hj).1
  have h1 := hle ((L.set i x).set j y) x y (by rw [List.getElem?_set_ne (Ne.symm hij), List.getElem?_set_self hi']) (by rw [List.getElem?_set_self (by simpa using hj')])
  have h2 : ((L.set i x).set j y).eraseIdx i = (L.eraseIdx i).set (if j < i then j else j - 1) y := by
    apply List.ext_getElem?
    intro k
    simp only [List.getElem?_eraseIdx, List.getElem?_set, List.length_set, List.length_eraseIdx, hi', if_true]
    by_cases hk : k < i <;> by_cases hji : j < i <;> simp only [hk, hji, if_true, if_false] <;> (repeat' split) <;> first | rfl | omega | skip
  rw [h2, List.eraseIdx_set_eq] at h1
  exact h1

/- two own blocks go in, one comes out; the other is gone -/
/-! ### slices.Delete -/

theorem To.again {z : Exit} {key : Option Nat} {cp : CP} (cp' : CP) (i : Nat) (hL : L[i]? = some ⟨key, cp⟩) (h : ∀ A W o, cp.holds A W o → cp'.holds A W o) (hn : cp.nilOk → cp'.nilOk) (k : To c Q z E (L.set i ⟨key, cp'⟩)) : To c Q z E L := fun a W s =>
  k a W (s.again hL h hn)
end

end Gv

namespace Gv
open Go
set_option linter.unusedVariables false
set_option linter.unusedSimpArgs false

/-! ### Programs that make new blocks -/

/-- what must hold of the result -/
abbrev Wm (α : Type) := (α → Prop) → Prop
def Wm.of {α : Type} (o : Option α) : Wm α := fun Q => ∃ r, o = some r ∧ Q r
def Wm.bind {α β : Type} (m : Wm α) (k : α → Wm β) : Wm β := fun Q => m fun r => k r Q
def Wm.ret {α : Type} (x : α) : Wm α := fun Q => Q x
/-! ### Pools -/

abbrev Pool (κ : Type) := List (Nat × κ)
/-- a pointer into a pool; none: nil -/
abbrev Ref := Option Nat
instance instRpRef : Rp Ref := .scalar (fun x => Value.pointer (x.map fun p => ⟨p, 0, none⟩)) fun _ => rfl
theorem of_ref {A W v} {x : Ref} : (VP.of x).holds A W v ↔ v = .pointer (x.map fun p => ⟨p, 0, none⟩) :=
  ⟨fun h => toList_one h.1 h.2, fun h => by subst h; exact ⟨rfl, rfl⟩⟩

instance : Zc Ref := ⟨[.pointer none], fun _ _ => rfl⟩
/-- a new block: its number, and the pool with it -/
def Wm.mk {κ : Type} (hp : Pool κ) (k : κ) : Wm (Nat × Pool κ) := fun Q => ∀ a : Nat × Pool κ, a.1 ∉ hp.map (·.1) ∧ a.2 = (a.1, k) :: hp → Q a
/-- how contents lie in blocks -/
class Cl (κ : Type) where
  ents : Nat → κ → List Ent
  root : ∀ p k, ∃ e ∈ ents p k, e.key = some p

def Ents {κ : Type} [Cl κ] : Pool κ → List Ent
  | [] => []
  | (p, k) :: r => Cl.ents p k ++ Ents r
def pat {κ : Type} : Pool κ → Nat → Option κ
  | [], _ => none
  | (q, k) :: r, p => if q = p then some k else pat r p
def pup {κ : Type} : Pool κ → Nat → κ → Pool κ
  | [], _, _ => []
  | (q, k) :: r, p, k' => if q = p then (q, k') :: r else (q, k) :: pup r p k'
def pks {κ : Type} (hp : Pool κ) : List Nat := hp.map (·.1)

theorem pool_open {κ : Type} [Cl κ] : ∀ {hp : Pool κ} {p : Nat} {k : κ}, pat hp p = some k → ∃ R, (Ents hp).Perm (Cl.ents p k ++ R) ∧ ∀ k', (Ents (pup hp p k')).Perm (Cl.ents p k' ++ R)
  | [], _, _, h => by simp [pat] at h
  | (q, k0) :: r, p, k, h => by
    simp only [pat] at h
    split at h
    · rename_i e
      subst e
      simp only [Option.some.injEq] at h
      subst h
      exact ⟨Ents r, .refl _, fun k' => by simp only [pup, if_pos]; exact .refl _⟩
    · rename_i e
      obtain ⟨R, h1, h2⟩ := pool_open h
      refine ⟨Cl.ents q k0 ++ R, ?_, fun k' => ?_⟩
      · exact (h1.append_left (Cl.ents q k0)).trans (by rw [← List.append_assoc, ← List.append_assoc]; exact List.perm_append_comm.append_right R)
      · simp only [pup, if_neg e]
        exact ((h2 k').append_left (Cl.ents q k0)).trans (by rw [← List.append_assoc, ← List.append_assoc]; exact List.perm_append_comm.append_right R)

theorem pks_ks {κ : Type} [Cl κ] {hp : Pool κ} {p : Nat} (h : p ∈ pks hp) : p ∈ ks (Ents hp) := by
  induction hp with
  | nil => simp [pks] at h
  | cons x r ih =>
    obtain ⟨q, k⟩ := x
    simp only [pks, List.map_cons, List.mem_cons] at h
    simp only [Ents, ks_append, List.mem_append]
    rcases h with h | h
    · subst h
      obtain ⟨e, he, hk⟩ := Cl.root p k
      exact .inl (mem_ks.2 ⟨e, he, hk⟩)
    · exact .inr (ih h)
section
variable {c : Cx} {E : List (Nat × VP)} {L : List Ent} {ops : Array Oper} {Q : Exit → Act → World → Prop}
variable {d : Option Tmp} {ty : TypeId} {pos : String} {af : Array Edge} {g : Option (Nat × Bool)} {x y : Operand} {t t2 : TypeId}

theorem mem_perm {L L' : List Ent} (p : L.Perm L') {A : List Nat} (k : Nat) : k ∈ ks L ++ A ↔ k ∈ ks L' ++ A := by
  simp only [List.mem_append]; rw [(ks_perm p).mem_iff]
theorem perm_ext {L L' : List Ent} (p : L.Perm L') {A : List Nat} {W : World} : Ext (ks L ++ A) W (ks L' ++ A) W := .drop fun k hm => (mem_perm p k).2 hm

theorem Look.perm {L' : List Ent} {x : Operand} {τ : VP} (p : L.Perm L') (h : Look c E L x τ) : Look c E L' x τ := fun a W s =>
  τ.mono (perm_ext p) (h a W (s.perm p.symm))
theorem HR.perm {L' : List Ent} {o : Oper} {τ : VP} (p : L.Perm L') (h : HR c E L o τ) : HR c E L' o τ := fun a W s => by
  have := h a W (s.perm p.symm)
  unfold OpTo at this ⊢
  exact Oper.wp_mono (fun a' W' ⟨v, h1, h2, h3⟩ => ⟨v, h1, h2, τ.mono (perm_ext p) h3⟩) this
theorem Sq.perm {l : List Oper} {L' : List Ent} (p : L.Perm L') (h : Sq c ops Q l E L) : Sq c ops Q l E L' := fun a W s => h a W (s.perm p.symm)

/-- a pointer that is not nil -/
theorem look_ref {x : Operand} {r : Ref} {p : Nat} (hx : Look c E L x (.of r)) (h : r = some p) : Look c E L x (.eq (.pointer (some ⟨p, 0, none⟩))) := fun a W s => by
  subst h
  exact of_ref.1 (hx a W s)
variable {κ : Type} [Cl κ] {hp : Pool κ} {loc : List Ent}

theorem pmem {p n : Nat} {k : κ} {e : Ent} (hL : L.drop n = Ents hp) (h : pat hp p = some k) (hk : Cl.ents p k = [e]) : e ∈ L := by
  obtain ⟨R, h1, _⟩ := pool_open h
  rw [hk] at h1
  have : e ∈ L.drop n := by rw [hL]; exact h1.mem_iff.2 (by simp)
  exact List.mem_of_mem_drop this
theorem dmem {L' : List Ent} {e : Ent} (hL : ∀ (i : Nat) (e : Ent), L[i]? = some e → L'[i]? = some e) (h : e ∈ L) : e ∈ L' := by
  obtain ⟨i, hi⟩ := List.mem_iff_getElem?.1 h
  exact List.mem_of_getElem? (hL i e hi)

theorem r_loadM {x : Operand} {t : TypeId} {p o : Nat} {β γ : Type} [Rp β] [Rp γ] {b : β} (l : Lens β γ) {r : γ} (tt : Ty c.P t γ) (hx : Look c E L x (.eq (.pointer (some ⟨p, o, none⟩))))
    (hm : (⟨some p, .var b⟩ : Ent) ∈ L) (ho : o = l.off) (hr : l.get b = r) : HR c E L ⟨d, .load t x, ty, pos, af, g⟩ (.of r) := by
  obtain ⟨i, hi⟩ := List.mem_iff_getElem?.1 hm
  exact r_load (i := i) l tt hx hi ho hr

theorem St.fresh {a : Act} {W : World} (s : St c E (loc ++ Ents hp) a W) : W.heap.size ∉ pks hp := fun h => by
  have := s.lt _ (by rw [ks_append]; exact List.mem_append.2 (.inr (pks_ks h)))
  omega

/-! ### Calls with a pool -/

theorem lin_perm {A B C : List Ent} : ((A ++ B) ++ C).Perm ((A ++ C) ++ B) := by
  rw [List.append_assoc, List.append_assoc]; exact List.perm_append_comm.append_left A

theorem Sq.callQ {rest : List Oper} {dd : Nat} {f : FuncId} {xs : List Operand} {ats : Array TypeId} {τs : List VP} {Lin Lr : List Ent} {δ : Type} {ρ : δ → VP} {Lo : δ → List Ent} {hq : δ → Pool κ} (en : En c.P f) (h : MeetsO c.P f τs (Lin ++ Ents hp) ρ (fun d => Lo d ++ Ents (hq d)))
    (hx : Looks c E ((Lin ++ Lr) ++ Ents hp) xs τs) (hn : Nat.blt dd c.n = true) (k : ∀ q, Sq c ops Q rest ((dd, ρ q) :: E) ((Lo q ++ Lr) ++ Ents (hq q))) :
    Sq c ops Q (⟨some dd, .call ⟨.value (.func f), xs.toArray, ats⟩, ty, pos, af, none⟩ :: rest) E ((Lin ++ Lr) ++ Ents hp) := fun a W s =>
  wpList_op rfl (opto_callO (Lr := Lr) en h (s.perm lin_perm) ((hx.holds a W s).mono (perm_ext lin_perm))) fun v W' ⟨q, s', hv⟩ =>
    k q _ _ ((s'.perm lin_perm).put (by simpa using hn) ((ρ q).mono (perm_ext lin_perm) hv))
theorem Sq.callP {rest : List Oper} {dd : Nat} {f : FuncId} {xs : List Operand} {ats : Array TypeId} {τs : List VP} {Lin Lr : List Ent} {δ : Type} {ρ : δ → VP} {Lo : δ → List Ent} {hq : δ → Pool κ} (n m : Nat) (hL : L.drop n = Ents hp) (en : En c.P f) (h : MeetsO c.P f τs (Lin ++ Ents hp) ρ (fun d => Lo d ++ Ents (hq d)))
    (h1 : (L.take n).take m = Lin) (h2 : (L.take n).drop m = Lr) (hx : Looks c E L xs τs) (hn : Nat.blt dd c.n = true) (k : ∀ q, Sq c ops Q rest ((dd, ρ q) :: E) ((Lo q ++ Lr) ++ Ents (hq q))) :
    Sq c ops Q (⟨some dd, .call ⟨.value (.func f), xs.toArray, ats⟩, ty, pos, af, none⟩ :: rest) E L := by
  have e : L = (Lin ++ Lr) ++ Ents hp := by rw [← h1, ← h2, List.take_append_drop, ← hL, List.take_append_drop]
  clear hL h1 h2
  subst e
  exact Sq.callQ en h hx hn k
/-- a call that leaves the pool as it is -/
theorem HS.callQ0 {f : FuncId} {xs : List Operand} {ats : Array TypeId} {τs : List VP} {ρ : VP} (en : En c.P f) (h : MeetsO c.P f τs (Ents hp) (fun _ : Unit => ρ) (fun _ => Ents hp))
    (hx : Looks c E (loc ++ Ents hp) xs τs) : HS c E (loc ++ Ents hp) ⟨d, .call ⟨.value (.func f), xs.toArray, ats⟩, ty, pos, af, g⟩ ρ := fun a W s => by
  have hP : (loc ++ Ents hp).Perm (Ents hp ++ loc) := List.perm_append_comm
  have ho := opto_callO (d := d) (ty := ty) (pos := pos) (af := af) (g := g) (ats := ats) (Lr := loc) en h (s.perm hP) ((hx.holds a W s).mono (perm_ext hP))
  unfold OpTo at ho ⊢
  exact Oper.wp_mono (fun a' W' ⟨v, h1, _, h2, h3⟩ => ⟨v, h1, h2.perm hP.symm, ρ.mono (perm_ext hP.symm) h3⟩) ho
theorem HS.callQ {f : FuncId} {xs : List Operand} {ats : Array TypeId} {τs : List VP} {ρ : VP} (n : Nat) (hL : L.drop n = Ents hp) (en : En c.P f) (h : MeetsO c.P f τs (Ents hp) (fun _ : Unit => ρ) (fun _ => Ents hp)) (hx : Looks c E L xs τs) : HS c E L ⟨d, .call ⟨.value (.func f), xs.toArray, ats⟩, ty, pos, af, g⟩ ρ := by
  have e : L = L.take n ++ Ents hp := by rw [← hL, List.take_append_drop]
  clear hL
  generalize L.take n = loc at *
  subst e
  exact HS.callQ0 en h hx


/-! ### Tests of pointers -/

theorem run_eq_refnil {P : Program} {e : TypeId} (W : World) (n : Nat) {t : TypeId} (a : Option Addr) (h : P.underlying t = some (.pointer e)) : (Op.equalIn (n + 1) t (.pointer a) (.pointer none)).run P W = .ok a.isNone W := by
  cases a <;> simp [Op.equalIn, run_underlying h]
theorem r_refnil {r : Ref} {e : TypeId} (hu : c.P.underlying t = some (.pointer e)) (hx : Look c E L x (.of r)) : HR c E L ⟨d, .binOp .eql t x (.const (.pointer none)) t2, ty, pos, af, g⟩ (.of r.isNone) := .pure fun a W s => by
  have h1 := of_ref.1 (hx a W s)
  refine ⟨.bool r.isNone, ?_, of_bool.2 rfl⟩
  have hn : a.eval (.const (.pointer none)) = .pointer none := rfl
  simp only [execOp, eqGuard, binOp, h1, hn, Op.equal, Op.maxDepth]
  have := run_eq_refnil (P := c.P) W 9999 (r.map fun p => ⟨p, 0, none⟩) hu
  simp only [Option.isNone_map] at this
  simp [this]
theorem r_refnnil {r : Ref} {e : TypeId} (hu : c.P.underlying t = some (.pointer e)) (hx : Look c E L x (.of r)) : HR c E L ⟨d, .binOp .neq t x (.const (.pointer none)) t2, ty, pos, af, g⟩ (.of r.isSome) := .pure fun a W s => by
  have h1 := of_ref.1 (hx a W s)
  refine ⟨.bool r.isSome, ?_, of_bool.2 rfl⟩
  have hn : a.eval (.const (.pointer none)) = .pointer none := rfl
  simp only [execOp, eqGuard, binOp, h1, hn, Op.equal, Op.maxDepth]
  have := run_eq_refnil (P := c.P) W 9999 (r.map fun p => ⟨p, 0, none⟩) hu
  simp only [Option.isNone_map] at this
  simp [this]
end
/-! ### Ways and loops with such programs -/

section
variable {c : Cx} {E : List (Nat × VP)} {L : List Ent} {ops : Array Oper} {Q : Exit → Act → World → Prop}

theorem Wm.of_bind {α β : Type} {o : Option α} {k : α → Wm β} {R : β → Prop} (h : Wm.bind (Wm.of o) k R) : ∃ r, o = some r ∧ k r R := h

theorem wcond_t {α : Type} {b : Bool} {m n : Wm α} {R : α → Prop} (hb : b = true) (h : cond b m n R) : m R := by subst hb; exact h
theorem wcond_f {α : Type} {b : Bool} {m n : Wm α} {R : α → Prop} (hb : b = false) (h : cond b m n R) : n R := by subst hb; exact h

/-- a byte of a string; none: out of range -/
def strM (s : ByteArray) (i : Int) : Option (BitVec 8) := (if 0 ≤ i then s[i.toNat]? else none).map fun b => BitVec.ofNat 8 b.toNat
theorem r_idxs {d : Option Tmp} {ty : TypeId} {pos : String} {af : Array Edge} {g : Option (Nat × Bool)} {x y : Operand} {t : TypeId} {s : ByteArray} {i : Int} {r : BitVec 8} (hu : c.P.underlying t = some .string) (hx : Look c E L x (.of s)) (hy : Look c E L y (.of i)) (hr : strM s i = some r) :
    HR c E L ⟨d, .index t x y, ty, pos, af, g⟩ (.of r) := .pure fun a W st => by
  have h1 := of_str.1 (hx a W st)
  have h2 := of_int.1 (hy a W st)
  unfold strM at hr
  cases hb : (if 0 ≤ i then s[i.toNat]? else none) with
  | none => rw [hb] at hr; cases hr
  | some b =>
    rw [hb] at hr
    simp only [Option.map_some, Option.some.injEq] at hr
    subst hr
    have hlt : b.toNat < 256 := b.toNat_lt
    refine ⟨.int .u8 b.toNat, ?_, of_u8.2 (by simp [BitVec.toNat_ofNat, Nat.mod_eq_of_lt hlt])⟩
    simp [execOp, Instr.index, h1, h2, asIntOf, run_underlying hu, hb]
theorem r_idxs8 {d : Option Tmp} {ty : TypeId} {pos : String} {af : Array Edge} {g : Option (Nat × Bool)} {x y : Operand} {t : TypeId} {s : ByteArray} {i : BitVec 8} {r : BitVec 8} (hu : c.P.underlying t = some .string) (hx : Look c E L x (.of s)) (hy : Look c E L y (.of i)) (hr : strM s (i.toNat : Int) = some r) :
    HR c E L ⟨d, .index t x y, ty, pos, af, g⟩ (.of r) := .pure fun a W st => by
  have h1 := of_str.1 (hx a W st)
  have h2 := of_u8.1 (hy a W st)
  unfold strM at hr
  cases hb : (if 0 ≤ (i.toNat : Int) then s[(i.toNat : Int).toNat]? else none) with
  | none => rw [hb] at hr; cases hr
  | some b =>
    rw [hb] at hr
    simp only [Option.map_some, Option.some.injEq] at hr
    subst hr
    have hlt : b.toNat < 256 := b.toNat_lt
    refine ⟨.int .u8 b.toNat, ?_, of_u8.2 (by simp [BitVec.toNat_ofNat, Nat.mod_eq_of_lt hlt])⟩
    have hb' := hb
    simp only [Int.natCast_nonneg, if_true, Int.toNat_natCast] at hb'
    simp [execOp, Instr.index, h1, h2, asIntOf, run_underlying hu, hb']
end
end Gv

namespace Gv
open Go
set_option linter.unusedVariables false
set_option linter.unusedSimpArgs false

/-- a map as data; none: nil -/
structure MRef where
  p : Option Nat
  deriving DecidableEq, Inhabited
instance instRpMRef : Rp MRef := .scalar (fun x => Value.map x.p) fun _ => rfl
instance : Zc MRef := ⟨[.map none], fun _ _ => rfl⟩
/-! ### What a map holds -/

inductive Kvs {α β : Type} [Rp α] [Rp β] (A : List Nat) (W : World) : List MapEntry → List (α × β) → Prop
  | nil : Kvs A W [] []
  | cons {e k v es r} : (VP.of k).holds A W e.key → (VP.of v).holds A W e.val → Kvs A W es r → Kvs A W (e :: es) ((k, v) :: r)

theorem Kvs.mono {α β : Type} [Rp α] [Rp β] {A W A' W'} (h : Ext A W A' W') : ∀ {es : List MapEntry} {kv : List (α × β)}, Kvs A W es kv → Kvs A' W' es kv
  | _, _, .nil => .nil
  | _, _, .cons h1 h2 r => .cons (VP.mono _ h h1) (VP.mono _ h h2) (r.mono h)

def CP.map {α β : Type} [Rp α] [Rp β] (kv : List (α × β)) : CP where
  holds A W o := ∃ es clock, o = .map es clock ∧ Kvs A W es.toList kv ∧ (∀ x ∈ es.toList, x.born < clock) ∧ (es.toList.map MapEntry.born).Nodup
  nilOk := False
  mono e h := let ⟨es, clock, h1, h2, h3⟩ := h; ⟨es, clock, h1, h2.mono e, h3⟩

/-! ### Keys may be asked for -/

/-- a key of this kind can be hashed, at n levels -/
def Ck (P : Program) (t : TypeId) (α : Type) [Rp α] (n : Nat) : Prop := ∀ b d A W u (x : α), n ≤ d → (VP.of x).holds A W u → (Instr.checkKey b d t u).run P W = .ok () W

/-- the fields of a struct that is a key -/
inductive Cks (P : Program) (β : Type) [Rp β] (k : Nat) : List Field → Prop
  | nil : Cks P β k []
  | cons {γ : Type} [Rp γ] {f r} (l : Lens β γ) : l.off = f.offset → Ty P f.type γ → Ck P f.type γ k → Cks P β k r → Cks P β k (f :: r)

/-! ### Finding a key -/

/-- keys of type t: how they are compared and hashed -/
structure Kt (P : Program) (t : TypeId) (α : Type) [Rp α] [DecidableEq α] : Prop where
  check : ∀ b A W u (x : α), (VP.of x).holds A W u → (Instr.checkKey b 10000 t u).run P W = .ok () W
  same : ∀ A W u v (x y : α), (VP.of x).holds A W u → (VP.of y).holds A W v → (Op.equal t u v).run P W = .ok (decide (x = y)) W
  now : ∃ D, P.underlying t = some D ∧ ∀ A W u v (x y : α), (VP.of x).holds A W u → (VP.of y).holds A W v → Instr.sameNow D u v = none ∨ Instr.sameNow D u v = some (decide (x = y))

theorem Kvs.length {α β : Type} [Rp α] [Rp β] {A W} : ∀ {es : List MapEntry} {kv : List (α × β)}, Kvs A W es kv → es.length = kv.length
  | _, _, .nil => rfl
  | _, _, .cons _ _ r => by simp [r.length]

/-! ### Operations on maps -/

section
variable {c : Cx} {E : List (Nat × VP)} {L : List Ent} {ops : Array Oper} {Q : Exit → Act → World → Prop}
variable {d : Option Tmp} {ty : TypeId} {pos : String} {af : Array Edge} {g : Option (Nat × Bool)} {x y z : Operand} {t t2 : TypeId}
variable {κ : Type} [Cl κ] {hp : Pool κ} {loc : List Ent}

end

end Gv

namespace Gv
open Go
set_option linter.unusedVariables false
set_option linter.unusedSimpArgs false

/-- the method of this name that the dynamic type t has is the function f, which takes the value itself -/
structure Mt (P : Program) (t : TypeId) (name : String) (f : FuncId) : Prop where
  run : ∀ v W args, (callMethod (.iface t v) name args).run P W = .ok (.enter f (#[v] ++ args)) W

theorem Mt.of {P : Program} {t : TypeId} {name : String} {f : FuncId} {i : TypeInfo} {D : TypeDesc} {m : Method} (hi : P.info? t = some i) (hm : i.methods.find? (fun x => x.name == name) = some m) (hp : m.path = #[]) (hf : m.func = some (f, false)) (hD : P.underlying t = some D)
    (hn : (match (motive := TypeDesc → Bool) D with | .pointer _ => false | _ => true) = true) (en : En P f) : Mt P t name f where
  run v W args := by
    have hcf : ∀ args, (callFunc f args).run P W = .ok (.enter f args) W := fun args => en.run ..
    have hm2 : ∀ n, (method (n + 1) t v name).run P W = .ok (f, v) W := fun n => by
      simp only [method, Sem.run_bind, typeInfo, run_program, Result.andThen_ok, hi, Sem.run_pure, hm, hp, hf, follow, receiverAt, run_underlying hD]
      cases D <;> simp at hn <;> simp [Place.get]
    obtain ⟨n, hn⟩ : ∃ n, P.types.size + Made.depth = n + 1 := ⟨P.types.size + Made.depth - 1, by simp [Made.depth]⟩
    simp only [callMethod, Sem.run_bind, run_program, Result.andThen_ok, hn, hm2, hcf]

theorem MeetsO.map {P : Program} {f : FuncId} {τs : List VP} {Lin : List Ent} {δ δ' : Type} {ρ : δ → VP} {Lo : δ → List Ent} {ρ' : δ' → VP} {Lo' : δ' → List Ent} (F : δ → δ') (hr : ∀ d, ρ' (F d) = ρ d) (hl : ∀ d, Lo' (F d) = Lo d) (h : MeetsO P f τs Lin ρ Lo) : MeetsO P f τs Lin ρ' Lo' :=
  fun A W vs h1 h2 h3 h4 h5 => (h A W vs h1 h2 h3 h4 h5).mono fun e W' ⟨v, d, q1, q2, q3, q4, q5, q6⟩ => ⟨v, F d, q1, q2, by rw [hl]; exact q3, by rw [hl]; exact q4, by rw [hl]; exact q5, by rw [hl, hr]; exact q6⟩

/-- a value of an interface, called by a method's name: it does what MeetsO says of a function -/
structure MeetsV (P : Program) (name : String) (τ : VP) (τs : List VP) (Lin : List Ent) {δ : Type} (ρ : δ → VP) (Lo : δ → List Ent) : Prop where
  go : ∀ (A : List Nat) (W : World) (u : Value) (vs : List Value), (∀ k ∈ A, k < W.heap.size ∧ k ∉ ks Lin) → (ks Lin).Nodup → (∀ k ∈ ks Lin, k < W.heap.size) → (∀ e ∈ Lin, e.ok (ks Lin ++ A) W) → HoldsAll (ks Lin ++ A) W (τ :: τs) (u :: vs) →
    ∃ f v, (∀ args, (callMethod u name args).run P W = .ok (.enter f (#[v] ++ args)) W) ∧ Calls P f (v :: vs).toArray W (PostO (ks Lin) A W ρ Lo)

theorem MeetsV.of {P : Program} {name : String} {t : TypeId} {f : FuncId} {τ σ : VP} {τs : List VP} {Lin : List Ent} {δ : Type} {ρ : δ → VP} {Lo : δ → List Ent} (mt : Mt P t name f) (hτ : ∀ A W u, τ.holds A W u → ∃ v, u = .iface t v ∧ σ.holds A W v)
    (h : MeetsO P f (σ :: τs) Lin ρ Lo) : MeetsV P name τ τs Lin ρ Lo where
  go A W u vs h1 h2 h3 h4 h5 := by
    cases h5 with
    | cons h6 h7 =>
      obtain ⟨v, rfl, h8⟩ := hτ _ _ _ h6
      exact ⟨f, v, fun args => mt.run v W args, h A W (v :: vs) h1 h2 h3 h4 (.cons h8 h7)⟩

section
variable {c : Cx} {E : List (Nat × VP)} {L : List Ent} {ops : Array Oper} {Q : Exit → Act → World → Prop}
variable {d : Option Tmp} {ty : TypeId} {pos : String} {af : Array Edge} {g : Option (Nat × Bool)} {x y z : Operand} {t t2 : TypeId}

theorem opto_inv {a : Act} {W : World} {name : String} {xs : List Operand} {ats : Array TypeId} {τ : VP} {τs : List VP} {Lin Lr : List Ent} {δ : Type} {ρ : δ → VP} {Lo : δ → List Ent} (h : MeetsV c.P name τ τs Lin ρ Lo)
    (s : St c E (Lin ++ Lr) a W) (hx : HoldsAll (ks (Lin ++ Lr) ++ c.A0) W (τ :: τs) ((x :: xs).map a.eval)) :
    OpTo c.P ⟨d, .call ⟨.invoke x name, xs.toArray, ats⟩, ty, pos, af, g⟩ a W fun v W' => ∃ dd, St c E (Lo dd ++ Lr) a W' ∧ (ρ dd).holds (ks (Lo dd ++ Lr) ++ c.A0) W' v := by
  have hnd0 := s.nodup
  rw [ks_append] at hnd0
  obtain ⟨hn1, hn2, hn3⟩ := List.nodup_append.1 hnd0
  have hset : Ext (ks (Lin ++ Lr) ++ c.A0) W (ks Lin ++ (ks Lr ++ c.A0)) W := ks_swap
  have hA : ∀ k ∈ ks Lr ++ c.A0, k < W.heap.size ∧ k ∉ ks Lin := fun k hm => by
    rcases List.mem_append.1 hm with hm | hm
    · exact ⟨s.lt k (by rw [ks_append]; exact List.mem_append.2 (.inr hm)), fun h => hn3 k h k hm rfl⟩
    · obtain ⟨h1, h2⟩ := s.old k hm
      exact ⟨h1, fun h => h2 (by rw [ks_append]; exact List.mem_append.2 (.inl h))⟩
  have hlt : ∀ k ∈ ks Lin, k < W.heap.size := fun k hm => s.lt k (by rw [ks_append]; exact List.mem_append.2 (.inl hm))
  obtain ⟨f, v, hrun, hc⟩ := h.go (ks Lr ++ c.A0) W (a.eval x) (xs.map a.eval) hA hn1 hlt (fun e he => Ent.ok_mono (s.own e (List.mem_append.2 (.inl he))) hset fun _ _ => rfl) (by simpa using hx.mono hset)
  refine .of_enter (f := f) (args := (v :: xs.map a.eval).toArray) (W' := W) ?_ (hc.mono fun e W' ⟨v, dd, he, hf, h1, h2, h3, h4⟩ => ?_)
  · have := hrun (xs.map a.eval).toArray
    simp only [execOp, resolve, Sem.run_bind, Sem.run_pure, Result.andThen_ok, invoke]
    simp only [List.map_toArray] at this ⊢
    simp
    rw [List.take_of_length_le (by simp), this]
    simp
  · refine ⟨v, he, dd, s.after hf h1 h2 h3, (ρ dd).mono ks_swap' h4⟩

variable {κ : Type} [Cl κ] {hp : Pool κ}
end
end Gv

namespace Gv
open Go
set_option linter.unusedVariables false
set_option linter.unusedSimpArgs false

/-- the value u is a yield: called with x it turns s to some s' and says 'go on', or leaves with some q and says 'no more' -/
def YldW (P : Program) (u : Value) {α σ ε γ : Type} (τ : α → VP) (Ls : σ → γ → List Ent) (Lx : ε → γ → List Ent) (step : α → σ → Wm (σ ⊕ ε)) (Rg : List Nat → World → Prop) : Prop :=
  ∃ l, u = .func (.yield l) #[] #[] ∧ ∀ x s R, step x s R → ∀ g A W v, Rg (ks (Ls s g) ++ A) W → Lent A W (Ls s g) → (τ x).holds (ks (Ls s g) ++ A) W v →
    YieldAt Fence.wide 8 P l #[v] W (fun e W' => (∃ s', R (.inl s') ∧ PostO (ks (Ls s g)) A W (fun _ : γ => VP.of true) (fun g => Ls s' g) e W') ∨ ∃ q, R (.inr q) ∧ PostO (ks (Ls s g)) A W (fun _ : γ => VP.of false) (fun g => Lx q g) e W')

/-- the function f is an iterator: called with a yield it does what 'run' says; it may look at the caller's pool -/
structure MeetsJ (P : Program) (f : FuncId) (τs : List VP) {κ : Type} [Cl κ] {α : Type} (τ : α → VP) (run : ∀ {σ ε : Type}, (σ → Pool κ) → (α → σ → Wm (σ ⊕ ε)) → σ → Wm (σ ⊕ ε)) : Prop where
  go : ∀ {σ ε γ : Type} (Ls : σ → γ → List Ent) (Lx : ε → γ → List Ent) (hq : σ → Pool κ) (Lc : σ → γ → List Ent), (∀ s g, Ls s g = Lc s g ++ Ents (hq s)) → ∀ (step : α → σ → Wm (σ ⊕ ε)) (s0 : σ) (g0 : γ) (R : σ ⊕ ε → Prop), run hq step s0 R →
    ∀ (A : List Nat) (W : World) (u : Value) (vs : List Value), Lent A W (Ls s0 g0) → HoldsAll (ks (Ls s0 g0) ++ A) W τs vs →
      YldW P u τ Ls Lx step (fun A' W' => Ext (ks (Ls s0 g0) ++ A) W A' W') →
      Calls P f (u :: vs).toArray W (PostO (ks (Ls s0 g0)) A W (δ := {r // R r} × γ) (fun _ => .tup []) (fun d => Lr Ls Lx d.1.1 d.2))

theorem MeetsJ.of {P : Program} {f : FuncId} {fn : Func} {code : Code} {n : Nat} {τs : List VP} {κ : Type} [Cl κ] {α : Type} {τ : α → VP} {run : ∀ {σ ε : Type}, (σ → Pool κ) → (α → σ → Wm (σ ⊕ ε)) → σ → Wm (σ ⊕ ε)}
    (hf : P.funcs[f]? = some fn) (hb : fn.body = some code) (hn : fn.ntmps = n) (hlen : Nat.ble (τs.length + 1) n = true)
    (h : ∀ {σ ε γ : Type} (Ls : σ → γ → List Ent) (Lx : ε → γ → List Ent) (hq : σ → Pool κ) (Lc : σ → γ → List Ent), (∀ s g, Ls s g = Lc s g ++ Ents (hq s)) → ∀ (step : α → σ → Wm (σ ⊕ ε)) (s0 : σ) (g0 : γ) (R : σ ⊕ ε → Prop), run hq step s0 R →
      ∀ W A u, YldW P u τ Ls Lx step (fun A' W' => Ext (ks (Ls s0 g0) ++ A) W A' W') →
        Wp ⟨P, n, W, ks (Ls s0 g0), A, none, []⟩ (bodyPost P fn (PostO (ks (Ls s0 g0)) A W (δ := {r // R r} × γ) (fun _ => .tup []) (fun d => Lr Ls Lx d.1.1 d.2))) code (params 0 (.eq u :: τs)) (Ls s0 g0)) : MeetsJ P f τs τ run := by
  refine ⟨?_⟩
  intro σ ε γ Ls Lx hq Lc hLc step s0 g0 R hr A W u vs hl hv hy
  refine calls_of_wp hf hb (wpIn_wide.1 (h Ls Lx hq Lc hLc step s0 g0 R hr W A u hy _ _ ?_))
  have hv' : HoldsAll (ks (Ls s0 g0) ++ A) W (.eq u :: τs) (u :: vs) := .cons rfl hv
  have hl' := hv'.length
  have hle : τs.length + 1 ≤ n := Nat.le_of_ble_eq_true hlen
  exact
  { defers := rfl
    size := by simp at hl'; simp [hn, hl']; omega
    env := fun t τ hlk => by
      obtain ⟨_, v, h2, h3⟩ := look_params hv' 0 t τ hlk
      refine ⟨v, ?_, h3⟩
      have hlt : t < (u :: vs).length := (List.getElem?_eq_some_iff.1 h2).1
      rw [Array.getElem?_append_left (by simpa using hlt)]
      simpa using h2
    fr := .refl _ _
    own := hl.ok
    nodup := hl.nodup
    lt := hl.lt
    mine := fun k hk _ => hk
    old := hl.old }

section
variable {c : Cx} {E : List (Nat × VP)} {L : List Ent} {ops : Array Oper} {Q : Exit → Act → World → Prop}
variable {d : Option Tmp} {ty : TypeId} {pos : String} {af : Array Edge} {g : Option (Nat × Bool)} {x y : Operand} {t t2 : TypeId}

end
end Gv

namespace Gv
open Go
set_option linter.unusedVariables false
set_option linter.unusedSimpArgs false

/-- any: what is hidden -/
def Wm.any (α : Type) : Wm α := fun Q => ∀ x, Q x
theorem HoldsAll.append {A : List Nat} {W : World} : ∀ {τs σs : List VP} {vs us : List Value}, HoldsAll A W τs vs → HoldsAll A W σs us → HoldsAll A W (τs ++ σs) (vs ++ us)
  | _, _, _, _, .nil, h => h
  | _, _, _, _, .cons h r, h2 => .cons h (r.append h2)

section
variable {c : Cx} {E : List (Nat × VP)} {L : List Ent} {ops : Array Oper} {Q : Exit → Act → World → Prop}
variable {d : Option Tmp} {ty : TypeId} {pos : String} {af : Array Edge} {g : Option (Nat × Bool)} {x y : Operand} {t t2 : TypeId}

/-- the operation leaves these blocks, and yields that -/
def OpS (c : Cx) (E : List (Nat × VP)) (L : List Ent) (o : Oper) {δ : Type} (ρ : δ → VP) (L' : δ → List Ent) : Prop :=
  ∀ a W, St c E L a W → OpTo c.P o a W fun v W' => ∃ q, St c E (L' q) a W' ∧ (ρ q).holds (ks (L' q) ++ c.A0) W' v

theorem OpS.perm {L1 : List Ent} {o : Oper} {δ : Type} {ρ : δ → VP} {L' L2 : δ → List Ent} (p : L.Perm L1) (p' : ∀ q, (L' q).Perm (L2 q)) (h : OpS c E L1 o ρ L') : OpS c E L o ρ L2 := fun a W s => by
  have := h a W (s.perm p)
  unfold OpTo at this ⊢
  exact Oper.wp_mono (fun a' W' ⟨v, h1, q, h2, h3⟩ => ⟨v, h1, q, h2.perm (p' q), (ρ q).mono (perm_ext (p' q)) h3⟩) this
theorem OpS.to {o : Oper} {δ : Type} {ρ : δ → VP} {L' L2 : δ → List Ent} (e : ∀ q, L' q = L2 q) (h : OpS c E L o ρ L') : OpS c E L o ρ L2 := by
  have : L' = L2 := funext e
  subst this; exact h
theorem OpS.map {o : Oper} {δ δ' : Type} {ρ : δ → VP} {L' : δ → List Ent} {ρ' : δ' → VP} {L2 : δ' → List Ent} (F : δ → δ') (hr : ∀ d, ρ' (F d) = ρ d) (hl : ∀ d, L2 (F d) = L' d) (h : OpS c E L o ρ L') : OpS c E L o ρ' L2 := fun a W s => by
  have := h a W s
  unfold OpTo at this ⊢
  exact Oper.wp_mono (fun a' W' ⟨v, h1, q, h2, h3⟩ => ⟨v, h1, F q, by rw [hl]; exact h2, by rw [hl, hr]; exact h3⟩) this
/-- an operation that reads an own slice as a list: the slice is gone then -/
theorem OpS.fz {α : Type} [Rp α] {o : Oper} {i s cap T : Nat} {key : Option Nat} {xs : List α} {δ : Type} {ρ : δ → VP} {L' : δ → List Ent} (hl : look E s = some (.eq (slv key xs.length cap))) (hL : L[i]? = some ⟨key, .row T xs cap⟩)
    (h : OpS c ((s, .of xs) :: E) (L.set i ⟨none, .dead⟩) o ρ L') : OpS c E L o ρ L' := fun a W st => by
  have h1 := h a W (st.freeze hl hL)
  unfold OpTo at h1 ⊢
  refine Oper.wp_mono (fun a' W' ⟨v, h2, q, s', h3⟩ => ⟨v, h2, q, { s' with env := fun t τ hlk => ?_ }, h3⟩) h1
  by_cases e : Nat.beq s t = true
  · have := look_beq.1 e
    subst this
    rw [hl] at hlk
    cases hlk
    obtain ⟨v, h4, h5⟩ := st.env s _ hl
    exact ⟨v, h4, h5⟩
  · refine s'.env t τ ?_
    simp only [look]
    rw [Bool.not_eq_true] at e
    rw [e]
    exact hlk
theorem OpS.hr {o : Oper} {τ : VP} (h : HR c E L o τ) : OpS c E L o (fun _ : Unit => τ) (fun _ => L) := fun a W s => by
  have h1 := h a W s
  unfold OpTo at h1 ⊢
  exact Oper.wp_mono (fun a' W' ⟨v, h2, f, h3⟩ => ⟨v, h2, (), s.world f, h3⟩) h1
theorem OpS.call {o : Oper} {f : FuncId} {as : Act → List Value} {τs : List VP} {Lin Lr : List Ent} {δ : Type} {ρ : δ → VP} {Lo : δ → List Ent} (h : MeetsO c.P f τs Lin ρ Lo)
    (hc : ∀ a W, St c E (Lin ++ Lr) a W → (execOp a.eval o).run c.P W = .ok (.enter f (as a).toArray) W ∧ HoldsAll (ks (Lin ++ Lr) ++ c.A0) W τs (as a)) : OpS c E (Lin ++ Lr) o ρ (fun q => Lo q ++ Lr) := fun a W s => by
  obtain ⟨hrun, hx⟩ := hc a W s
  have hnd0 := s.nodup
  rw [ks_append] at hnd0
  obtain ⟨hn1, hn2, hn3⟩ := List.nodup_append.1 hnd0
  have hset : Ext (ks (Lin ++ Lr) ++ c.A0) W (ks Lin ++ (ks Lr ++ c.A0)) W := ks_swap
  have hA : ∀ k ∈ ks Lr ++ c.A0, k < W.heap.size ∧ k ∉ ks Lin := fun k hm => by
    rcases List.mem_append.1 hm with hm | hm
    · exact ⟨s.lt k (by rw [ks_append]; exact List.mem_append.2 (.inr hm)), fun h => hn3 k h k hm rfl⟩
    · obtain ⟨h1, h2⟩ := s.old k hm
      exact ⟨h1, fun h => h2 (by rw [ks_append]; exact List.mem_append.2 (.inl h))⟩
  have hlt : ∀ k ∈ ks Lin, k < W.heap.size := fun k hm => s.lt k (by rw [ks_append]; exact List.mem_append.2 (.inl hm))
  refine .of_enter (f := f) (args := (as a).toArray) (W' := W) hrun ?_
  refine (h (ks Lr ++ c.A0) W (as a) hA hn1 hlt (fun e he => Ent.ok_mono (s.own e (List.mem_append.2 (.inl he))) hset fun _ _ => rfl) (hx.mono hset)).mono fun e W' ⟨v, dd, he, hf, h1, h2, h3, h4⟩ => ?_
  exact ⟨v, he, dd, s.after hf h1 h2 h3, (ρ dd).mono ks_swap' h4⟩

/-- own blocks and a pool in one: the first n entries, of them m, are lent; the pool behind them -/
theorem OpS.lendB {o : Oper} {κ : Type} [Cl κ] {hp : Pool κ} {Lin Lr : List Ent} {δ : Type} {ρ : δ → VP} {Lo : δ → List Ent} {hq : δ → Pool κ} (n m : Nat) (hL : L.drop n = Ents hp) (h1 : (L.take n).take m = Lin) (h2 : (L.take n).drop m = Lr)
    (h : OpS c E ((Lin ++ Ents hp) ++ Lr) o ρ (fun q => (Lo q ++ Ents (hq q)) ++ Lr)) : OpS c E L o ρ (fun q => (Lo q ++ Lr) ++ Ents (hq q)) := by
  have e : L = (Lin ++ Lr) ++ Ents hp := by rw [← h1, ← h2, List.take_append_drop, ← hL, List.take_append_drop]
  clear hL h1 h2
  subst e
  exact h.perm lin_perm fun q => lin_perm

theorem OpS.callP {f : FuncId} {xs : List Operand} {ats : Array TypeId} {κ : Type} [Cl κ] {hp : Pool κ} {τs : List VP} {Lin Lr : List Ent} {δ : Type} {ρ : δ → VP} {Lo : δ → List Ent} {hq : δ → Pool κ} (n m : Nat) (hL : L.drop n = Ents hp) (en : En c.P f) (h : MeetsO c.P f τs (Lin ++ Ents hp) ρ (fun d => Lo d ++ Ents (hq d)))
    (h1 : (L.take n).take m = Lin) (h2 : (L.take n).drop m = Lr) (hx : Looks c E L xs τs) : OpS c E L ⟨d, .call ⟨.value (.func f), xs.toArray, ats⟩, ty, pos, af, g⟩ ρ (fun q => (Lo q ++ Lr) ++ Ents (hq q)) := by
  have e : L = (Lin ++ Lr) ++ Ents hp := by rw [← h1, ← h2, List.take_append_drop, ← hL, List.take_append_drop]
  refine OpS.lendB n m hL h1 h2 (OpS.call (as := fun a => xs.map a.eval) h fun a W s => ⟨by simp [execOp, resolve, Deferred.ofValue, Act.eval, invoke, en.run], ?_⟩)
  subst e
  exact (hx.holds a W (s.perm lin_perm.symm)).mono (perm_ext lin_perm)
/-! ### Calls of closures -/

theorem Look.clo_run {fo : Operand} {f : FuncId} {τcs τs : List VP} {xs : List Operand} {ats : Array TypeId} (en : En c.P f) (hf : Look c E L fo (.clo f τcs)) (hx : Looks c E L xs τs) {a : Act} {W : World} (s : St c E L a W) :
    ∃ lb : List Value, (execOp a.eval ⟨d, .call ⟨.value fo, xs.toArray, ats⟩, ty, pos, af, g⟩).run c.P W = .ok (.enter f (xs.map a.eval ++ lb).toArray) W ∧ HoldsAll (ks L ++ c.A0) W (τs ++ τcs) (xs.map a.eval ++ lb) := by
  obtain ⟨lb, h1, h2⟩ := hf a W s
  exact ⟨lb, by simp [execOp, resolve, Deferred.ofValue, h1, invoke, en.run], (hx.holds a W s).append h2⟩

theorem OpS.clo {fo : Operand} {f : FuncId} {τcs τs : List VP} {xs : List Operand} {ats : Array TypeId} {Lin Lr : List Ent} {δ : Type} {ρ : δ → VP} {Lo : δ → List Ent} (m : Nat) (en : En c.P f) (hf : Look c E L fo (.clo f τcs)) (h : MeetsO c.P f (τs ++ τcs) Lin ρ Lo)
    (h1 : L.take m = Lin) (h2 : L.drop m = Lr) (hx : Looks c E L xs τs) : OpS c E L ⟨d, .call ⟨.value fo, xs.toArray, ats⟩, ty, pos, af, g⟩ ρ (fun q => Lo q ++ Lr) := by
  have e : L = Lin ++ Lr := by rw [← h1, ← h2, List.take_append_drop]
  clear h1 h2
  subst e
  intro a W s
  obtain ⟨lb, h3, h4⟩ := Look.clo_run (d := d) (ty := ty) (pos := pos) (af := af) (g := g) (ats := ats) en hf hx s
  have hnd0 := s.nodup
  rw [ks_append] at hnd0
  obtain ⟨hn1, hn2, hn3⟩ := List.nodup_append.1 hnd0
  have hset : Ext (ks (Lin ++ Lr) ++ c.A0) W (ks Lin ++ (ks Lr ++ c.A0)) W := ks_swap
  have hA : ∀ k ∈ ks Lr ++ c.A0, k < W.heap.size ∧ k ∉ ks Lin := fun k hm => by
    rcases List.mem_append.1 hm with hm | hm
    · exact ⟨s.lt k (by rw [ks_append]; exact List.mem_append.2 (.inr hm)), fun h => hn3 k h k hm rfl⟩
    · obtain ⟨h1, h2⟩ := s.old k hm
      exact ⟨h1, fun h => h2 (by rw [ks_append]; exact List.mem_append.2 (.inl h))⟩
  have hlt : ∀ k ∈ ks Lin, k < W.heap.size := fun k hm => s.lt k (by rw [ks_append]; exact List.mem_append.2 (.inl hm))
  refine .of_enter (f := f) (W' := W) h3 ?_
  refine (h (ks Lr ++ c.A0) W _ hA hn1 hlt (fun e he => Ent.ok_mono (s.own e (List.mem_append.2 (.inl he))) hset fun _ _ => rfl) (h4.mono hset)).mono fun e W' ⟨v, dd, he, hf, h1, h2, h3, h4⟩ => ?_
  exact ⟨v, he, dd, s.after hf h1 h2 h3, (ρ dd).mono ks_swap' h4⟩
theorem Looks.perm {L1 : List Ent} (p : L.Perm L1) : ∀ {xs : List Operand} {τs : List VP}, Looks c E L xs τs → Looks c E L1 xs τs
  | [], [], h => h
  | _ :: _, _ :: _, h => ⟨h.1.perm p, Looks.perm p h.2⟩
  | [], _ :: _, h => h.elim
  | _ :: _, [], h => h.elim
/-! ### Objects of the pool that lie in several blocks -/

end
end Gv
namespace Gv
open Go
set_option linter.unusedVariables false

/-! ### Regions and iterators that look at a pool -/

section
variable {c : Cx} {E : List (Nat × VP)} {L : List Ent} {ops : Array Oper} {Q : Exit → Act → World → Prop}
theorem HeadD.q {hs : List Hd} {i np : Nat} {o : Oper} {h : Hd} (hh : HeadD c ops Q hs E L i o h) : HeadDP c ops Q hs E L np i o h := fun hd E' L' h1 h2 _ => hh hd E' L' h1 h2

/-- an iterator that looks at the caller's pool, which stays as it is -/
structure MeetsK (P : Program) (f : FuncId) (τs : List VP) {κ : Type} [Cl κ] (hp : Pool κ) {α : Type} (τ : α → VP) (run : ∀ {σ ε : Type}, (α → σ → Option (σ ⊕ ε)) → σ → Option (σ ⊕ ε)) : Prop where
  go : ∀ {σ ε γ : Type} (Ls : σ → γ → List Ent) (Lx : ε → γ → List Ent) (Lc : σ → γ → List Ent), (∀ s g, Ls s g = Lc s g ++ Ents hp) → GoI P f τs [] τ (run (σ := σ) (ε := ε)) Ls Lx

theorem MeetsK.of {P : Program} {f : FuncId} {fn : Func} {code : Code} {n : Nat} {τs : List VP} {κ : Type} [Cl κ] {hp : Pool κ} {α : Type} {τ : α → VP} {run : ∀ {σ ε : Type}, (α → σ → Option (σ ⊕ ε)) → σ → Option (σ ⊕ ε)}
    (hf : P.funcs[f]? = some fn) (hb : fn.body = some code) (hn : fn.ntmps = n) (hlen : Nat.ble (τs.length + 1) n = true)
    (h : ∀ {σ ε γ : Type} (Ls : σ → γ → List Ent) (Lx : ε → γ → List Ent) (Lc : σ → γ → List Ent), (∀ s g, Ls s g = Lc s g ++ Ents hp) → ∀ (step : α → σ → Option (σ ⊕ ε)) (s0 : σ) (g0 : γ) (r : σ ⊕ ε), run step s0 = some r →
      ∀ W A u, Yld P u τ Ls Lx step (fun A' W' => Ext (ks (Ls s0 g0) ++ A) W A' W') →
        Wp ⟨P, n, W, ks (Ls s0 g0), A, none, []⟩ (bodyPost P fn (PostO (ks (Ls s0 g0)) A W (fun _ : γ => .tup []) (fun g => [] ++ Lr Ls Lx r g))) code (params 0 (.eq u :: τs)) (Ls s0 g0)) : MeetsK P f τs hp τ run := by
  refine ⟨?_⟩
  intro σ ε γ Ls Lx Lc hLc step s0 g0 r hr A W u vs hl hv hy
  refine calls_of_wp hf hb (wpIn_wide.1 (h Ls Lx Lc hLc step s0 g0 r hr W A u hy _ _ ?_))
  have hv' : HoldsAll (ks (Ls s0 g0) ++ A) W (.eq u :: τs) (u :: vs) := .cons rfl hv
  have hl' := hv'.length
  have hle : τs.length + 1 ≤ n := Nat.le_of_ble_eq_true hlen
  exact
  { defers := rfl
    size := by simp at hl'; simp [hn, hl']; omega
    env := fun t τ hlk => by
      obtain ⟨_, v, h2, h3⟩ := look_params hv' 0 t τ hlk
      refine ⟨v, ?_, h3⟩
      have hlt : t < (u :: vs).length := (List.getElem?_eq_some_iff.1 h2).1
      rw [Array.getElem?_append_left (by simpa using hlt)]
      simpa using h2
    fr := .refl _ _
    own := hl.ok
    nodup := hl.nodup
    lt := hl.lt
    mine := fun k hk _ => hk
    old := hl.old }

end
end Gv
namespace Gv
open Go
set_option linter.unusedVariables false

/-! ### Variables that hold closures over own variables -/

/-- a function's value, as it is -/
structure Raw where
  f : FuncId
  us : Option (List Value)
instance : Inhabited Raw := ⟨⟨0, none⟩⟩
def Raw.val : Raw → Value
  | ⟨f, some us⟩ => .func (.func f) #[] us.toArray
  | ⟨_, none⟩ => .nilFunc
instance : Rp Raw where
  size := 1
  agg := false
  rep _ _ cs x := cs = [x.val]
  len h := by rw [h]; rfl
  one h := by
    intro v hv
    rw [h, List.mem_singleton] at hv
    subst hv
    rename_i x
    obtain ⟨f, us⟩ := x
    cases us <;> rfl
  flat _ := rfl
  mono _ h := h
instance : Zc Raw := ⟨[.nilFunc], fun _ _ => rfl⟩
theorem of_raw {A W v} {x : Raw} : (VP.of x).holds A W v ↔ v = x.val := by
  constructor
  · intro h
    exact toList_one (by have := h.1; exact this) h.2
  · intro h
    subst h
    obtain ⟨f, us⟩ := x
    cases us <;> exact ⟨rfl, rfl⟩

section
variable {c : Cx} {E : List (Nat × VP)} {L : List Ent} {ops : Array Oper} {Q : Exit → Act → World → Prop}
variable {d : Option Tmp} {ty : TypeId} {pos : String} {af : Array Edge} {g : Option (Nat × Bool)} {x y : Operand} {t t2 : TypeId}

theorem HoldsAll.eqs {A : List Nat} {W : World} : ∀ {us vs : List Value}, HoldsAll A W (us.map VP.eq) vs → vs = us
  | [], _, .nil => rfl
  | _ :: _, _, .cons h r => by rw [r.eqs]; congr 1
theorem r_mkR {f : FuncId} {xs : List Operand} {us : List Value} (hx : Looks c E L xs (us.map VP.eq)) : HR c E L ⟨d, .makeFunc (.func f) #[] xs.toArray, ty, pos, af, g⟩ (.of (⟨f, some us⟩ : Raw)) := .pure fun a W s =>
  ⟨.func (.func f) #[] us.toArray, by
    have h := (hx.holds a W s).eqs
    simp [execOp, Instr.makeFunc, h], of_raw.2 rfl⟩
/-! ### Under a guard, what makes new blocks -/

end
end Gv
namespace Gv
open Go
set_option linter.unusedVariables false
section
variable {c : Cx} {E : List (Nat × VP)} {L : List Ent} {ops : Array Oper} {Q : Exit → Act → World → Prop}
end
end Gv

namespace Gv
open Go
set_option linter.unusedVariables false
set_option linter.unusedSimpArgs false
section
variable {c : Cx} {E : List (Nat × VP)} {L : List Ent} {ops : Array Oper} {Q : Exit → Act → World → Prop}

def drawT (ops : Array Oper) (n : Nat) (hs : List (Option Nat × List Nat × List Nat × List Nat)) (E : List Nat) : Bool :=
  decide (hs.length = n) && decide (n ≤ ops.size) && decide (hs.filterMap (·.1)).Nodup && ((List.range n).all fun m => match hs[m]? with | some (some s, up, _) => !E.contains s || (List.range n).all fun k => decide (k = m) || up.contains k | _ => true) &&
  ((List.range n).all fun i => match hs[i]? with
    | none => false
    | some (_, up, rd, wr) =>
      (((ops[i]?).map fun o => (o.dst == (hs[i]?).bind (·.1)) && o.after.all fun e => !Region.binds .any e || decide (e.on < i)).getD false) &&
      (up.all fun k => Region.waitsFor .any ops i k || (List.range i).any fun m => Region.waitsFor .any ops i m && ((hs[m]?).map fun h => h.2.1.contains k).getD false) &&
      ((List.range n).all fun k => match hs[k]? with
        | none => true
        | some (_, upk, _, wrk) =>
          (!(decide (k < i) && wrk.any rd.contains) || up.contains k) && (!(decide (i < k) && wrk.any fun j => rd.contains j || wr.contains j) || upk.contains i))) &&
  (decide (n = ops.size) || (Region.sinkB .any ops n && Region.chainB .any ops n)) &&
  Region.seqB .any ops (ops.size - n) n ((List.range n).foldl (fun l i => l.setIfInBounds i true) (Array.replicate ops.size false))

theorem drawT_core {n : Nat} {hs : List Hd} {np : Nat} (hw : ∀ h ∈ hs, ∀ j ∈ h.wr, j < np ∨ L.length ≤ j) (hB : drawT ops n (dat hs) (E.map (·.1)) = true) (hh : HeadsDP c ops Q hs E L np 0 (ops.toList.take n) hs)
    (ht : ∀ hd, Sq c ops Q (ops.toList.drop n) (zipD (fun _ => true) hd E 0 hs) (Lf (fun _ => true) hd 0 hs L)) :
    ∀ m (listed : Array Bool) (hd : Nat → Hid) (a : Act) (W : World), ((List.range n).filter fun i => !listed.getD i true).length ≤ m → HeadInv .any ops n listed →
      St c (zipD (fun i => listed.getD i false) hd E 0 hs) (Lf (fun i => listed.getD i false) hd 0 hs L) a W → wpAnyIn c.F 9 c.P .any ops Q (m + (ops.size - n)) listed a W := by
  simp only [drawT, Bool.and_eq_true, decide_eq_true_eq, Bool.or_eq_true] at hB
  obtain ⟨⟨⟨⟨⟨⟨hlen0, hn⟩, hnd⟩, hdis⟩, hall⟩, htail⟩, hseq⟩ := hB
  have hlen : hs.length = n := by simpa [dat] using hlen0
  have hget : ∀ i, i < n → ∃ h o, hs[i]? = some h ∧ ops[i]? = some o := fun i hi => ⟨hs[i]'(by omega), ops[i], by simp, by simp⟩
  -- what is asked of operation i
  have hcond : ∀ (i : Nat) (h : Hd) (o : Oper), hs[i]? = some h → ops[i]? = some o →
      o.dst = h.slot ∧ (∀ e ∈ o.after, Region.binds .any e = true → e.on < i) ∧
      (∀ k ∈ h.up, Region.waitsFor .any ops i k = true ∨ ∃ m, m < i ∧ Region.waitsFor .any ops i m = true ∧ ∃ x, hs[m]? = some x ∧ k ∈ x.up) ∧
      (∀ (k : Nat) (x : Hd), hs[k]? = some x → (k < i → (∃ j ∈ x.wr, h.rd.contains j = true) → k ∈ h.up) ∧ (i < k → (∃ j ∈ x.wr, h.rd.contains j = true ∨ h.wr.contains j = true) → i ∈ x.up)) := by
    intro i h o hi ho
    have hlt : i < n := by have := (List.getElem?_eq_some_iff.1 hi).1; omega
    have h1 := List.all_eq_true.1 hall i (List.mem_range.2 hlt)
    rw [dat_get hi] at h1
    simp only [Bool.and_eq_true] at h1
    obtain ⟨⟨h2, h3⟩, h4⟩ := h1
    simp only [ho, Option.map_some, Option.getD_some, Bool.and_eq_true, Option.bind_some, beq_iff_eq] at h2
    refine ⟨h2.1, fun e he hb => ?_, fun k hk => ?_, fun k x hx => ?_⟩
    · have := Array.all_eq_true_iff_forall_mem.1 h2.2 e he
      simp [hb] at this
      exact this
    · have := List.all_eq_true.1 h3 k hk
      simp only [Bool.or_eq_true, List.any_eq_true, Bool.and_eq_true, List.mem_range] at this
      rcases this with h5 | ⟨m, h5, h6, h7⟩
      · exact .inl h5
      · have hm : m < hs.length := by omega
        rw [dat_get (List.getElem?_eq_getElem hm)] at h7
        exact .inr ⟨m, h5, h6, hs[m], List.getElem?_eq_getElem hm, by simpa using h7⟩
    · have hkl : k < n := by have := (List.getElem?_eq_some_iff.1 hx).1; omega
      have := List.all_eq_true.1 h4 k (List.mem_range.2 hkl)
      rw [dat_get hx] at this
      simp only [Bool.and_eq_true, Bool.or_eq_true, Bool.not_eq_true', Bool.and_eq_false_iff, decide_eq_false_iff_not, List.contains_iff_mem] at this
      refine ⟨fun hki ⟨j, hj, hr⟩ => ?_, fun hik ⟨j, hj, hr⟩ => ?_⟩
      · rcases this.1 with (h5 | h5) | h5
        · exact absurd hki h5
        · have := List.any_eq_false.1 h5 j hj
          exact absurd hr this
        · exact h5
      · rcases this.2 with (h5 | h5) | h5
        · exact absurd hik h5
        · have := List.any_eq_false.1 h5 j hj
          simp only [Bool.or_eq_true] at this
          exact absurd hr this
        · exact h5
  have huniq : ∀ (i j s : Nat) (x y : Hd), hs[i]? = some x → hs[j]? = some y → x.slot = some s → y.slot = some s → i = j := by
    have key : ∀ (l : List Hd), ((dat l).filterMap (·.1)).Nodup → ∀ (i j s : Nat) (x y : Hd), l[i]? = some x → l[j]? = some y → x.slot = some s → y.slot = some s → i = j := by
      intro l
      induction l with
      | nil => intro _ i j s x y h; simp at h
      | cons z r ih =>
        intro hnd i j s x y hi hj hx hy
        have hr : ((dat r).filterMap (·.1)).Nodup := by
          cases hz : z.slot with
          | none => simpa [dat, hz] using hnd
          | some w =>
            simp only [dat, List.map_cons, List.filterMap_cons, hz] at hnd
            exact (List.nodup_cons.1 hnd).2
        have hout : z.slot = some s → ∀ (q : Nat) (v : Hd), r[q]? = some v → v.slot ≠ some s := fun hz q v hq hv => by
          simp only [dat, List.map_cons, List.filterMap_cons, hz] at hnd
          exact (List.nodup_cons.1 hnd).1 (List.mem_filterMap.2 ⟨_, List.mem_map.2 ⟨v, List.mem_of_getElem? hq, rfl⟩, hv⟩)
        cases i with
        | zero =>
          simp only [List.getElem?_cons_zero, Option.some.injEq] at hi
          subst hi
          cases j with
          | zero => rfl
          | succ j => simp only [List.getElem?_cons_succ] at hj; exact absurd hy (hout hx j y hj)
        | succ i =>
          simp only [List.getElem?_cons_succ] at hi
          cases j with
          | zero =>
            simp only [List.getElem?_cons_zero, Option.some.injEq] at hj
            subst hj
            exact absurd hx (hout hy i x hi)
          | succ j => simp only [List.getElem?_cons_succ] at hj; rw [ih hr i j s x y hi hj hx hy]
    exact key hs hnd
  have hbase : ∀ (t : Nat) (τ : VP), look E t = some τ → ∀ (m : Nat) (h : Hd), hs[m]? = some h → h.slot = some t → ∀ k, k < n → k ≠ m → k ∈ h.up := by
    intro t τ hl m h hm hs' k hk hkm
    have hml : m < n := by have := (List.getElem?_eq_some_iff.1 hm).1; omega
    have h1 := List.all_eq_true.1 hdis m (List.mem_range.2 hml)
    rw [show (dat hs)[m]? = some (h.slot, h.up, h.rd, h.wr) by simp [dat, hm], hs'] at h1
    have hmem : t ∈ E.map (·.1) := by
      clear hdis h1 hh ht hm hs'
      induction E with
      | nil => simp [look] at hl
      | cons x r ih =>
        obtain ⟨s, σ⟩ := x
        simp only [look] at hl
        by_cases e : Nat.beq s t = true
        · have := look_beq.1 e; subst this; simp
        · simp only [Bool.not_eq_true] at e
          rw [e] at hl
          simp only [List.map_cons, List.mem_cons]
          exact .inr (ih hl)
    replace h1 : (!(E.map (·.1)).contains t || (List.range n).all fun k => decide (k = m) || h.up.contains k) = true := h1
    rw [show (E.map (·.1)).contains t = true by simpa using hmem] at h1
    have h2 : ∀ x, x < n → x = m ∨ x ∈ h.up := by simpa using h1
    exact (h2 k hk).resolve_left hkm
  have hup : ∀ (listed : Array Bool), HeadInv .any ops n listed → ∀ (d i : Nat), i ≤ d → ∀ (h : Hd) (o : Oper), hs[i]? = some h → ops[i]? = some o → (∀ e ∈ o.after, Region.binds .any e = true → listed.getD e.on false = true) → ∀ k ∈ h.up, listed.getD k false = true := by
    intro listed inv d
    induction d with
    | zero =>
      intro i hi h o hhi hoi hw k hk
      rcases (hcond i h o hhi hoi).2.2.1 k hk with h1 | ⟨m, hm, _⟩
      · obtain ⟨oj, hoj, e, he, hb, hon⟩ := Region.waitsFor_spec h1
        rw [hoi] at hoj; cases hoj
        rw [← hon]; exact hw e he hb
      · omega
    | succ d ih =>
      intro i hi h o hhi hoi hw k hk
      rcases (hcond i h o hhi hoi).2.2.1 k hk with h1 | ⟨m, hm, h1, x, hx, hkx⟩
      · obtain ⟨oj, hoj, e, he, hb, hon⟩ := Region.waitsFor_spec h1
        rw [hoi] at hoj; cases hoj
        rw [← hon]; exact hw e he hb
      · obtain ⟨oj, hoj, e, he, hb, hon⟩ := Region.waitsFor_spec h1
        rw [hoi] at hoj; cases hoj
        have hml := hw e he hb
        rw [hon] at hml
        obtain ⟨x2, om, hx2, hom⟩ := hget m (by have := (List.getElem?_eq_some_iff.1 hhi).1; omega)
        exact ih m (by omega) x om hx hom (fun e he hb => inv.closed m om hom hml e he hb) k hkx
  have hdone : ∀ (listed : Array Bool) (hd : Nat → Hid) (a : Act) (W : World), (∀ i, i < n → listed.getD i true = true) → HeadInv .any ops n listed →
      St c (zipD (fun i => listed.getD i false) hd E 0 hs) (Lf (fun i => listed.getD i false) hd 0 hs L) a W → wpAnyIn c.F 9 c.P .any ops Q (ops.size - n) listed a W := by
    intro listed hd a W hall2 inv st
    have hl := listed_all inv hn hall2
    rw [← hl] at hseq
    have hlen2 : (ops.toList.drop n).length = ops.size - n := by simp
    rw [← hlen2]
    rw [← hlen2] at hseq
    refine wpAnyIn_of_seq (ops.toList.drop n) n listed a W (fun j => by simp) hseq (ht hd a W ?_)
    have hl2 : ∀ m, m < hs.length → listed.getD (0 + m) false = true := fun m hm => by
      have h1 := hall2 m (by omega)
      have h2 : m < listed.size := by rw [inv.size]; omega
      simpa [h2] using h1
    rw [zipD_congr (ls' := fun _ => true) hl2, Lf_congr (ls' := fun _ => true) hl2] at st
    exact st
  have more : ∀ f (listed : Array Bool) a W, wpAnyIn c.F 9 c.P .any ops Q f listed a W → wpAnyIn c.F 9 c.P .any ops Q (f + 1) listed a W := by
    intro f
    induction f with
    | zero => intro listed a W h; exact ⟨fun _ => h.2, fun i hi => by rw [h.1] at hi; cases hi⟩
    | succ f ihf => intro listed a W h; exact ⟨h.1, fun i hi => wpOpIn_mono (fun a' w' h' => ihf _ a' w' h') (h.2 i hi)⟩
  intro m
  induction m with
  | zero =>
    intro listed hd a W hm inv st
    rw [Nat.zero_add]
    refine hdone listed hd a W (fun i hi => ?_) inv st
    cases h : listed.getD i true with
    | true => rfl
    | false =>
      have : i ∈ (List.range n).filter fun i => !listed.getD i true := List.mem_filter.2 ⟨List.mem_range.2 hi, by rw [h]; rfl⟩
      rw [List.length_eq_zero_iff.1 (Nat.le_zero.1 hm)] at this
      cases this
  | succ m ih =>
    intro listed hd a W hm inv st
    rw [show m + 1 + (ops.size - n) = (m + (ops.size - n)) + 1 by omega]
    by_cases hall3 : ∀ i, i < n → listed.getD i true = true
    · have h1 := hdone listed hd a W hall3 inv st
      have key : ∀ k, wpAnyIn c.F 9 c.P .any ops Q (k + (ops.size - n)) listed a W := by
        intro k
        induction k with
        | zero => rw [Nat.zero_add]; exact h1
        | succ k ihk => rw [show k + 1 + (ops.size - n) = (k + (ops.size - n)) + 1 by omega]; exact more _ _ _ _ ihk
      exact more _ _ _ _ (key m)
    have hex : ∃ i, i < n ∧ listed.getD i true = false := by
      false_or_by_contra
      rename_i h2
      exact hall3 fun i hi => by
        cases h : listed.getD i true with
        | true => rfl
        | false => exact absurd ⟨i, hi, h⟩ h2
    have hready : ∀ t ∈ Region.ready .any ops listed, t < n := by
      intro t htm
      rcases Nat.lt_or_ge t n with h | h
      · exact h
      · obtain ⟨i, hi, hun⟩ := hex
        have hnlt : n < ops.size ∨ n = ops.size := by omega
        have htlt : t < ops.size := by
          obtain ⟨_, o, ho, _⟩ := mem_ready.1 htm
          exact (Array.getElem?_eq_some_iff.1 ho).1
        rcases htail with h1 | h1
        · omega
        · exact absurd htm (tail_waits h1.1 h1.2 (by omega) inv _ i rfl hi hun t h)
    refine ⟨fun h0 => ?_, fun i hi => ?_⟩
    · exfalso
      -- the least that has not come up would be ready
      have key : ∀ d i, i ≤ d → i < n → listed.getD i true = true := by
        intro d
        induction d with
        | zero =>
          intro i hi0 hi
          cases hl : listed.getD i true with
          | true => rfl
          | false =>
            obtain ⟨h, o, hhi, ho⟩ := hget i hi
            have : i ∈ Region.ready .any ops listed := mem_ready.2 ⟨hl, o, ho, fun e he hb => by have := (hcond i h o hhi ho).2.1 e he hb; omega⟩
            rw [h0] at this; cases this
        | succ d ihd =>
          intro i hi0 hi
          cases hl : listed.getD i true with
          | true => rfl
          | false =>
            obtain ⟨h, o, hhi, ho⟩ := hget i hi
            have : i ∈ Region.ready .any ops listed := mem_ready.2 ⟨hl, o, ho, fun e he hb => by
              have h1 := (hcond i h o hhi ho).2.1 e he hb
              have h2 := ihd e.on (by omega) (by omega)
              have h3 : e.on < listed.size := by rw [inv.size]; omega
              simpa [h3] using h2⟩
            rw [h0] at this; cases this
      obtain ⟨i, hi, hun⟩ := hex
      have := key i i (Nat.le_refl _) hi
      rw [hun] at this; cases this
    · have hin : i < n := hready i hi
      obtain ⟨hun, o, ho, hlisted⟩ := mem_ready.1 hi
      obtain ⟨h, _, hhi, _⟩ := hget i hin
      have hunf : listed.getD i false = false := getD_both hun
      have hilt : i < listed.size := by rw [inv.size]; omega
      have hcnt : ((List.range n).filter fun j => !(listed.setIfInBounds i true).getD j true).length ≤ m := by
        have : ((List.range n).filter fun j => !(listed.setIfInBounds i true).getD j true).length < ((List.range n).filter fun j => !listed.getD j true).length := by
          refine cnt_lt (fun j => !listed.getD j true) (fun j => !(listed.setIfInBounds i true).getD j true) i (by simp only [hun]; rfl) ?_ (fun j hj => ?_) n hin
          · simp [hilt]
          · by_cases e : i = j
            · subst e; simp only [hun]; rfl
            · rw [getD_set_ne true e] at hj; exact hj
        omega
      have inv' := inv.set hi hin
      obtain ⟨hdst, hedges, hclos, hent⟩ := hcond i h o hhi ho
      have hupl := hup listed inv i i (Nat.le_refl _) h o hhi ho hlisted
      -- whoever comes later and leaves an entry of i's has not come up
      have hlater : ∀ (k : Nat) (x : Hd), hs[k]? = some x → i < k → (∃ j ∈ x.wr, h.rd.contains j = true ∨ h.wr.contains j = true) → listed.getD k false = false := fun k x hx hik hj => by
        have h1 := (hent k x hx).2 hik hj
        cases hk : listed.getD k false with
        | false => rfl
        | true =>
          obtain ⟨_, ok, _, hok⟩ := hget k (by have := (List.getElem?_eq_some_iff.1 hx).1; omega)
          have := hup listed inv k k (Nat.le_refl _) x ok hx hok (fun e he hb => inv.closed k ok hok hk e he hb) i h1
          rw [hunf] at this; cases this
      have hsplit : hs = hs.take i ++ h :: hs.drop (i + 1) := by
        have hil : i < hs.length := by omega
        rw [List.getElem?_eq_getElem hil] at hhi
        cases hhi
        rw [List.getElem_cons_drop]
        exact (List.take_append_drop i hs).symm
      have htl : (hs.take i).length = i := by rw [List.length_take]; omega
      -- a slot that was known before is filled last, if ever
      have hbl : ∀ (t : Nat) (τ : VP), look E t = some τ → ∀ (m : Nat) (x : Hd), hs[m]? = some x → listed.getD (0 + m) false = true → x.slot ≠ some t := fun t τ hl m x hx hlm hs' => by
        rw [Nat.zero_add] at hlm
        have hmi : i ≠ m := fun e => by subst e; rw [hunf] at hlm; cases hlm
        obtain ⟨_, om, _, hom⟩ := hget m (by have := (List.getElem?_eq_some_iff.1 hx).1; omega)
        have := hup listed inv m m (Nat.le_refl _) x om hx hom (fun e he hb => inv.closed m om hom hlm e he hb) i (hbase t τ hl m x hx hs' i hin hmi)
        rw [hunf] at this; cases this
      have hspec := (HeadsDP.get hh i h o hhi (by rw [List.getElem?_take, if_pos hin, Array.getElem?_toList]; exact ho)) 
      rw [Nat.zero_add] at hspec
      have hsq := hspec hd (zipD (fun i => listed.getD i false) hd E 0 hs) (Lf (fun i => listed.getD i false) hd 0 hs L) (fun t τ hl => ?_) (fun j e hj hr => ?_) (Lf_drop hw)
      · have hw := wpOp_of_list (K := fun a W => ∃ x, St c (addE h.slot (h.τ (msk h.up i (upd hd i x))) (zipD (fun i => listed.getD i false) hd E 0 hs)) (setE (Lf (fun i => listed.getD i false) hd 0 hs L) (h.ent (msk h.up i (upd hd i x))) h.wr) a W) ho (hsq a W st)
        refine wpOpIn_mono (fun a' W' ⟨x, st'⟩ => ?_) hw
        have hdo : ∀ j, j ≠ i → upd hd i x j = hd j := fun j hj => by
          have : Nat.beq j i = false := by
            cases hb : Nat.beq j i
            · rfl
            · exact absurd (look_beq.1 hb) hj
          simp only [upd, this, cond_false]
        -- those that have come up do not know of i
        have hmo : ∀ (j : Nat) (y : Hd), hs[j]? = some y → listed.getD j false = true → msk y.up j (upd hd i x) = msk y.up j hd := fun j y hy hj => by
          obtain ⟨_, oj, _, hoj⟩ := hget j (by have := (List.getElem?_eq_some_iff.1 hy).1; omega)
          refine msk_congr (hdo j fun e => by subst e; rw [hunf] at hj; cases hj) fun k hk => hdo k fun e => ?_
          have := hup listed inv j j (Nat.le_refl _) y oj hy hoj (fun e he hb => inv.closed j oj hoj hj e he hb) k hk
          subst e
          rw [hunf] at this; cases this
        have hli : (listed.setIfInBounds i true).getD i false = true := by simp [hilt]
        have hlo : ∀ j, j ≠ i → (listed.setIfInBounds i true).getD j false = listed.getD j false := fun j hj => getD_set_ne false (fun e => hj e.symm)
        refine ih _ (upd hd i x) a' W' hcnt inv' ?_
        have hLeq : Lf (fun j => (listed.setIfInBounds i true).getD j false) (upd hd i x) 0 hs L = setE (Lf (fun i => listed.getD i false) hd 0 hs L) (h.ent (msk h.up i (upd hd i x))) h.wr := by
          apply List.ext_getElem?
          intro j
          rw [Lf_get, setE_get, Lf_get]
          by_cases hj : h.wr.contains j = true
          · rw [if_pos hj]
            have e1 : ∀ (ls : Nat → Bool) (g : Nat → Hid) (v : Option Ent), (∀ k x, hs[k]? = some x → i < k → x.wr.contains j = true → ls k = false) → valD ls g j 0 hs v = (bif ls i then (valD ls g j 0 (hs.take i) v).map (fun _ => h.ent (msk h.up i g) j) else valD ls g j 0 (hs.take i) v) := fun ls g v hls => by
              conv => lhs; rw [hsplit]
              rw [valD_append, htl, Nat.zero_add, valD, hj, Bool.and_true, valD_none]
              intro k x hx hw
              rw [List.getElem?_drop] at hx
              exact hls (i + 1 + k) x hx (by omega) hw
            have hno : ∀ k x, hs[k]? = some x → i < k → x.wr.contains j = true → listed.getD k false = false := fun k x hx hik hw => hlater k x hx hik ⟨j, by simpa using hw, .inr hj⟩
            rw [e1 (fun j => (listed.setIfInBounds i true).getD j false) (upd hd i x) _ (fun k x hx hik hw => by rw [hlo k (by omega)]; exact hno k x hx hik hw), e1 (fun j => listed.getD j false) hd _ hno]
            simp only [hli, hunf, cond_true, cond_false]
            rw [valD_congr (ls' := fun j => listed.getD j false) (hd' := hd) fun q x hx _ => by
              have hq : q < i := by have := (List.getElem?_eq_some_iff.1 hx).1; omega
              rw [List.getElem?_take, if_pos hq] at hx
              rw [Nat.zero_add]
              exact ⟨hlo q (by omega), fun hl => hmo q x hx (by rw [hlo q (by omega)] at hl; exact hl)⟩]
          · rw [if_neg hj]
            refine valD_congr fun q x hx hw => ?_
            rw [Nat.zero_add]
            have hq : q ≠ i := fun e => by subst e; rw [hhi] at hx; cases hx; exact hj hw
            exact ⟨hlo q hq, fun hl => hmo q x hx (by rw [hlo q hq] at hl; exact hl)⟩
        rw [hLeq]
        refine st'.less fun t τ hl => ?_
        rcases zipD_inv hl with ⟨j, y, h1, h2, h3, h4⟩ | ⟨h1, hno⟩
        · rw [Nat.zero_add] at h2 h4
          by_cases hji : j = i
          · subst hji
            rw [hhi] at h1
            cases h1
            exact ⟨τ, by rw [h3, h4]; simp [addE, look, Nat.beq_refl], fun _ _ _ h => h⟩
          · rw [hlo j hji] at h2
            rw [hmo j y h1 h2] at h4
            have h5 := zipD_get (ls := fun i => listed.getD i false) (hd := hd) (E := E) (k := 0) h1 (by rw [Nat.zero_add]; exact h2) h3 fun q z hq hz => huniq q j t z y hq h1 hz h3
            rw [Nat.zero_add, ← h4] at h5
            refine ⟨τ, ?_, fun _ _ _ h => h⟩
            cases hs2 : h.slot with
            | none => exact h5
            | some s =>
              have hne : Nat.beq s t = false := by
                cases hb : Nat.beq s t
                · rfl
                · have := look_beq.1 hb; subst this
                  exact absurd (huniq j i s y h h1 hhi h3 hs2) hji
              simp only [addE, look, hne, cond_false]
              exact h5
        · have hb := hbl t τ h1
          have h5 := zipD_base (ls := fun i => listed.getD i false) (hd := hd) (E := E) (k := 0) hb
          refine ⟨τ, ?_, fun _ _ _ h => h⟩
          cases hs2 : h.slot with
          | none => simp only [addE]; rw [h5]; exact h1
          | some s =>
            have hne : Nat.beq s t = false := by
              cases hb2 : Nat.beq s t
              · rfl
              · have := look_beq.1 hb2; subst this
                exact absurd hs2 (hno i h hhi (by rw [Nat.zero_add]; exact hli))
            simp only [addE, look, hne, cond_false]
            rw [h5]; exact h1
      · rcases heD_inv hl with ⟨j, hj, y, h1, h2, h3⟩ | h1
        · have h5 := zipD_get (ls := fun i => listed.getD i false) (hd := hd) (E := E) (k := 0) h1 (by rw [Nat.zero_add]; exact hupl j hj) h2 fun q z hq hz => huniq q j t z y hq h1 hz h2
          rw [Nat.zero_add, ← h3] at h5
          exact h5
        · rw [zipD_base (hbl t τ h1)]; exact h1
      · rw [Lf_get] at hj ⊢
        rw [← hj]
        conv => lhs; rw [hsplit]
        rw [valD_append, valD_none]
        · refine valD_congr fun q x hx hw => ?_
          rw [Nat.zero_add]
          have hq : q < i := by have := (List.getElem?_eq_some_iff.1 hx).1; omega
          rw [List.getElem?_take, if_pos hq] at hx
          exact ⟨hupl q ((hent q x hx).1 hq ⟨j, by simpa using hw, hr⟩), fun _ => rfl⟩
        · intro q x hx hw
          rw [htl, Nat.zero_add]
          cases q with
          | zero => exact hunf
          | succ q =>
            simp only [List.getElem?_cons_succ] at hx
            rw [List.getElem?_drop] at hx
            exact hlater (i + (q + 1)) x (by rw [← hx]; congr 1; omega) (by omega) ⟨j, by simpa using hw, .inl hr⟩

/-- a region whose first n operations come in whatever order, with a pool behind the first np entries, of which these only look at it; the others follow one by one -/
theorem Wp.drawTP {rid : Nat} {l : List Oper} (n : Nat) {np : Nat} (hm : c.P.follows .mixedOrders = true) (hs : List Hd) (ds : List (Option Nat × List Nat × List Nat × List Nat)) (es : List Nat) (hds : dat hs = ds) (hes : E.map (·.1) = es) (hB : Gv.drawT l.toArray n ds es = true) (hw2 : ∀ h ∈ hs, ∀ j ∈ h.wr, j < np ∨ L.length ≤ j)
    (hh : HeadsDP c l.toArray Q hs E L np 0 (l.take n) hs) (ht : ∀ hd, Sq c l.toArray Q (l.drop n) (zipD (fun _ => true) hd E 0 hs) (Lf (fun _ => true) hd 0 hs L)) : Wp c Q (.region rid l.toArray true) E L := fun a W s => by
  subst hds hes
  refine wpIn_region_any hm ?_
  have hn : n ≤ l.toArray.size := by
    simp only [Gv.drawT, Bool.and_eq_true, decide_eq_true_eq] at hB
    exact hB.1.1.1.1.1.2
  have inv0 : HeadInv .any l.toArray n (Array.replicate l.toArray.size false) :=
    { size := by simp
      closed := fun j oj _ hl => by rw [getD_replicate_false] at hl; cases hl
      tail := fun t _ ht => by simp at ht; simp [ht] }
  have h := drawT_core hw2 (ops := l.toArray) (Q := Q) hB (by simpa using hh) (by simpa using ht) n (Array.replicate l.toArray.size false) (fun _ _ => none) a W.drew (Nat.le_trans (List.length_filter_le _ _) (by simp)) inv0 ?_
  · rw [show n + (l.toArray.size - n) = l.toArray.size by omega] at h
    exact h
  have h1 : ∀ (hs : List Hd) (k : Nat), zipD (fun i => (Array.replicate l.toArray.size false).getD i false) (fun _ _ => none) E k hs = E := by
    intro hs
    induction hs with
    | nil => intro k; rfl
    | cons h r ih =>
      intro k
      have h2 := ih (k + 1)
      simp only [getD_replicate_false] at h2
      unfold zipD
      simp only [getD_replicate_false]
      exact h2
  have h2 : ∀ (hs : List Hd) (k : Nat) (L : List Ent), Lf (fun i => (Array.replicate l.toArray.size false).getD i false) (fun _ _ => none) k hs L = L := by
    intro hs
    induction hs with
    | nil => intro k L; rfl
    | cons h r ih => intro k L; rw [Lf, ih]; simp only [getD_replicate_false, cond_false]
  rw [h1, h2]
  exact s.world (Fr.drew W)

theorem Wp.dQ {rid : Nat} {l : List Oper} {ds : List (Option Nat × List Nat × List Nat × List Nat)} (np : Nat) (hm : c.P.follows .mixedOrders = true) (hs : List Hd) (es : List Nat)
    (hh : HeadsDP c l.toArray Q hs E L np 0 l hs) (ht : ∀ hd, To c Q .normal (zipD (fun _ => true) hd E 0 hs) (Lf (fun _ => true) hd 0 hs L))
    (hds : dat hs = ds := by rfl) (hes : E.map (·.1) = es := by rfl) (hB : Gv.drawT l.toArray l.length ds es = true := by kernel_rfl) (hw : (ds.all fun d => d.2.2.2.all fun j => Nat.blt j np) = true := by kernel_rfl) : Wp c Q (.region rid l.toArray true) E L :=
  Wp.drawTP l.length hm hs ds es hds hes hB (wr_lt hds hw) (by rw [List.take_length]; exact hh) (fun hd => by rw [List.drop_length]; exact Sq.nil (ht hd))
theorem Wp.dD {rid : Nat} {l : List Oper} {ds : List (Option Nat × List Nat × List Nat × List Nat)} (hm : c.P.follows .mixedOrders = true) (hs : List Hd) (es : List Nat)
    (hh : HeadsD c l.toArray Q hs E L 0 l hs) (ht : ∀ hd, To c Q .normal (zipD (fun _ => true) hd E 0 hs) (Lf (fun _ => true) hd 0 hs L))
    (hds : dat hs = ds := by rfl) (hes : E.map (·.1) = es := by rfl) (hB : Gv.drawT l.toArray l.length ds es = true := by kernel_rfl) : Wp c Q (.region rid l.toArray true) E L :=
  Wp.drawTP (np := L.length) l.length hm hs ds es hds hes hB (fun _ _ j _ => by omega) (by rw [List.take_length]; exact hh.toP) (fun hd => by rw [List.drop_length]; exact Sq.nil (ht hd))
/-- slots one behind the other -/
def rg : Nat → Nat → List (Option Nat)
  | _, 0 => []
  | a, n + 1 => some a :: rg (a + 1) n
theorem Wp.dr {rid : Nat} {l : List Oper} (hm : c.P.follows .mixedOrders = true) (n : Nat) (slots : List (Option Nat)) (deps : List (List Nat)) (hs : List Hk) (hh : ∀ ps, Heads c l.toArray ps slots hs E L 0 l hs deps)
    (ht : ∀ ps : Nat → Nat, Sq c l.toArray Q (l.drop n) (zipP ps E 0 slots hs) (entsP ps hs (Lat L hs) 0 hs)) (hB : drawB l.toArray n slots deps (hs.map Hk.isSto) c.n = true := by kernel_rfl) (hE : disj E (slots.filterMap id) = true := by rfl)
    (hlen : Nat.beq hs.length n = true := by rfl) : Wp c Q (.region rid l.toArray true) E L := Wp.draw hm n slots deps hs (hs.map Hk.isSto) hB rfl hE hlen hh ht

/-- the operations from n on, where all ahead of them have come up -/
theorem AnyS.tail {l : List Oper} {f : Nat} {listed : Array Bool} (n : Nat) (hf : (l.drop n).length = f) (hs : Region.seqB .any l.toArray f n listed = true) (h : Sq c l.toArray Q (l.drop n) E L) : AnyS c l.toArray Q f listed E L := fun a W s => by
  subst hf
  exact wpAnyIn_of_seq (l.drop n) n listed a W (fun j => by simp) hs (h a W s)
theorem Wm.obf {α β : Type} {o : Option α} {k : α → Wm β} {R : β → Prop} {P : Prop} (h : Wm.bind (Wm.of o) k R) (g : ∀ y, o = some y → k y R → P) : P := (Wm.of_bind h).elim fun y h => g y h.1 h.2
theorem Wm.ex {α β : Type} {m : Wm α} {k : α → Wm β} {R : β → Prop} (h : Wm.bind m k R) : ∃ K : α → Prop, m K ∧ ∀ r, K r → k r R := ⟨_, h, fun _ h => h⟩
end
end Gv

namespace Gv
open Go
set_option linter.unusedVariables false

section
variable {c : Cx} {E : List (Nat × VP)} {L : List Ent} {ops : Array Oper} {Q : Exit → Act → World → Prop}

/-- what an operation leans on -/
def uE (fs : List (Option (Nat × VP))) (E : List (Nat × VP)) : List Nat → List (Nat × VP)
  | [] => E
  | i :: r => match fs[i]? with
    | some (some x) => x :: uE fs E r
    | _ => uE fs E r
def HeadsW (c : Cx) (E : List (Nat × VP)) (L : List Ent) {γ : Type} (K : γ → Prop) (L1 : γ → List Ent) (fs : List (Option (Nat × VP))) : List Oper → List (Option (Nat × VP)) → List (List Nat) → Prop
  | o :: os, some x :: r, u :: us => (HR c (uE fs E u) L o x.2 ∧ ∀ y, K y → HR c (uE fs E u) (L1 y) o x.2) ∧ HeadsW c E L K L1 fs os r us
  | _ :: os, none :: r, _ :: us => HeadsW c E L K L1 fs os r us
  | _, _, _ => True
theorem HeadsW.get {γ : Type} {K : γ → Prop} {L1 : γ → List Ent} {fs : List (Option (Nat × VP))} : ∀ {os : List Oper} {rs : List (Option (Nat × VP))} {us : List (List Nat)}, HeadsW c E L K L1 fs os rs us → ∀ {i : Nat} {o : Oper} {x : Nat × VP} {u : List Nat}, os[i]? = some o → rs[i]? = some (some x) → us[i]? = some u →
    HR c (uE fs E u) L o x.2 ∧ ∀ y, K y → HR c (uE fs E u) (L1 y) o x.2
  | o :: os, some x :: r, u :: us, h, 0, o', x', u', h1, h2, h3 => by
    have e1 : o = o' := by simpa using h1
    have e2 : x = x' := by simpa using h2
    have e3 : u = u' := by simpa using h3
    subst e1 e2 e3
    exact h.1
  | o :: os, some x :: r, u :: us, h, i + 1, o', x', u', h1, h2, h3 => HeadsW.get h.2 (i := i) (by simpa using h1) (by simpa using h2) (by simpa using h3)
  | o :: os, none :: r, u :: us, h, 0, o', x', u', h1, h2, h3 => by simp at h2
  | o :: os, none :: r, u :: us, h, i + 1, o', x', u', h1, h2, h3 => by
    have h : HeadsW c E L K L1 fs os r us := h
    exact HeadsW.get h (i := i) (by simpa using h1) (by simpa using h2) (by simpa using h3)
  | [], _, _, _, i, _, _, _, h1, _, _ => by simp at h1
  | _ :: _, [], _, _, i, _, _, _, _, h2, _ => by simp at h2
  | _ :: _, _ :: _, [], _, i, _, _, _, _, _, h3 => by simp at h3

end
end Gv

namespace Gv
open Go
set_option linter.unusedVariables false
set_option linter.unusedSimpArgs false

/-- the next of n places, whichever has not been met; none: all have been -/
def Nx (n : Nat) (vis : List Nat) : Option Nat → Prop
  | none => ∀ j, j < n → j ∈ vis
  | some j => j < n ∧ j ∉ vis
def Wm.next (n : Nat) (vis : List Nat) : Wm (Option Nat) := fun R => ∀ j, Nx n vis j → R j
structure Es (es : Array MapEntry) (clock n : Nat) : Prop where
  size : es.size = n
  born : ∀ x ∈ es.toList, x.born < clock
  nodup : (es.toList.map MapEntry.born).Nodup

/-- contents, and the very object -/
def CP.and (cp : CP) (o : Obj) : CP where
  holds A W x := cp.holds A W x ∧ x = o
  nilOk := cp.nilOk
  mono e h := ⟨cp.mono e h.1, h.2⟩
section
variable {c : Cx} {E : List (Nat × VP)} {L : List Ent} {ops : Array Oper} {Q : Exit → Act → World → Prop}
variable {d : Option Tmp} {ty : TypeId} {pos : String} {af : Array Edge} {g : Option (Nat × Bool)} {x y z : Operand} {t t2 : TypeId}
variable {κ : Type} [Cl κ] {hp : Pool κ} {loc : List Ent}

theorem St.swap {L' : List Ent} {a : Act} {W : World} (h : St c E L a W) (hk : ks L' = ks L) (ho : ∀ e ∈ L', e.ok (ks L ++ c.A0) W) : St c E L' a W :=
  { defers := h.defers
    size := h.size
    env := by rw [hk]; exact h.env
    fr := h.fr
    own := by rw [hk]; exact ho
    nodup := by rw [hk]; exact h.nodup
    lt := by rw [hk]; exact h.lt
    mine := by rw [hk]; exact h.mine
    old := by rw [hk]; exact h.old }
theorem Kvs.get {α β : Type} [Rp α] [Rp β] {A W} : ∀ {es : List MapEntry} {kv : List (α × β)}, Kvs A W es kv → ∀ {j : Nat} {x : α × β}, kv[j]? = some x → ∃ e, es[j]? = some e ∧ (VP.of x.1).holds A W e.key ∧ (VP.of x.2).holds A W e.val
  | _, _, .nil, j, x, h => by simp at h
  | _, _, .cons h1 h2 r, 0, x, h => by
    have h : some _ = some x := h
    cases h
    exact ⟨_, rfl, h1, h2⟩
  | _, _, .cons h1 h2 r, j + 1, x, h => by
    obtain ⟨e, g1, g2⟩ := r.get (j := j) (by simpa using h)
    exact ⟨e, by simpa using g1, g2⟩

end
end Gv

namespace Gv
open Go
set_option linter.unusedVariables false
set_option linter.unusedSimpArgs false

/-! ### Several operations that make new blocks, one behind another -/
theorem Wm.hd {α ρ : Type} {m : Wm α} {k : α → Wm ρ} {R : ρ → Prop} (h : Wm.bind m k R) : m (fun a => k a R) := h

/-! ### Pointers kept as data, to what nobody writes any more -/
structure Pt (α : Type) where
  p : Option α
  deriving DecidableEq, Inhabited
instance instRpPt {α : Type} [Rp α] : Rp (Pt α) where
  size := 1
  agg := false
  rep A W cs x := match x.p with
    | none => cs = [.pointer none]
    | some y => ∃ v, cs = [v] ∧ (VP.ptr y).holds A W v
  len {A W cs x} h := by
    rcases x with ⟨_ | y⟩
    · have h : cs = _ := h; rw [h]; rfl
    · obtain ⟨v, h, _⟩ := h; rw [h]; rfl
  one {A W cs x} h := by
    intro u hu
    rcases x with ⟨_ | y⟩
    · have h : cs = _ := h; rw [h] at hu; rw [List.mem_singleton.1 hu]; rfl
    · obtain ⟨v, h, b, off, cur, T, fz, rfl, _⟩ := h; rw [h] at hu; rw [List.mem_singleton.1 hu]; rfl
  flat _ := rfl
  mono {A W A' W' cs x} e h := by
    rcases x with ⟨_ | y⟩
    · exact h
    · obtain ⟨v, h, h2⟩ := h; exact ⟨v, h, VP.mono _ e h2⟩
instance {α : Type} [Rp α] : Zc (Pt α) := ⟨[.pointer none], fun _ _ => rfl⟩
/-! ### Functions kept as data -/
/-- a function value that is called: it does what MeetsO says of a function -/
structure MeetsU (P : Program) (τ : VP) (τs : List VP) (Lin : List Ent) {δ : Type} (ρ : δ → VP) (Lo : δ → List Ent) : Prop where
  go : ∀ (A : List Nat) (W : World) (u : Value) (vs : List Value), (∀ k ∈ A, k < W.heap.size ∧ k ∉ ks Lin) → (ks Lin).Nodup → (∀ k ∈ ks Lin, k < W.heap.size) → (∀ e ∈ Lin, e.ok (ks Lin ++ A) W) → HoldsAll (ks Lin ++ A) W (τ :: τs) (u :: vs) →
    ∃ (f : FuncId) (lb : List Value), u = .func (.func f) #[] lb.toArray ∧ En P f ∧ Calls P f (vs ++ lb).toArray W (PostO (ks Lin) A W ρ Lo)
theorem MeetsU.of {P : Program} {f : FuncId} {τ : VP} {τcs τs : List VP} {Lin : List Ent} {δ : Type} {ρ : δ → VP} {Lo : δ → List Ent} (en : En P f) (hτ : ∀ A W u, τ.holds A W u → (VP.clo f τcs).holds A W u)
    (h : MeetsO P f (τs ++ τcs) Lin ρ Lo) : MeetsU P τ τs Lin ρ Lo where
  go A W u vs h1 h2 h3 h4 h5 := by
    cases h5 with
    | cons h6 h7 =>
      obtain ⟨lb, rfl, h8⟩ := hτ _ _ _ h6
      exact ⟨f, lb, rfl, en, h A W (vs ++ lb) h1 h2 h3 h4 (h7.append h8)⟩

section
variable {c : Cx} {E : List (Nat × VP)} {L : List Ent} {ops : Array Oper} {Q : Exit → Act → World → Prop}
variable {d : Option Tmp} {ty : TypeId} {pos : String} {af : Array Edge} {g : Option (Nat × Bool)} {x y z : Operand} {t t2 : TypeId}

variable {κ : Type} [Cl κ] {hp : Pool κ}
/-! ### An object with a row, in the pool -/
theorem pmem1 {p n : Nat} {k : κ} {e : Ent} {es : List Ent} (hL : L.drop n = Ents hp) (h : pat hp p = some k) (hk : Cl.ents p k = e :: es) : e ∈ L := by
  obtain ⟨R, h1, _⟩ := pool_open h
  rw [hk] at h1
  have : e ∈ L.drop n := by rw [hL]; exact h1.mem_iff.2 (by simp)
  exact List.mem_of_mem_drop this
theorem r_loadMX {x : Operand} {t : TypeId} {p o : Nat} {β γ : Type} [Rp β] [Rp γ] {b : β} {os : List (Nat × Value)} (l : Lens β γ) {r : γ} (tt : Ty c.P t γ) (hx : Look c E L x (.eq (.pointer (some ⟨p, o, none⟩))))
    (hm : (⟨some p, .varX b os⟩ : Ent) ∈ L) (ho : o = l.off) (hr : l.get b = r) (ha : apartB os l.off (Rp.size γ) = true) : HR c E L ⟨d, .load t x, ty, pos, af, g⟩ (.of r) := by
  obtain ⟨i, hi⟩ := List.mem_iff_getElem?.1 hm
  exact r_loadX (i := i) l tt hx hi ho hr ha
end

/-! ### A scope without jumps -/
section
variable {P : Program} {b : Frame} {a : Act} {k : List Item} {cs : List Frame} {w : World} {Q : Exit → Act → World → Prop} {F : Fence} {n : Nat}
end
section
variable {c : Cx} {E : List (Nat × VP)} {L : List Ent} {Q : Exit → Act → World → Prop}
end

section
variable {c : Cx} {E : List (Nat × VP)} {L : List Ent}
end

/-! ### Shorter words -/

/-- a pointer to the beginning of a block -/
abbrev VP.pb (p : Nat) : VP := .eq (.pointer (some ⟨p, 0, none⟩))
/-- a variable -/
abbrev vr {α : Type} [Rp α] (p : Nat) (x : α) : Ent := ⟨some p, .var x⟩
/-- the first entries, spelled out -/
inductive NT : Nat → List Ent → List Ent → Prop
  | nil {L : List Ent} : NT 0 L []
  | cons {n : Nat} {e : Ent} {r s : List Ent} : NT n r s → NT (n + 1) (e :: r) (e :: s)
/-- the same entries, spelled out; behind them a pool -/
inductive NP : List Ent → List Ent → Prop
  | nil : NP [] []
  | ents {κ : Type} [Cl κ] {hp : Pool κ} : NP (Ents hp) (Ents hp)
  | rf {l : List Ent} : NP l l
  | cons {e e' : Ent} {r s : List Ent} : e = e' → NP r s → NP (e :: r) (e' :: s)
theorem NP.eq : ∀ {l m : List Ent}, NP l m → l = m
  | _, _, .nil => rfl
  | _, _, @NP.ents _ _ _ => rfl
  | _, _, .rf => rfl
  | _, _, .cons h1 h => by rw [h.eq, h1]
section
variable {c : Cx} {E : List (Nat × VP)} {L : List Ent} {ops : Array Oper} {Q : Exit → Act → World → Prop} {x : Operand}
theorem AnyS.s1 {f : Nat} {listed : Array Bool} {o : Oper} (i : Nat) (h : Sq c ops (QK (wpAnyIn c.F 9 c.P .any ops Q f (listed.setIfInBounds i true)) Q) [o] E L) (ho : ops[i]? = some o := by rfl) (hr : Region.ready .any ops listed = [i] := by kernel_rfl) : AnyS c ops Q (f + 1) listed E L := .step [i] hr rfl ⟨⟨o, ho, h⟩, trivial⟩
theorem AnyS.s2 {f : Nat} {listed : Array Bool} {o o2 : Oper} (i j : Nat) (h : Sq c ops (QK (wpAnyIn c.F 9 c.P .any ops Q f (listed.setIfInBounds i true)) Q) [o] E L) (h2 : Sq c ops (QK (wpAnyIn c.F 9 c.P .any ops Q f (listed.setIfInBounds j true)) Q) [o2] E L)
    (ho : ops[i]? = some o := by rfl) (ho2 : ops[j]? = some o2 := by rfl) (hr : Region.ready .any ops listed = [i, j] := by kernel_rfl) : AnyS c ops Q (f + 1) listed E L := .step [i, j] hr rfl ⟨⟨o, ho, h⟩, ⟨o2, ho2, h2⟩, trivial⟩
theorem Sq.anyA {f : Nat} {listed listed' : Array Bool} {E' : List (Nat × VP)} (k : AnyS c ops Q f listed' E' L) (h : Le E E' := by repeat (first | exact Le.nil | refine Le.same rfl ?_)) (hl : listed = listed' := by kernel_rfl) : Sq c ops (QK (wpAnyIn c.F 9 c.P .any ops Q f listed) Q) [] E L := .nil (.anyA k h hl)
theorem Qcw {α : Type} {b : Bool} {m n : Wm α} {R : α → Prop} {y z : Code} (h : cond b m n R) (ht : m R → Wp c Q y E L) (hf : n R → Wp c Q z E L) (hl : Look c E L x (.of b) := by first | exact look_t rfl | exact look_bool _) : Wp c Q (.cond x y z) E L :=
  .cond hl (fun hb => ht (wcond_t hb h)) (fun hb => hf (wcond_f hb h))
end
/-- an operation that only changes an entry -/
def Hs (up rd wr : List Nat) (e : (Nat → Hid) → Ent) : Hd := ⟨none, up, rd, wr, fun _ => .any, fun hd _ => e hd⟩
section
variable {c : Cx} {E : List (Nat × VP)} {L : List Ent} {ops : Array Oper} {Q : Exit → Act → World → Prop} {hs : List Hd} {i : Nat} {up rd : List Nat} {o : Oper} {dd : Nat}
theorem Du {τ : VP} (h : ∀ {hd : Nat → Hid} {E' : List (Nat × VP)} {L' : List Ent}, (∀ t τ, look (heD hd hs E up) t = some τ → look E' t = some τ) → (∀ j e, (Lf (fun _ => true) hd 0 (hs.take i) L)[j]? = some e → rd.contains j = true → L'[j]? = some e) → HR c E' L' o τ)
    (hg : o.guard = none := by rfl) (hd : o.dst = some dd := by rfl) (hn : Nat.blt dd c.n = true := by rfl) : HeadD c ops Q hs E L i o (Hp dd up rd τ) := Dv (fun _ _ _ a b => h a b) hg hd hn
theorem Hu {τ : VP} {hyp : List Ent → Prop} (h : ∀ {L'}, hyp L' → HR c E L' o τ) (hg : o.guard = none := by rfl) : ∀ L', hyp L' → HO c ops E L' o τ := fun L' hL => .v (h hL) hg
end
/-! ### Regions whose first operations only look -/

/-- heads that only look -/
def mkH : List (Option Nat) → List (List Nat) → List VP → List Hd
  | s :: ss, d :: ds, τ :: ts => ⟨s, d, [], [], fun _ => τ, fun _ _ => ⟨none, .dead⟩⟩ :: mkH ss ds ts
  | _, _, _ => []
def datV : List (Option Nat) → List (List Nat) → List (Option Nat × List Nat × List Nat × List Nat)
  | s :: ss, d :: ds => (s, d, [], []) :: datV ss ds
  | _, _ => []
def zipV (E : List (Nat × VP)) : List (Option Nat) → List (List Nat) → List VP → List (Nat × VP)
  | s :: ss, _ :: ds, τ :: ts => addE s τ (zipV E ss ds ts)
  | _, _, _ => E
def slB : List Oper → List (Option Nat) → Nat → Bool
  | [], [], _ => true
  | o :: os, some s :: ss, n => (match o.dst with | some t => Nat.beq t s | none => false) && Nat.blt s n && slB os ss n
  | _, _, _ => false
section
variable {c : Cx} {E : List (Nat × VP)} {L : List Ent} {ops : Array Oper} {Q : Exit → Act → World → Prop}
def HeadsV (c : Cx) (ops : Array Oper) (E : List (Nat × VP)) (L : List Ent) (hs : List Hd) : List Oper → List (Option Nat) → List (List Nat) → List VP → Prop
  | o :: os, _ :: ss, d :: ds, τ :: ts => (∀ L' : List Ent, (∀ (j : Nat) (e : Ent), L[j]? = some e → unsto (fun _ => false) j 0 [] = true → L'[j]? = some e) → HO c ops (heD (fun _ _ => none) hs E d) L' o τ) ∧ HeadsV c ops E L hs os ss ds ts
  | _, [], [], [] => True
  | _, _, _, _ => False
theorem mkH_mem {h : Hd} : ∀ {ss : List (Option Nat)} {ds : List (List Nat)} {ts : List VP}, h ∈ mkH ss ds ts → h.wr = [] ∧ ∀ g g', h.τ g = h.τ g'
  | _ :: ss, _ :: ds, _ :: ts, hm => by
    rcases List.mem_cons.1 hm with rfl | hm
    · exact ⟨rfl, fun _ _ => rfl⟩
    · exact mkH_mem hm
theorem heD_mk {hd : Nat → Hid} {hs : List Hd} (hc : ∀ h ∈ hs, ∀ g g', h.τ g = h.τ g') : ∀ {d : List Nat}, heD hd hs E d = heD (fun _ _ => none) hs E d
  | [] => rfl
  | j :: r => by
    unfold heD
    cases hj : hs[j]? with
    | none => exact heD_mk hc
    | some h =>
      cases hq : h.slot with
      | none => simp only [hq]; exact heD_mk hc
      | some s => simp only [hq]; rw [hc h (List.mem_of_getElem? hj) _ (msk h.up j (fun _ _ => none)), heD_mk hc]
theorem Lf_mk {hd : Nat → Hid} : ∀ {hs : List Hd} {k : Nat} {L : List Ent}, (∀ h ∈ hs, h.wr = []) → Lf (fun _ => true) hd k hs L = L
  | [], _, _, _ => rfl
  | h :: r, k, L, hw => by
    unfold Lf
    rw [hw h List.mem_cons_self]
    exact Lf_mk fun x hx => hw x (List.mem_cons_of_mem _ hx)
theorem zipD_mk {hd : Nat → Hid} : ∀ {ss : List (Option Nat)} {ds : List (List Nat)} {ts : List VP} {k : Nat}, zipD (fun _ => true) hd E k (mkH ss ds ts) = zipV E ss ds ts
  | some s :: ss, d :: ds, τ :: ts, k => by unfold mkH zipV zipD; simp only [addE]; rw [zipD_mk]
  | none :: ss, d :: ds, τ :: ts, k => by unfold mkH zipV zipD; simp only [addE]; rw [zipD_mk]
  | [], _, _, _ => by unfold mkH zipV zipD; rfl
  | _ :: _, [], _, _ => by unfold mkH zipV zipD; rfl
  | _ :: _, _ :: _, [], _ => by unfold mkH zipV zipD; rfl
theorem Sq.ho {o : Oper} {rest : List Oper} {d : Nat} {τ : VP} {E' : List (Nat × VP)} (h : HO c ops E' L o τ) (hE : ∀ t τ, look E' t = some τ → look E t = some τ) (hd : o.dst = some d) (hn : Nat.blt d c.n = true) (k : Sq c ops Q rest ((d, τ) :: E) L) : Sq c ops Q (o :: rest) E L := fun a W s => by
  obtain ⟨h1, h2⟩ := h a W (s.less fun t τ hl => ⟨τ, hE t τ hl, fun _ _ _ h => h⟩)
  unfold Cx.wpl wpListIn
  by_cases hw : Region.wanted o (yielded ops a.tmps) = true
  · rw [if_pos hw]
    refine ((h1 hw).wpIn fun v W' ⟨f, hv⟩ => ?_)
    rw [hd]
    exact k _ _ ((s.world f).put (by simpa using hn) hv)
  · rw [if_neg hw, hd]
    exact ⟨fun _ _ => trivial, k _ _ (s.put (by simpa using hn) (h2 (by simpa using hw)))⟩
theorem HeadsV.toP {hs : List Hd} (hc : ∀ h ∈ hs, ∀ g g', h.τ g = h.τ g') : ∀ {os : List Oper} {ss : List (Option Nat)} {ds : List (List Nat)} {ts : List VP} {k n : Nat}, HeadsV c ops E L hs os ss ds ts → slB (os.take n) ss c.n = true → HeadsDP c ops Q hs E L 0 k (os.take n) (mkH ss ds ts)
  | os, [], ds, ts, k, n, _, hb => by
    cases h : os.take n with
    | nil => cases ds <;> cases ts <;> trivial
    | cons o r => rw [h] at hb; cases hb
  | [], s :: ss, ds, ts, k, n, _, hb => by rw [List.take_nil] at hb; cases hb
  | o :: os, s :: ss, ds, ts, k, 0, _, hb => by cases hb
  | o :: os, s :: ss, [], ts, k, n + 1, h, _ => h.elim
  | o :: os, s :: ss, d :: ds, [], k, n + 1, h, _ => h.elim
  | o :: os, none :: ss, d :: ds, τ :: ts, k, n + 1, h, hb => by simp [slB] at hb
  | o :: os, some s :: ss, d :: ds, τ :: ts, k, n + 1, h, hb => by
    simp only [List.take_succ_cons, slB, Bool.and_eq_true] at hb
    refine ⟨fun hdd E' L' hE _ hP => ?_, HeadsV.toP hc h.2 hb.2⟩
    have e : L' = L := hP
    subst e
    have hds : o.dst = some s := by
      have := hb.1.1
      cases hd : o.dst with
      | none => rw [hd] at this; cases this
      | some t => rw [hd] at this; rw [look_beq.1 this]
    exact Sq.ho (h.1 _ fun j e he _ => he) (fun t τ hl => hE t τ (by rw [heD_mk hc]; exact hl)) hds hb.1.2 (Sq.nil (To.fin (fun _ => none) rfl rfl))
theorem Wp.dv {rid : Nat} {l : List Oper} {es : List Nat} (hm : c.P.follows .mixedOrders = true) (n : Nat) (slots : List (Option Nat)) (deps : List (List Nat)) (ts : List VP) (hh : HeadsV c l.toArray E L (mkH slots deps ts) l slots deps ts) (ht : Sq c l.toArray Q (l.drop n) (zipV E slots deps ts) L)
    (hds : dat (mkH slots deps ts) = datV slots deps := by rfl) (hes : E.map (·.1) = es := by rfl) (hB : Gv.drawT l.toArray n (datV slots deps) es = true := by kernel_rfl) (hs : slB (l.take n) slots c.n = true := by rfl) : Wp c Q (.region rid l.toArray true) E L :=
  have hc : ∀ h ∈ mkH slots deps ts, ∀ g g', h.τ g = h.τ g' := fun h hm => (mkH_mem hm).2
  Wp.drawTP n (np := 0) hm (mkH slots deps ts) (datV slots deps) es hds hes hB (fun h hm j hj => by rw [(mkH_mem hm).1] at hj; cases hj) (HeadsV.toP hc hh hs) (fun hd => by rw [zipD_mk, Lf_mk fun h hm => (mkH_mem hm).1]; exact ht)
end
/-! ### Loops and ways that meet, ahead of a pool -/
section
variable {c : Cx} {E E1 : List (Nat × VP)} {L L1 : List Ent} {Q : Exit → Act → World → Prop} {x : Operand}
theorem Qlq {σ ε : Type} {body : Code} {N : Nat} {b : σ → Option (σ ⊕ ε)} {s0 : σ} {e : ε} (hl : loopM N b s0 = some e) (ts : List Nat) (u : σ → List (Nat × VP)) (xs : ε → Exit) (ux : ε → List (Nat × VP))
    (hbody : ∀ s r, b s = some r → Wp c (LQG c (fun s (_ : Unit) => u s ++ E1) (fun _ _ => L1) xs (fun e (_ : Unit) => ux e ++ E1) (fun _ _ => L1) r) body (u s ++ E1) L1)
    (hafter : To c Q (xs e) (ux e ++ E1) L1)
    (hL1 : NL L L1 := by repeat (first | exact NL.nil | apply NL.cons))
    (hE1 : Sb E ts E1 := by repeat (first | exact Sb.nil | (apply Sb.cons; rfl))) (hE : Le E (u s0 ++ E1) := by repeat (first | exact Le.nil | refine Le.same rfl ?_)) : Wp c Q (.loop body) E L :=
  Wp.loopG hl (fun s (_ : Unit) => u s ++ E1) (fun _ _ => L1) xs (fun e (_ : Unit) => ux e ++ E1) (fun _ _ => L1) () hL1.eq hE (fun s r h _ => hbody s r h) (fun _ => hafter)
end
/-- slots that hold the parts of a state -/
class Tup (σ : Type) where
  vl : List Nat → σ → List (Nat × VP)
instance (priority := low) tup1 {α : Type} [Rp α] : Tup α := ⟨fun ns x => match ns with | n :: _ => [(n, .of x)] | [] => []⟩
instance tup2 {α β : Type} [Rp α] [Tup β] : Tup (α × β) := ⟨fun ns x => match ns with | n :: r => (n, .of x.1) :: Tup.vl r x.2 | [] => []⟩
abbrev Xex {ε : Type} (n : Nat) (_ : ε) : Exit := .exit n
abbrev Xrt {ε : Type} (_ : ε) : Exit := .ret
/-- what is known, spelled out -/
inductive NE : List (Nat × VP) → List (Nat × VP) → Prop
  | nil : NE [] []
  | cons {x : Nat × VP} {r s : List (Nat × VP)} : NE r s → NE (x :: r) (x :: s)
theorem NE.eq : ∀ {l m : List (Nat × VP)}, NE l m → l = m
  | _, _, .nil => rfl
  | _, _, .cons h => by rw [h.eq]
section
variable {c : Cx} {E E1 : List (Nat × VP)} {L : List Ent} {ops : Array Oper} {Q : Exit → Act → World → Prop}
theorem Qte {z : Exit} (k : To c Q z E1 L) (h : NE E E1 := by repeat (first | exact NE.nil | apply NE.cons)) : To c Q z E L := by rw [h.eq]; exact k
theorem Wp.eD {rid : Nat} {l : List Oper} {ds : List (Option Nat × List Nat × List Nat × List Nat)} {es : List Nat} (hm : c.P.follows .mixedOrders = true) (hs : List Hd)
    (hh : HeadsD c l.toArray Q hs E L 0 l hs) (ht : ∀ hd, To c Q .normal (zipD (fun _ => true) hd E 0 hs) (Lf (fun _ => true) hd 0 hs L))
    (hds : dat hs = ds := by rfl) (hes : E.map (·.1) = es := by rfl) (hB : Gv.drawT l.toArray l.length ds es = true := by kernel_rfl) : Wp c Q (.region rid l.toArray true) E L := .dD hm hs es hh ht hds hes hB
end
end Gv

namespace Gv
open Go
set_option linter.unusedVariables false

def memN (n : Nat) : List Nat → Bool
  | [] => false
  | m :: r => bif Nat.beq m n then true else memN n r
theorem memN_iff {n : Nat} : ∀ {l : List Nat}, memN n l = true ↔ n ∈ l
  | [] => by simp [memN]
  | m :: r => by
    unfold memN
    cases h : Nat.beq m n with
    | true => have := Nat.eq_of_beq_eq_true h; subst this; simp
    | false =>
      have hne : n ≠ m := fun e => by subst e; rw [Nat.beq_refl] at h; cases h
      simp only [cond_false, memN_iff, List.mem_cons, hne, false_or]
/-- what is known of the slots that have been filled -/
def gE (ls : Nat → Bool) (E : List (Nat × VP)) : List (Nat × Nat × VP) → List (Nat × VP)
  | [] => E
  | x :: r => bif ls x.1 then x.2 :: gE ls E r else gE ls E r
def fndN (i : Nat) : List (Nat × Nat × VP) → Option VP
  | [] => none
  | x :: r => bif Nat.beq x.1 i then some x.2.2 else fndN i r
def fnd2 (i : Nat) : List (Nat × Nat × VP) → Option (Nat × VP)
  | [] => none
  | x :: r => bif Nat.beq x.1 i then some x.2 else fnd2 i r
def dpN : List Edge → List Nat
  | [] => []
  | e :: r => bif Region.binds .any e then e.on :: dpN r else dpN r
theorem dpN_mem {d : Nat} : ∀ {l : List Edge}, d ∈ dpN l ↔ ∃ e ∈ l, Region.binds .any e = true ∧ e.on = d
  | [] => by simp [dpN]
  | e :: r => by
    unfold dpN
    cases h : Region.binds .any e with
    | true =>
      simp only [cond_true, List.mem_cons, dpN_mem]
      constructor
      · rintro (rfl | ⟨e', h1, h2, h3⟩)
        · exact ⟨e, .inl rfl, h, rfl⟩
        · exact ⟨e', .inr h1, h2, h3⟩
      · rintro ⟨e', rfl | h1, h2, h3⟩
        · exact .inl h3.symm
        · exact .inr ⟨e', h1, h2, h3⟩
    | false =>
      simp only [cond_false, dpN_mem, List.mem_cons]
      constructor
      · rintro ⟨e', h1, h2⟩; exact ⟨e', .inr h1, h2⟩
      · rintro ⟨e', rfl | h1, h2, h3⟩
        · rw [h] at h2; cases h2
        · exact ⟨e', h1, h2, h3⟩
def depN (o : Oper) : List Nat := dpN o.after.toList
def ksN (fs : List (Nat × Nat × VP)) : List Nat := fs.map (·.2.1)
structure OkN (fs : List (Nat × Nat × VP)) (E : List (Nat × VP)) : Prop where
  nd : (ksN fs).Nodup
  out : ∀ t ∈ ksN fs, look E t = none
theorem OkN.app {fs gs : List (Nat × Nat × VP)} {M : List (Nat × VP)} (h : OkN (gs ++ fs) M) : OkN fs M := ⟨by have := h.nd; unfold ksN at this; rw [List.map_append] at this; exact (List.nodup_append.1 this).2.1, fun t ht => h.out t (by unfold ksN; rw [List.map_append]; exact List.mem_append.2 (.inr ht))⟩
theorem nd_inj {α β : Type} {f : α → β} : ∀ {l : List α}, (l.map f).Nodup → ∀ {x y : α}, x ∈ l → y ∈ l → f x = f y → x = y
  | z :: r, h, x, y, hx, hy, e => by
    obtain ⟨h1, h2⟩ := List.nodup_cons.1 h
    rcases List.mem_cons.1 hx with e1 | hx
    · rcases List.mem_cons.1 hy with e2 | hy
      · rw [e1, e2]
      · exact absurd (List.mem_map.2 ⟨y, hy, by rw [← e, e1]⟩) h1
    · rcases List.mem_cons.1 hy with e2 | hy
      · exact absurd (List.mem_map.2 ⟨x, hx, by rw [e, e2]⟩) h1
      · exact nd_inj h2 hx hy e
theorem gE_iff {ls : Nat → Bool} {E : List (Nat × VP)} {t : Nat} {τ : VP} : ∀ {fs : List (Nat × Nat × VP)}, OkN fs E → (look (gE ls E fs) t = some τ ↔ (∃ i, ls i = true ∧ (i, t, τ) ∈ fs) ∨ look E t = some τ)
  | [], _ => by simp [gE]
  | x :: r, ok => by
    have h1 := List.nodup_cons.1 ok.nd
    have ih := gE_iff (ls := ls) (t := t) (τ := τ) (fs := r) ⟨h1.2, fun t ht => ok.out t (List.mem_cons_of_mem _ ht)⟩
    have hE : look E t = some τ → x.2.1 ≠ t := fun h e => by rw [← e, ok.out _ List.mem_cons_self] at h; cases h
    have hr : ∀ i, (i, t, τ) ∈ r → x.2.1 ≠ t := fun i h e => h1.1 (by show x.2.1 ∈ _; rw [e]; exact List.mem_map.2 ⟨_, h, rfl⟩)
    unfold gE
    cases hl : ls x.1 with
    | false =>
      simp only [cond_false, ih]
      refine or_congr ⟨fun ⟨i, h1, h2⟩ => ⟨i, h1, List.mem_cons_of_mem _ h2⟩, fun ⟨i, h1, h2⟩ => ?_⟩ Iff.rfl
      rcases List.mem_cons.1 h2 with e | h2
      · rw [← e, h1] at hl; cases hl
      · exact ⟨i, h1, h2⟩
    | true =>
      simp only [cond_true, look]
      cases hb : Nat.beq x.2.1 t with
      | true =>
        have e := look_beq.1 hb
        simp only [cond_true, Option.some.injEq]
        constructor
        · intro h; exact .inl ⟨x.1, hl, by rw [← e, ← h]; exact List.mem_cons_self⟩
        · rintro (⟨i, _, h2⟩ | h)
          · rcases List.mem_cons.1 h2 with e2 | h2
            · rw [← e2]
            · exact absurd e (hr i h2)
          · exact absurd e (hE h)
      | false =>
        have e : x.2.1 ≠ t := fun e => by rw [e, Nat.beq_refl] at hb; cases hb
        simp only [cond_false, ih]
        refine or_congr ⟨fun ⟨i, h1, h2⟩ => ⟨i, h1, List.mem_cons_of_mem _ h2⟩, fun ⟨i, h1, h2⟩ => ?_⟩ Iff.rfl
        rcases List.mem_cons.1 h2 with e2 | h2
        · exact absurd (by rw [← e2]) e
        · exact ⟨i, h1, h2⟩
theorem gE_up {us ls : Nat → Bool} {E : List (Nat × VP)} {t : Nat} {τ : VP} {fs : List (Nat × Nat × VP)} (hu : ∀ i, us i = true → ls i = true) (ok : OkN fs E) (h : look (gE us E fs) t = some τ) : look (gE ls E fs) t = some τ :=
  (gE_iff ok).2 (((gE_iff ok).1 h).imp (fun ⟨i, h1, h2⟩ => ⟨i, hu i h1, h2⟩) id)
theorem gE_split {ls ls' : Nat → Bool} {E : List (Nat × VP)} {i t u : Nat} {τ σ : VP} {fs : List (Nat × Nat × VP)} (hls : ∀ j, ls' j = true → ls j = true ∨ j = i) (ok : OkN fs E) (hm : (i, t, τ) ∈ fs) (hnd : (fs.map (·.1)).Nodup) (h : look (gE ls' E fs) u = some σ) : look ((t, τ) :: gE ls E fs) u = some σ := by
  simp only [look]
  cases hb : Nat.beq t u with
  | true =>
    have e := look_beq.1 hb
    subst e
    rcases (gE_iff ok).1 h with ⟨j, _, h2⟩ | h2
    · have := nd_inj ok.nd hm h2 rfl
      cases this; rfl
    · rw [ok.out t (List.mem_map.2 ⟨_, hm, rfl⟩)] at h2; cases h2
  | false =>
    refine (gE_iff ok).2 (((gE_iff ok).1 h).imp (fun ⟨j, h1, h2⟩ => ⟨j, ?_, h2⟩) id)
    rcases hls j h1 with h3 | h3
    · exact h3
    · subst h3
      have := nd_inj hnd hm h2 rfl
      cases this
      rw [Nat.beq_refl] at hb; cases hb
theorem look_app {t : Nat} {B : List (Nat × VP)} : ∀ {A : List (Nat × VP)}, look (A ++ B) t = match look A t with | some τ => some τ | none => look B t
  | [] => rfl
  | x :: r => by
    simp only [List.cons_append, look]
    cases Nat.beq x.1 t with
    | true => rfl
    | false => exact look_app
theorem gE_app {ls : Nat → Bool} {E M : List (Nat × VP)} {t : Nat} {τ : VP} {fs : List (Nat × Nat × VP)} (ok : OkN fs (M ++ E)) (h : look (gE ls (M ++ E) fs) t = some τ) : look (M ++ gE ls E fs) t = some τ := by
  have out : ∀ t ∈ ksN fs, look M t = none ∧ look E t = none := fun t ht => by
    have h := ok.out t ht
    rw [look_app] at h
    cases hM : look M t with
    | some τ => rw [hM] at h; cases h
    | none => rw [hM] at h; exact ⟨rfl, h⟩
  have ok2 : OkN fs E := ⟨ok.nd, fun t ht => (out t ht).2⟩
  rw [look_app]
  rcases (gE_iff ok).1 h with ⟨i, h1, h2⟩ | h1
  · rw [(out t (List.mem_map.2 ⟨_, h2, rfl⟩)).1]
    exact (gE_iff ok2).2 (.inl ⟨i, h1, h2⟩)
  · rw [look_app] at h1
    cases hM : look M t with
    | some σ => rw [hM] at h1; exact h1
    | none => rw [hM] at h1; exact (gE_iff ok2).2 (.inr h1)
section
variable {c : Cx} {E : List (Nat × VP)} {L : List Ent} {l : List Oper} {Q : Exit → Act → World → Prop}

structure PI (l : List Oper) (eff pe : List Nat) (ls : Array Bool) : Prop where
  size : ls.size = l.length
  eq : ∀ i, i ∈ eff → ls.getD i false = memN i pe
  dn : ∀ i o, l[i]? = some o → ls.getD i false = true → ∀ d ∈ depN o, ls.getD d false = true
def unN (l : List Oper) (ls : Array Bool) : Nat := ((List.range l.length).filter fun j => !ls.getD j false).length
/-- the region goes on from here: of the operations that do more than look those of pe have come up, and no others -/
def AnyP (c : Cx) (l : List Oper) (Q : Exit → Act → World → Prop) (eff pe : List Nat) (fs : List (Nat × Nat × VP)) (E : List (Nat × VP)) (L : List Ent) : Prop :=
  (OkN fs E ∧ ∀ x ∈ fs, memN x.1 eff = false) ∧ ∀ m ls a W, PI l eff pe ls → unN l ls ≤ m → St c (gE (fun i => ls.getD i false) E fs) L a W → wpAnyIn c.F 9 c.P .any l.toArray Q m ls a W

/-- each of these only looks -/
def LP (c : Cx) (l : List Oper) (E : List (Nat × VP)) (L : List Ent) (fs : List (Nat × Nat × VP)) : List Nat → Prop
  | [] => True
  | i :: r => (match l[i]?, fndN i fs with | some o, some τ => HO c l.toArray (gE (fun j => memN j (depN o)) E fs) L o τ | _, _ => False) ∧ LP c l E L fs r
theorem LP.get {fs : List (Nat × Nat × VP)} : ∀ {nl : List Nat}, LP c l E L fs nl → ∀ {i : Nat}, i ∈ nl → ∃ o τ, l[i]? = some o ∧ fndN i fs = some τ ∧ HO c l.toArray (gE (fun j => memN j (depN o)) E fs) L o τ
  | j :: r, h, i, hi => by
    rcases List.mem_cons.1 hi with rfl | hi
    · have h1 := h.1
      cases h2 : l[i]? with
      | none => rw [h2] at h1; exact h1.elim
      | some o =>
        cases h3 : fndN i fs with
        | none => rw [h2, h3] at h1; exact h1.elim
        | some τ => rw [h2, h3] at h1; exact ⟨o, τ, rfl, rfl, h1⟩
    · exact LP.get h.2 hi
/-- what happens where operation k comes up now -/
def EO (c : Cx) (l : List Oper) (Q : Exit → Act → World → Prop) (eff pe : List Nat) (fs : List (Nat × Nat × VP)) (E : List (Nat × VP)) (L : List Ent) (k : Nat) : Prop :=
  OkN fs E → ∀ m ls o, l[k]? = some o → PI l eff pe ls → ls.getD k false = false → (∀ d ∈ depN o, ls.getD d false = true) → unN l (ls.setIfInBounds k true) ≤ m →
    Sq c l.toArray (QK (wpAnyIn c.F 9 c.P .any l.toArray Q m (ls.setIfInBounds k true)) Q) [o] (gE (fun i => ls.getD i false) E fs) L
def EP (c : Cx) (l : List Oper) (Q : Exit → Act → World → Prop) (eff pe : List Nat) (fs : List (Nat × Nat × VP)) (E : List (Nat × VP)) (L : List Ent) : List Nat → Prop
  | [] => True
  | k :: r => EO c l Q eff pe fs E L k ∧ EP c l Q eff pe fs E L r
theorem EP.get {eff pe : List Nat} {fs : List (Nat × Nat × VP)} : ∀ {el : List Nat}, EP c l Q eff pe fs E L el → ∀ {k : Nat}, k ∈ el → EO c l Q eff pe fs E L k
  | _ :: _, h, k, hk => by
    rcases List.mem_cons.1 hk with rfl | hk
    · exact h.1
    · exact EP.get h.2 hk
/-- these have come up, as something that waits for them has -/
def fcB (l : List Oper) : List Nat → List Nat → Bool
  | _, [] => true
  | acc, i :: r => (acc.any fun k => match l[k]? with | some o => memN i (depN o) | none => false) && fcB l (i :: acc) r
theorem fcB_listed {ls : Array Bool} (hd : ∀ i o, l[i]? = some o → ls.getD i false = true → ∀ d ∈ depN o, ls.getD d false = true) : ∀ {fc acc : List Nat}, fcB l acc fc = true → (∀ k ∈ acc, ls.getD k false = true) → ∀ i ∈ fc, ls.getD i false = true
  | i :: r, acc, h, ha, j, hj => by
    simp only [fcB, Bool.and_eq_true, List.any_eq_true] at h
    obtain ⟨⟨k, hk, h1⟩, h2⟩ := h
    have hi : ls.getD i false = true := by
      cases ho : l[k]? with
      | none => rw [ho] at h1; cases h1
      | some o => rw [ho] at h1; exact hd k o ho (ha k hk) i (memN_iff.1 h1)
    rcases List.mem_cons.1 hj with rfl | hj
    · exact hi
    · exact fcB_listed hd h2 (fun k hk => by rcases List.mem_cons.1 hk with rfl | hk; exact hi; exact ha k hk) j hj
/-- these have not come up, as what they wait for has not -/
def nwB (l : List Oper) : List Nat → List Nat → Bool
  | _, [] => true
  | acc, i :: r => (match l[i]? with | some o => acc.any fun k => memN k (depN o) | none => false) && nwB l (i :: acc) r
theorem nwB_not {ls : Array Bool} (hd : ∀ i o, l[i]? = some o → ls.getD i false = true → ∀ d ∈ depN o, ls.getD d false = true) : ∀ {nw acc : List Nat}, nwB l acc nw = true → (∀ k ∈ acc, ls.getD k false = false) → ∀ i ∈ nw, ls.getD i false = false
  | i :: r, acc, h, ha, j, hj => by
    simp only [nwB, Bool.and_eq_true] at h
    obtain ⟨h1, h2⟩ := h
    have hi : ls.getD i false = false := by
      cases ho : l[i]? with
      | none => rw [ho] at h1; cases h1
      | some o =>
        rw [ho, List.any_eq_true] at h1
        obtain ⟨k, hk, h3⟩ := h1
        cases hl : ls.getD i false with
        | false => rfl
        | true => have := hd i o ho hl k (memN_iff.1 h3); rw [ha k hk] at this; cases this
    rcases List.mem_cons.1 hj with rfl | hj
    · exact hi
    · exact nwB_not hd h2 (fun k hk => by rcases List.mem_cons.1 hk with rfl | hk; exact hi; exact ha k hk) j hj

/-- these can't have come up -/
def blkG (l : List Oper) (eff pe : List Nat) : List Nat → List Nat → List Nat
  | [], acc => acc
  | i :: r, acc => blkG l eff pe r (match l[i]? with | some o => (bif (memN i eff && !memN i pe) || (depN o).any (fun d => memN d acc) then i :: acc else acc) | none => acc)
theorem blkG_not {l : List Oper} {eff pe : List Nat} {ls : Array Bool} (he : ∀ i, i ∈ eff → ls.getD i false = memN i pe) (hd : ∀ i o, l[i]? = some o → ls.getD i false = true → ∀ d ∈ depN o, ls.getD d false = true) : ∀ {is acc : List Nat}, (∀ k ∈ acc, ls.getD k false = false) → ∀ k ∈ blkG l eff pe is acc, ls.getD k false = false
  | [], acc, ha, k, hk => ha k hk
  | i :: r, acc, ha, k, hk => by
    rw [blkG] at hk
    revert hk
    generalize hacc : (match l[i]? with | some o => (bif (memN i eff && !memN i pe) || (depN o).any (fun d => memN d acc) then i :: acc else acc) | none => acc) = acc2
    intro hk
    refine blkG_not he hd (fun j hj => ?_) k hk
    rw [← hacc] at hj
    cases ho : l[i]? with
    | none => rw [ho] at hj; exact ha j hj
    | some o =>
      rw [ho] at hj
      simp only at hj
      cases hc : (memN i eff && !memN i pe) || (depN o).any (fun d => memN d acc) with
      | false => rw [hc] at hj; exact ha j hj
      | true =>
        rw [hc] at hj
        rcases List.mem_cons.1 hj with rfl | hj
        · rcases Bool.or_eq_true_iff.1 hc with h | h
          · simp only [Bool.and_eq_true, Bool.not_eq_true'] at h
            rw [he j (memN_iff.1 h.1), h.2]
          · obtain ⟨d, hdo, hda⟩ := List.any_eq_true.1 h
            cases hj2 : ls.getD j false with
            | false => rfl
            | true => have := hd j o ho hj2 d hdo; rw [ha d (memN_iff.1 hda)] at this; cases this
        · exact ha j hj
/-- what is asked of a phase: n operations, those that do more than look, those of them that have come up, others that must have, those that look and may come up now, those that do more and may -/
def phB (l : List Oper) (cn : Nat) (eff pe fc nl el : List Nat) (ks : List (Nat × Nat)) (es : List Nat) : Bool :=
  (List.range l.length).all (fun i => match l[i]? with
    | none => false
    | some o => (depN o).all (fun d => Nat.blt d i) && (bif memN i eff then memN i pe || memN i el || (depN o).any (fun d => memN d (blkG l eff pe (List.range l.length) []))
      else memN i fc || (depN o).any (fun d => memN d (blkG l eff pe (List.range l.length) [])) || (memN i nl && ks.any fun x => Nat.beq x.1 i && (match o.dst with | some t => Nat.beq t x.2 | none => false)))) &&
  fcB l pe fc && eff.all (fun i => Nat.blt i l.length) && pe.all (fun i => memN i eff) && ks.all (fun x => Nat.blt x.1 l.length) && decide (ks.map (·.2)).Nodup && (ks.map (·.1)).all (fun i => !memN i eff) && ks.all (fun x => Nat.blt x.2 cn && !memN x.2 es) && decide (ks.map (·.1)).Nodup
theorem look_none {t : Nat} : ∀ {E : List (Nat × VP)}, memN t (E.map (·.1)) = false → look E t = none
  | [], _ => rfl
  | x :: r, h => by
    simp only [List.map_cons, memN] at h
    cases hb : Nat.beq x.1 t with
    | true => rw [hb] at h; cases h
    | false => rw [hb] at h; simp only [look, hb, cond_false]; exact look_none h
theorem fndN_mem {i : Nat} {τ : VP} : ∀ {fs : List (Nat × Nat × VP)}, fndN i fs = some τ → ∃ t, (i, t, τ) ∈ fs
  | x :: r, h => by
    unfold fndN at h
    cases hb : Nat.beq x.1 i with
    | true =>
      rw [hb] at h
      have e : x.2.2 = τ := by simpa using h
      have := look_beq.1 hb
      subst this e
      exact ⟨x.2.1, List.mem_cons_self⟩
    | false => rw [hb] at h; obtain ⟨t, ht⟩ := fndN_mem h; exact ⟨t, List.mem_cons_of_mem _ ht⟩

theorem St.subE {E' : List (Nat × VP)} {a : Act} {W : World} (s : St c E L a W) (h : ∀ t τ, look E' t = some τ → look E t = some τ) : St c E' L a W := s.less fun t τ hl => ⟨τ, h t τ hl, fun _ _ _ h => h⟩
/-- one step of a phase -/
theorem AnyP.core {cn : Nat} {eff pe : List Nat} {fs : List (Nat × Nat × VP)} {ks : List (Nat × Nat)} {es : List Nat} (fc nl el : List Nat) (hL : LP c l E L fs nl) (hE : EP c l Q eff pe fs E L el)
    (hend : (∀ k ∈ eff, k ∈ pe) → To c Q .normal (gE (fun _ => true) E fs) L) (hks : fs.map (fun x => (x.1, x.2.1)) = ks) (hes : E.map (·.1) = es) (hcn : c.n = cn) (hB : phB l cn eff pe fc nl el ks es = true) : AnyP c l Q eff pe fs E L := by
  subst hks hes hcn
  simp only [phB, Bool.and_eq_true, List.all_eq_true, decide_eq_true_eq, List.map_map] at hB
  obtain ⟨⟨⟨⟨⟨⟨⟨⟨hall, hfc⟩, hel⟩, hpe⟩, hkl⟩, hnd⟩, hne⟩, hsl⟩, hni⟩ := hB
  have ok : OkN fs E := ⟨by simpa [ksN, Function.comp_def] using hnd, fun t ht => by
    obtain ⟨x, hx, rfl⟩ := List.mem_map.1 ht
    have := hsl (x.1, x.2.1) (List.mem_map.2 ⟨x, hx, rfl⟩)
    exact look_none (by simpa using this.2)⟩
  have hni : (fs.map (·.1)).Nodup := by simpa [Function.comp_def] using hni
  have hop : ∀ i, i < l.length → ∃ o, l[i]? = some o ∧ (∀ d ∈ depN o, d < i) ∧ ((bif memN i eff then memN i pe || memN i el || (depN o).any (fun d => memN d (blkG l eff pe (List.range l.length) []))
      else memN i fc || (depN o).any (fun d => memN d (blkG l eff pe (List.range l.length) [])) || (memN i nl && (fs.map fun x => (x.1, x.2.1)).any fun x => Nat.beq x.1 i && (match o.dst with | some t => Nat.beq t x.2 | none => false))) = true) := fun i hi => by
    have h := hall i (List.mem_range.2 hi)
    cases ho : l[i]? with
    | none => rw [ho] at h; cases h
    | some o =>
      rw [ho] at h
      simp only [Bool.and_eq_true, List.all_eq_true] at h
      exact ⟨o, rfl, fun d hd => by simpa using h.1 d hd, h.2⟩
  have hno : ∀ (ls : Array Bool), PI l eff pe ls → ∀ (o : Oper), (∀ d ∈ depN o, ls.getD d false = true) → (depN o).any (fun d => memN d (blkG l eff pe (List.range l.length) [])) = false := fun ls inv o hd => by
    rw [List.any_eq_false]
    intro d hdo h
    have := blkG_not inv.eq inv.dn (by simp) d (memN_iff.1 h)
    rw [hd d hdo] at this; cases this
  have hlt : ∀ (ls : Array Bool), PI l eff pe ls → ∀ i, ls.getD i false = true → i < l.length := fun ls inv i h => by
    rw [← inv.size]
    rcases Nat.lt_or_ge i ls.size with h' | h'
    · exact h'
    · simp [Array.getElem?_eq_none h'] at h
  have hdone : ∀ (ls : Array Bool) (a : Act) (W : World), PI l eff pe ls → (∀ i, i < l.length → ls.getD i false = true) → St c (gE (fun i => ls.getD i false) E fs) L a W → Region.ready .any l.toArray ls = [] ∧ Q .normal a W := fun ls a W inv h st => by
    refine ⟨?_, hend (fun k hk => ?_) a W (st.subE fun t τ hl => (gE_iff ok).2 (((gE_iff ok).1 hl).imp (fun ⟨i, _, h2⟩ => ⟨i, ?_, h2⟩) id))⟩
    · rw [List.eq_nil_iff_forall_not_mem]
      intro j hj
      obtain ⟨h1, o, ho, _⟩ := mem_ready.1 hj
      have hjl : j < l.length := by simpa using (Array.getElem?_eq_some_iff.1 ho).1
      have := getD_both h1
      rw [h j hjl] at this; cases this
    · have := inv.eq k hk
      rw [h k (by simpa using hel k hk)] at this
      exact memN_iff.1 this.symm
    · have := hkl (i, t) (List.mem_map.2 ⟨_, h2, rfl⟩)
      exact h i (by simpa using this)
  have hall2 : ∀ (ls : Array Bool), PI l eff pe ls → (∀ i, i < l.length → ls.getD i false = true) ∨ ∃ i, i < l.length ∧ ls.getD i false = false := fun ls inv => by
    by_cases h : ∃ i, i < l.length ∧ ls.getD i false = false
    · exact .inr h
    · refine .inl fun i hi => ?_
      cases hl : ls.getD i false with
      | true => rfl
      | false => exact absurd ⟨i, hi, hl⟩ h
  refine ⟨⟨ok, fun x hx => ?_⟩, fun m => ?_⟩
  · have := hne x.1 (List.mem_map.2 ⟨x, hx, rfl⟩)
    simpa using this
  induction m with
  | zero =>
    intro ls a W inv hm st
    rcases hall2 ls inv with h | ⟨i, hi, h⟩
    · exact hdone ls a W inv h st
    · have : i ∈ (List.range l.length).filter fun j => !ls.getD j false := List.mem_filter.2 ⟨List.mem_range.2 hi, by rw [h]; rfl⟩
      unfold unN at hm
      rw [List.length_eq_zero_iff.1 (Nat.le_zero.1 hm)] at this; cases this
  | succ m ih =>
    intro ls a W inv hm st
    refine ⟨fun h0 => ?_, fun i hi => ?_⟩
    · rcases hall2 ls inv with h | ⟨i, hi, h⟩
      · exact (hdone ls a W inv h st).2
      · exfalso
        have key : ∀ d i, i ≤ d → i < l.length → ls.getD i false = true := by
          intro d
          induction d with
          | zero =>
            intro i hi0 hi
            cases hl : ls.getD i false with
            | true => rfl
            | false =>
              obtain ⟨o, ho, hd, _⟩ := hop i hi
              have : i ∈ Region.ready .any l.toArray ls := mem_ready.2 ⟨getD_in (by rw [inv.size]; exact hi) hl, o, by simpa using ho, fun e he hb => by
                have := hd e.on (dpN_mem.2 ⟨e, by simpa using he, hb, rfl⟩); omega⟩
              rw [h0] at this; cases this
          | succ d ihd =>
            intro i hi0 hi
            cases hl : ls.getD i false with
            | true => rfl
            | false =>
              obtain ⟨o, ho, hd, _⟩ := hop i hi
              have : i ∈ Region.ready .any l.toArray ls := mem_ready.2 ⟨getD_in (by rw [inv.size]; exact hi) hl, o, by simpa using ho, fun e he hb => by
                have h1 := hd e.on (dpN_mem.2 ⟨e, by simpa using he, hb, rfl⟩)
                exact ihd e.on (by omega) (by omega)⟩
              rw [h0] at this; cases this
        rw [key i i (Nat.le_refl _) hi] at h; cases h
    · obtain ⟨hun, o, ho, hlisted⟩ := mem_ready.1 hi
      have hun := getD_both hun
      have ho' : l[i]? = some o := by simpa using ho
      have hil : i < l.length := (List.getElem?_eq_some_iff.1 ho').1
      have hdl : ∀ d ∈ depN o, ls.getD d false = true := fun d hd => by
        obtain ⟨e, h1, h2, rfl⟩ := dpN_mem.1 hd
        exact hlisted e (by simpa using h1) h2
      have hset : ∀ j, (ls.setIfInBounds i true).getD j false = true → ls.getD j false = true ∨ j = i := fun j hj => by
        by_cases e : i = j
        · exact .inr e.symm
        · rw [getD_set_ne false e] at hj; exact .inl hj
      have hcnt : unN l (ls.setIfInBounds i true) ≤ m := by
        have : unN l (ls.setIfInBounds i true) < unN l ls := by
          refine cnt_lt (fun j => !ls.getD j false) (fun j => !(ls.setIfInBounds i true).getD j false) i (by simp only [hun]; rfl) (by simp [inv.size, hil]) (fun j hj => ?_) l.length hil
          cases hj2 : ls.getD j false with
          | false => rfl
          | true => simp only [getD_set_true hj2] at hj; cases hj
        omega
      obtain ⟨o2, ho2, _, hcase⟩ := hop i hil
      rw [ho'] at ho2; cases ho2
      cases hie : memN i eff with
      | true =>
        rw [hie] at hcase
        simp only [cond_true, Bool.or_eq_true] at hcase
        rcases hcase with (h1 | h1) | h1
        · have := inv.eq i (memN_iff.1 hie)
          rw [hun, h1] at this; cases this
        · exact wpOp_of_list ho (EP.get hE (memN_iff.1 h1) ok m ls o ho' inv hun hdl hcnt a W st)
        · rw [hno ls inv o hdl] at h1; cases h1
      | false =>
        rw [hie] at hcase
        simp only [cond_false, Bool.or_eq_true] at hcase
        rcases hcase with (h1 | h1) | h1
        · have := fcB_listed inv.dn hfc (fun k hk => by rw [inv.eq k (memN_iff.1 (hpe k hk))]; exact memN_iff.2 hk) i (memN_iff.1 h1)
          rw [hun] at this; cases this
        · rw [hno ls inv o hdl] at h1; cases h1
        · simp only [Bool.and_eq_true, List.any_eq_true] at h1
          obtain ⟨h1, ⟨x, hx, hx1, hx2⟩⟩ := h1
          obtain ⟨y, hy, rfl⟩ := List.mem_map.1 hx
          obtain ⟨o3, τ, ho3, hf, hH⟩ := LP.get hL (memN_iff.1 h1)
          rw [ho'] at ho3; cases ho3
          obtain ⟨t, ht⟩ := fndN_mem hf
          have hyi := look_beq.1 hx1
          have := nd_inj hni hy ht hyi
          subst this
          have hdst : o.dst = some t := by
            cases hd : o.dst with
            | none => rw [hd] at hx2; cases hx2
            | some z => rw [hd] at hx2; rw [look_beq.1 hx2]
          have hn : Nat.blt t c.n = true := by
            have := hsl (i, t) hx
            simp only [Bool.and_eq_true] at this; exact this.1
          have st2 : St c (gE (fun j => memN j (depN o)) E fs) L a W := st.subE fun u σ h => gE_up (fun j hj => hdl j (memN_iff.1 hj)) ok h
          have inv2 : PI l eff pe (ls.setIfInBounds i true) := ⟨by rw [Array.size_setIfInBounds]; exact inv.size, fun k hk => (by
              rw [getD_set_ne false (fun e => by subst e; rw [memN_iff.2 hk] at hie; cases hie)]; exact inv.eq k hk), fun k ok' hok hk d hd => (by
              rcases hset k hk with h | rfl
              · exact getD_set_true (inv.dn k ok' hok h d hd)
              · rw [ho'] at hok; cases hok; exact getD_set_true (hdl d hd))⟩
          have fin : ∀ v W', Fr [] W W' → τ.holds (ks L ++ c.A0) W' v → wpAnyIn c.F 9 c.P .any l.toArray Q m (ls.setIfInBounds i true) (a.put o.dst v) W' := fun v W' f hv => by
            refine ih _ _ _ inv2 hcnt ?_
            rw [hdst]
            exact ((st.world f).put (by simpa using hn) hv).subE fun u σ h => gE_split hset ok ht hni h
          have hHO := hH a W st2
          unfold wpOpIn
          simp only [ho]
          split
          · rename_i hw
            exact OpTo.wpIn (hHO.1 hw) fun v W' ⟨f, hv⟩ => fin v W' f hv
          · rename_i hw
            exact ⟨fun _ _ => trivial, fin undef W (.refl _ _) (hHO.2 (by simpa using hw))⟩
/-- an operation that leads into another phase -/
theorem EO.of {eff pe : List Nat} {fs : List (Nat × Nat × VP)} {k : Nat} {γ : Type} (nw : γ → List (Nat × VP)) (nf : γ → List (Nat × Nat × VP)) (L' : γ → List Ent) {ks : List Nat} (S : ∀ g, AnyP c l Q eff (k :: pe) (nf g ++ fs) (nw g ++ E) (L' g))
    (h : ∀ o, l[k]? = some o → ∀ (Q2 : Exit → Act → World → Prop) (E2 : List (Nat × VP)), (∀ {t τ}, look (gE (fun j => memN j (depN o)) E fs) t = some τ → look E2 t = some τ) → (∀ g, To c Q2 .normal (nw g ++ E2) (L' g)) → Sq c l.toArray Q2 [o] E2 L)
    (hk : memN k eff = true := by rfl) (hks : ∀ g, (nf g).map (·.1) = ks := by exact fun _ => rfl) (hB : nwB l [k] ks = true := by kernel_rfl) : EO c l Q eff pe fs E L k := fun ok m ls o ho inv hun hdl hcnt => by
  refine h o ho _ _ (fun h => gE_up (fun j hj => hdl j (memN_iff.1 hj)) ok h) fun g a W st => ?_
  obtain ⟨⟨okg, hng⟩, hS⟩ := S g
  have hkl : k < ls.size := by rw [inv.size]; exact (List.getElem?_eq_some_iff.1 ho).1
  have hset : ∀ j, (ls.setIfInBounds k true).getD j false = true → ls.getD j false = true ∨ j = k := fun j hj => by
    by_cases e : k = j
    · exact .inr e.symm
    · rw [getD_set_ne false e] at hj; exact .inl hj
  refine hS m _ a W ⟨by rw [Array.size_setIfInBounds]; exact inv.size, fun j hj => ?_, fun j oj hoj hj d hd => ?_⟩ hcnt (st.subE fun t τ hl => gE_app okg.app ((gE_iff okg.app).2 (((gE_iff okg).1 hl).imp (fun ⟨i, h1, h2⟩ => ?_) id)))
  · by_cases e : k = j
    · subst e
      simp [hkl, memN]
    · rw [getD_set_ne false e, inv.eq j hj]
      show _ = bif Nat.beq k j then true else memN j pe
      cases hb : Nat.beq k j with
      | false => rfl
      | true => exact absurd (look_beq.1 hb) e
  · rcases hset j hj with h | rfl
    · exact getD_set_true (inv.dn j oj hoj h d hd)
    · rw [ho] at hoj; cases hoj; exact getD_set_true (hdl d hd)
  · have hik : i ≠ k := fun e => by have := hng _ h2; rw [e, hk] at this; cases this
    have hli := (hset i h1).resolve_right hik
    rcases List.mem_append.1 h2 with h3 | h3
    · have := nwB_not inv.dn hB (fun j hj => by rw [List.mem_singleton.1 hj]; exact hun) i (by rw [← hks g]; exact List.mem_map.2 ⟨_, h3, rfl⟩)
      rw [hli] at this; cases this
    · exact ⟨i, hli, h3⟩
/-- facts that are known already, or of operations that could not come up before -/
inductive Fk (fs : List (Nat × Nat × VP)) (ks : List Nat) : List (Nat × Nat × VP) → Prop
  | nil : Fk fs ks []
  | new {i t : Nat} {τ : VP} {r : List (Nat × Nat × VP)} : memN i ks = true → Fk fs ks r → Fk fs ks ((i, t, τ) :: r)
  | old {i t : Nat} {τ : VP} {r : List (Nat × Nat × VP)} : fnd2 i fs = some (t, τ) → Fk fs ks r → Fk fs ks ((i, t, τ) :: r)
theorem fnd2_mem {i t : Nat} {τ : VP} : ∀ {fs : List (Nat × Nat × VP)}, fnd2 i fs = some (t, τ) → (i, t, τ) ∈ fs
  | x :: r, h => by
    unfold fnd2 at h
    cases hb : Nat.beq x.1 i with
    | true =>
      rw [hb] at h
      have e : x.2 = (t, τ) := by simpa using h
      have := look_beq.1 hb
      subst this
      rw [← e]; exact List.mem_cons_self
    | false => rw [hb] at h; exact List.mem_cons_of_mem _ (fnd2_mem h)
theorem Fk.mem {fs : List (Nat × Nat × VP)} {ks : List Nat} {i t : Nat} {τ : VP} : ∀ {gs : List (Nat × Nat × VP)}, Fk fs ks gs → (i, t, τ) ∈ gs → i ∈ ks ∨ (i, t, τ) ∈ fs
  | _, .new h1 h2, hm => by
    rcases List.mem_cons.1 hm with e | hm
    · cases e; exact .inl (memN_iff.1 h1)
    · exact h2.mem hm
  | _, .old h1 h2, hm => by
    rcases List.mem_cons.1 hm with e | hm
    · cases e; exact .inr (fnd2_mem h1)
    · exact h2.mem hm
/-- an operation that leads into a phase that has been named -/
theorem EO.to {eff pe pe2 : List Nat} {fs : List (Nat × Nat × VP)} {k : Nat} {γ : Type} {fs2 : γ → List (Nat × Nat × VP)} {E2 : γ → List (Nat × VP)} {L2 : γ → List Ent} (ks : List Nat) (nw : γ → List (Nat × VP)) (S : ∀ g, AnyP c l Q eff pe2 (fs2 g) (E2 g) (L2 g))
    (h : ∀ o, l[k]? = some o → ∀ (Q2 : Exit → Act → World → Prop) (E3 : List (Nat × VP)), (∀ {t τ}, look (gE (fun j => memN j (depN o)) E fs) t = some τ → look E3 t = some τ) → (∀ g, To c Q2 .normal (nw g ++ E3) (L2 g)) → Sq c l.toArray Q2 [o] E3 L)
    (hk : memN k eff = true := by rfl) (hpe : (eff.all fun i => memN i pe2 == memN i (k :: pe)) = true := by rfl) (hF : ∀ g, Fk fs ks (fs2 g) := by intro _; repeat (first | exact Fk.nil | refine Fk.old rfl ?_ | refine Fk.new rfl ?_)) (hE : ∀ g, Le (nw g ++ E) (E2 g) := by intro _; repeat (first | exact Le.nil | refine Le.same rfl ?_))
    (hd : ∀ g, ((fs2 g).all fun x => !memN x.2.1 ((nw g).map (·.1))) = true := by exact fun _ => rfl) (hB : nwB l [k] ks = true := by kernel_rfl) : EO c l Q eff pe fs E L k := fun ok m ls o ho inv hun hdl hcnt => by
  refine h o ho _ _ (fun h => gE_up (fun j hj => hdl j (memN_iff.1 hj)) ok h) fun g a W st => ?_
  obtain ⟨⟨okg, hng⟩, hS⟩ := S g
  have hkl : k < ls.size := by rw [inv.size]; exact (List.getElem?_eq_some_iff.1 ho).1
  have hset : ∀ j, (ls.setIfInBounds k true).getD j false = true → ls.getD j false = true ∨ j = k := fun j hj => by
    by_cases e : k = j
    · exact .inr e.symm
    · rw [getD_set_ne false e] at hj; exact .inl hj
  refine hS m _ a W ⟨by rw [Array.size_setIfInBounds]; exact inv.size, fun j hj => ?_, fun j oj hoj hj d hd => ?_⟩ hcnt (st.less fun t τ hl => ?_)
  · have h2 : memN j pe2 = memN j (k :: pe) := by simpa using List.all_eq_true.1 hpe j hj
    rw [h2]
    by_cases e : k = j
    · subst e
      simp [hkl, memN]
    · rw [getD_set_ne false e, inv.eq j hj]
      show _ = bif Nat.beq k j then true else memN j pe
      cases hb : Nat.beq k j with
      | false => rfl
      | true => exact absurd (look_beq.1 hb) e
  · rcases hset j hj with h | rfl
    · exact getD_set_true (inv.dn j oj hoj h d hd)
    · rw [ho] at hoj; cases hoj; exact getD_set_true (hdl d hd)
  · rcases (gE_iff okg).1 hl with ⟨i, h1, h2⟩ | h2
    · have hik : i ≠ k := fun e => by have := hng _ h2; rw [e, hk] at this; cases this
      have hli := (hset i h1).resolve_right hik
      have hnt : look (nw g) t = none := look_none (by simpa using List.all_eq_true.1 (hd g) _ h2)
      refine ⟨τ, ?_, fun _ _ _ h => h⟩
      rw [look_app, hnt]
      rcases (hF g).mem h2 with h3 | h3
      · have := nwB_not inv.dn hB (fun j hj => by rw [List.mem_singleton.1 hj]; exact hun) i h3
        rw [hli] at this; cases this
      · exact (gE_iff ok).2 (.inl ⟨i, hli, h3⟩)
    · obtain ⟨τ', h3, h4⟩ := (hE g).look t τ h2
      refine ⟨τ', ?_, h4⟩
      rw [look_app] at h3 ⊢
      cases hn : look (nw g) t with
      | some σ => rw [hn] at h3; exact h3
      | none => rw [hn] at h3; exact (gE_iff ok).2 (.inr h3)
theorem AnyP.cut {γ : Type} {eff pe pe' : List Nat} {fs : List (Nat × Nat × VP)} (fs' : γ → List (Nat × Nat × VP)) (E' : γ → List (Nat × VP)) (L' : γ → List Ent) (h1 : ∀ g, AnyP c l Q eff pe' (fs' g) (E' g) (L' g))
    (h2 : (∀ g, AnyP c l Q eff pe' (fs' g) (E' g) (L' g)) → AnyP c l Q eff pe fs E L) : AnyP c l Q eff pe fs E L := h2 h1
/-- a phase that others follow -/
theorem AnyP.mid {cn : Nat} {eff pe : List Nat} {fs : List (Nat × Nat × VP)} {ks : List (Nat × Nat)} {es : List Nat} (fc nl el : List Nat) (hL : LP c l E L fs nl) (hE : EP c l Q eff pe fs E L el) (hn : eff.all (fun k => memN k pe) = false := by rfl)
    (hks : fs.map (fun x => (x.1, x.2.1)) = ks := by rfl) (hes : E.map (·.1) = es := by rfl) (hcn : c.n = cn := by rfl) (hB : phB l cn eff pe fc nl el ks es = true := by kernel_rfl) : AnyP c l Q eff pe fs E L :=
  .core fc nl el hL hE (fun h => absurd (show eff.all (fun k => memN k pe) = true from List.all_eq_true.2 fun k hk => memN_iff.2 (h k hk)) (by rw [hn]; simp)) hks hes hcn hB
/-! ### What follows in order behind operations that draw theirs -/
theorem uponIn_qk {F : Fence} {n : Nat} {P : Program} {o : Oper} {a : Act} {next : Act → World → Prop} {K : Act → World → Prop} {Q : Exit → Act → World → Prop} : ∀ {r : Result Next}, o.uponIn F n P a next Q r → o.uponIn F n P a next (QK K Q) r := fun {r} h => by
  cases r with
  | ok x w =>
    cases x <;> simp only [Oper.uponIn] at h ⊢ <;> first
      | exact h
      | exact ⟨h.1, CallsIn.mono h.2 (fun e w'' he => by cases e <;> exact he)⟩
      | exact ⟨h.1, RoundIn.mono h.2 (fun e w'' he => by cases e <;> exact he)⟩
  | halt x w => cases x <;> simp only [Oper.uponIn] at h ⊢ <;> exact h
theorem wpl_qk {F : Fence} {n : Nat} {P : Program} {ops : Array Oper} {Q : Exit → Act → World → Prop} {o : Oper} {rest : List Oper} {a : Act} {w : World} {K : Act → World → Prop} (hK : ∀ a w, wpListIn F n P ops Q rest a w → K a w) (h : wpListIn F n P ops Q (o :: rest) a w) : wpListIn F n P ops (QK K Q) [o] a w := by
  unfold wpListIn at h ⊢
  split
  · rename_i hw
    rw [if_pos hw] at h
    have h := Oper.wpIn_mono hK h
    exact ⟨h.1, uponIn_qk h.2⟩
  · rename_i hw
    rw [if_neg hw] at h
    exact ⟨h.1, hK _ _ h.2⟩
theorem anyIn_of_seq {F : Fence} {n : Nat} {P : Program} {md : Region.Mode} {ops : Array Oper} {Q' : Exit → Act → World → Prop} : ∀ (l : List Oper) (k m : Nat) (listed : Array Bool) (a : Act) (w : World), (∀ j, l[j]? = ops[k + j]?) →
    Region.seqB md ops l.length k listed = true → l.length ≤ m → wpListIn F n P ops Q' l a w → wpAnyIn F n P md ops Q' m listed a w
  | [], _, 0, _, _, _, _, hB, _, h => ⟨by simpa [Region.seqB] using hB, h⟩
  | [], _, m + 1, _, _, _, _, hB, _, h => ⟨fun _ => h, fun i hi => by rw [show Region.ready md ops _ = [] by simpa [Region.seqB] using hB] at hi; cases hi⟩
  | o :: l, k, m + 1, listed, a, w, hl, hB, hm, h => by
    have h0 : ops[k]? = some o := by simpa using (hl 0).symm
    simp only [List.length_cons, Region.seqB, Bool.and_eq_true, decide_eq_true_eq] at hB
    refine ⟨fun h1 => (by rw [hB.1] at h1; cases h1), fun i hi => ?_⟩
    rw [hB.1] at hi
    have hik : i = k := by simpa using hi
    subst hik
    have hw : wpOpIn F n P ops Q' i (wpListIn F n P ops Q' l) a w := by unfold wpOpIn; simp only [h0]; exact h
    exact wpOpIn_mono (fun a' w' h' => anyIn_of_seq l (i + 1) m _ a' w' (fun j => by have := hl (j + 1); simpa [Nat.add_assoc, Nat.add_comm 1 j] using this) hB.2 (by simpa using hm) h') hw
/-- the first k have come up, of n -/
def tlA (k n : Nat) : Array Bool := ((List.range n).map fun i => Nat.blt i k).toArray
theorem EO.tail {eff pe : List Nat} {fs : List (Nat × Nat × VP)} {k : Nat} (fc : List Nat) (h : Sq c l.toArray Q (l.drop k) (gE (fun _ => true) E fs) L) (hfk : (fs.all fun x => Nat.blt x.1 k) = true := by rfl)
    (hB : (fcB l [k] fc && (List.range k).all (fun i => memN i fc) && nwB l [k] ((List.range (l.length - (k + 1))).map (· + (k + 1)))) = true := by kernel_rfl) (hs : Region.seqB .any l.toArray (l.length - (k + 1)) (k + 1) (tlA (k + 1) l.length) = true := by kernel_rfl) : EO c l Q eff pe fs E L k := fun ok m ls o ho inv hun hdl hcnt => by
  simp only [Bool.and_eq_true, List.all_eq_true] at hB
  obtain ⟨⟨hfc, hall⟩, hnw⟩ := hB
  have hkl : k < l.length := (List.getElem?_eq_some_iff.1 ho).1
  have hdn : ∀ i o', l[i]? = some o' → (ls.setIfInBounds k true).getD i false = true → ∀ d ∈ depN o', (ls.setIfInBounds k true).getD d false = true := fun i o' hi hj d hd => by
    by_cases e : k = i
    · subst e
      rw [ho] at hi; cases hi
      exact getD_set_true (hdl d hd)
    · rw [getD_set_ne false e] at hj
      exact getD_set_true (inv.dn i o' hi hj d hd)
  have hlow : ∀ i, i < k → (ls.setIfInBounds k true).getD i false = true := fun i hi => fcB_listed hdn hfc (fun j hj => by rw [List.mem_singleton.1 hj]; simp [inv.size, hkl]) i (memN_iff.1 (hall i (List.mem_range.2 hi)))
  have hset : ls.setIfInBounds k true = tlA (k + 1) l.length := by
    apply Array.ext
    · simp [tlA, inv.size]
    · intro i h1 h2
      have hil : i < l.length := by simpa [tlA] using h2
      have hg : (ls.setIfInBounds k true)[i] = (ls.setIfInBounds k true).getD i false := by
        rw [Array.getD_eq_getD_getElem?, Array.getElem?_eq_getElem h1]; rfl
      rw [hg]
      simp only [tlA, List.getElem_toArray, List.getElem_map, List.getElem_range]
      rcases Nat.lt_trichotomy i k with hlt | rfl | hgt
      · rw [hlow i hlt]
        exact (Nat.ble_eq_true_of_le (by omega : i + 1 ≤ k + 1)).symm
      · have : Nat.blt i (i + 1) = true := Nat.ble_eq_true_of_le (Nat.le_refl _)
        rw [this]
        simp [inv.size, hil]
      · rw [getD_set_ne false (Nat.ne_of_lt hgt), nwB_not inv.dn hnw (fun j hj => by rw [List.mem_singleton.1 hj]; exact hun) i (List.mem_map.2 ⟨i - (k + 1), List.mem_range.2 (by omega), by omega⟩)]
        cases hb : Nat.blt i (k + 1) with
        | false => rfl
        | true => have := Nat.le_of_ble_eq_true hb; omega
  have hcnt2 : (l.drop (k + 1)).length ≤ m := by
    refine Nat.le_trans ?_ hcnt
    rw [hset]
    unfold unN
    have hr : List.range l.length = List.range (k + 1) ++ (List.range (l.length - (k + 1))).map ((k + 1) + ·) := by
      rw [← List.range_add]; congr 1; omega
    have hf : ((List.range (l.length - (k + 1))).map ((k + 1) + ·)).filter (fun j => !(tlA (k + 1) l.length).getD j false) = (List.range (l.length - (k + 1))).map ((k + 1) + ·) := by
      refine List.filter_eq_self.2 fun x hx => ?_
      obtain ⟨y, hy, rfl⟩ := List.mem_map.1 hx
      have hy := List.mem_range.1 hy
      rw [Array.getD_eq_getD_getElem?, Array.getElem?_eq_getElem (by simp [tlA]; omega)]
      simp only [tlA, List.getElem_toArray, List.getElem_map, List.getElem_range, Option.getD_some]
      cases hb : Nat.blt (k + 1 + y) (k + 1) with
      | false => rfl
      | true => have := Nat.le_of_ble_eq_true hb; omega
    rw [hr, List.filter_append, List.length_append, hf]
    simp
  have hd : l.drop k = o :: l.drop (k + 1) := by rw [List.drop_eq_getElem_cons hkl]; congr 1; exact (List.getElem?_eq_some_iff.1 ho).2
  rw [hd] at h
  intro a W st
  refine wpl_qk (fun a' W' h' => ?_) (show c.wpl l.toArray Q (o :: l.drop (k + 1)) a W from h a W (st.subE fun t τ hl => (gE_iff ok).2 (((gE_iff ok).1 hl).imp (fun ⟨i, _, h2⟩ => ⟨i, ?_, h2⟩) id)))
  · rw [hset]
    exact anyIn_of_seq (l.drop (k + 1)) (k + 1) m _ a' W' (fun j => by simp) (by simpa using hs) hcnt2 h'
  · have hik : i < k := by have := List.all_eq_true.1 hfk _ h2; exact Nat.le_of_ble_eq_true this
    have := hlow i hik
    rw [getD_set_ne false (by omega)] at this
    exact this
end
end Gv

namespace Gv
open Go
set_option linter.unusedVariables false
set_option linter.unusedSimpArgs false

/-! ### What is known of the program's tables, to be found by its numbers -/
class Kf (P : Program) (s f : Nat) {β γ : outParam Type} [ib : Rp β] [ig : Rp γ] (l : outParam (Lens β γ)) : Prop where
  fd : FdA P s f l.off
class Ks (P : Program) (t : TypeId) (e : outParam TypeId) (α : outParam Type) [ia : Rp α] : Prop where
  hu : P.underlying t = some (.slice e)
  te : Ty P e α
class Kq (P : Program) (t : TypeId) (α : Type) [Rp α] [DecidableEq α] (k : outParam Nat) : Prop where
  ev : Eqv P t α k
  gd : P.eqGuardType P.depth t = false
  hn : Nat.ble k 10000 = true
class Ku (P : Program) (t : TypeId) (d : outParam TypeDesc) : Prop where
  hu : P.underlying t = some d
/-- contracts -/
class K0 (P : Program) (f : FuncId) (ρ : outParam Type) (L : outParam (Option ρ)) (π : outParam (ρ → VP)) : Prop where
  en : En P f
  m : ∀ r, L = some r → Meets P f [] (π r)
class K1 (P : Program) (f : FuncId) (α ρ : outParam Type) (L : outParam (α → Option ρ)) (τ : outParam (α → VP)) (π : outParam (ρ → VP)) : Prop where
  en : En P f
  m : ∀ x r, L x = some r → Meets P f [τ x] (π r)
class K2 (P : Program) (f : FuncId) (α β ρ : outParam Type) (L : outParam (α → β → Option ρ)) (τ : outParam (α → VP)) (σ : outParam (β → VP)) (π : outParam (ρ → VP)) : Prop where
  en : En P f
  m : ∀ x y r, L x y = some r → Meets P f [τ x, σ y] (π r)
class K3 (P : Program) (f : FuncId) (α β γ ρ : outParam Type) (L : outParam (α → β → γ → Option ρ)) (τ : outParam (α → VP)) (σ : outParam (β → VP)) (υ : outParam (γ → VP)) (π : outParam (ρ → VP)) : Prop where
  en : En P f
  m : ∀ x y z r, L x y z = some r → Meets P f [τ x, σ y, υ z] (π r)

theorem K1.i {P : Program} {f : FuncId} {α ρ : Type} {L : α → Option ρ} {τ : α → VP} {π : ρ → VP} {fn : Func} {code : Code} {n : Nat} (hf : P.funcs[f]? = some fn) (hb : fn.body = some code) (hn : fn.ntmps = n) (hl : Nat.ble 1 n = true)
    (h : ∀ x r, L x = some r → ∀ W A, Wp ⟨P, n, W, [], A, none, []⟩ (bodyPost P fn (Post ⟨P, n, W, [], A, none, []⟩ (π r))) code (params 0 [τ x]) []) (hm : (fn.name == "runtime.NumGoroutine") = false := by kernel_rfl) : K1 P f α ρ L τ π :=
  ⟨⟨fn, hf, by rw [hb]; rfl, hm⟩, fun x r e => .of hf hb hn hl (h x r e)⟩
theorem K2.i {P : Program} {f : FuncId} {α β ρ : Type} {L : α → β → Option ρ} {τ : α → VP} {σ : β → VP} {π : ρ → VP} {fn : Func} {code : Code} {n : Nat} (hf : P.funcs[f]? = some fn) (hb : fn.body = some code) (hn : fn.ntmps = n) (hl : Nat.ble 2 n = true)
    (h : ∀ x y r, L x y = some r → ∀ W A, Wp ⟨P, n, W, [], A, none, []⟩ (bodyPost P fn (Post ⟨P, n, W, [], A, none, []⟩ (π r))) code (params 0 [τ x, σ y]) []) (hm : (fn.name == "runtime.NumGoroutine") = false := by kernel_rfl) : K2 P f α β ρ L τ σ π :=
  ⟨⟨fn, hf, by rw [hb]; rfl, hm⟩, fun x y r e => .of hf hb hn hl (h x y r e)⟩
theorem K3.i {P : Program} {f : FuncId} {α β γ ρ : Type} {L : α → β → γ → Option ρ} {τ : α → VP} {σ : β → VP} {υ : γ → VP} {π : ρ → VP} {fn : Func} {code : Code} {n : Nat} (hf : P.funcs[f]? = some fn) (hb : fn.body = some code) (hn : fn.ntmps = n) (hl : Nat.ble 3 n = true)
    (h : ∀ x y z r, L x y z = some r → ∀ W A, Wp ⟨P, n, W, [], A, none, []⟩ (bodyPost P fn (Post ⟨P, n, W, [], A, none, []⟩ (π r))) code (params 0 [τ x, σ y, υ z]) []) (hm : (fn.name == "runtime.NumGoroutine") = false := by kernel_rfl) : K3 P f α β γ ρ L τ σ υ π :=
  ⟨⟨fn, hf, by rw [hb]; rfl, hm⟩, fun x y z r e => .of hf hb hn hl (h x y z r e)⟩
/-! ### What contracts of functions with a pool say -/
section
variable (P : Program) (f : FuncId) (τs : List VP) {κ : Type} [Cl κ] (hp : Pool κ)
/-- changes a variable -/
abbrev MV (p : Nat) {α : Type} [Rp α] (x : α) (ρ : VP) (y : α) : Prop := MeetsO P f τs [vr p x] (δ := Unit) (fun _ => ρ) (fun _ => [vr p y])
end
abbrev VP.lp (p : Nat) {β γ : Type} [Rp β] [Rp γ] (l : Lens β γ) : VP := .eq (.pointer (some ⟨p, l.off, none⟩))

/-- a residue: so that no other step takes it for its own -/
structure Kw (p : Prop) : Prop where
  k : p
/-- entry j of a list -/
inductive At : List Ent → Nat → Ent → Prop
  | z {e r} : At (e :: r) 0 e
  | s {e f r j} : At r j e → At (f :: r) (j + 1) e
theorem At.get : ∀ {L j e}, At L j e → L[j]? = some e
  | _, _, _, .z => rfl
  | _, _, _, .s h => by simpa using h.get
theorem At.g {L : List Ent} {j : Nat} {e : Ent} (h : At L j e := by repeat (first | exact At.z | apply At.s)) : L[j]? = some e := h.get
/-- a list with one entry changed -/
inductive Up : List Ent → Ent → Ent → List Ent → Prop
  | z {e f r} : Up (e :: r) e f (f :: r)
  | s {e f g r s} : Up r e f s → Up (g :: r) e f (g :: s)
theorem Up.get : ∀ {L e f M}, Up L e f M → ∃ j, L[j]? = some e ∧ L.set j f = M
  | _, _, _, _, .z => ⟨0, rfl, rfl⟩
  | _, _, _, _, .s h => let ⟨j, h1, h2⟩ := h.get; ⟨j + 1, by simpa using h1, by simp [h2]⟩

/-- the pool behind the own entries -/
inductive Dn {κ : Type} [Cl κ] : List Ent → Pool κ → Prop
  | z {hp} : Dn (Ents hp) hp
  | s {e r hp} : Dn r hp → Dn (e :: r) hp
theorem Dn.get {κ : Type} [Cl κ] {L : List Ent} {hp : Pool κ} (h : Dn L hp) : ∃ n, L.drop n = Ents hp := by
  induction h with
  | z => exact ⟨0, rfl⟩
  | s _ ih => exact ⟨ih.choose + 1, ih.choose_spec⟩
/-- blocks of a pool that hold one value -/
class Pv (β : Type) [Rp β] {κ : outParam Type} [Cl κ] (rd : outParam (Pool κ → Nat → Option β)) : Prop where
  ok : ∀ {hp p x}, rd hp p = some x → ∃ k, pat hp p = some k ∧ Cl.ents p k = [⟨some p, .var x⟩]
class Kx (P : Program) : Prop where
  m : P.follows .mixedOrders = true
section
variable {c : Cx} {E : List (Nat × VP)} {L L' : List Ent} {ops : Array Oper} {Q : Exit → Act → World → Prop} {rest : List Oper} {o : Oper} {d : Option Tmp} {dd : Nat}
variable {ty : TypeId} {pos : String} {af : Array Edge} {g : Option (Nat × Bool)} {x y : Operand} {t t2 : TypeId}

theorem fact {p : Prop} (h : p := by first | with_reducible assumption | (apply condM_some (hb := hb); with_reducible assumption)) : p := h
theorem look_u64k (k : Nat) (h : Nat.blt k 18446744073709551616 = true := by rfl) : Look c E L (.const (.int .u64 (Int.ofNat k))) (.of (BitVec.ofNat 64 k)) := look_u64 _ (by simp [Nat.blt] at h ⊢; omega)
theorem lk {σ : VP} (h : Look c E L x σ := by first | exact look_tc rfl hb | exact look_tc rfl hb.1 | exact look_t rfl | exact look_int _ | exact look_bool _ | exact look_str _ | exact look_u64k _ | exact look_tc (hE _ _ rfl) hb | exact look_tc (hE _ _ rfl) hb.1 | exact look_t (hE _ _ rfl)) : Look c E L x σ := h

/-! ### One operation that yields a value -/

theorem w1 {σ τ : VP} (h : Look c E L x σ → HR c E L o τ) (hx : Look c E L x σ := by exact lk) : HR c E L o τ := h hx
theorem w2 {σ σ2 τ : VP} (h : Look c E L x σ → Look c E L y σ2 → HR c E L o τ) (hx : Look c E L x σ := by exact lk) (hy : Look c E L y σ2 := by exact lk) : HR c E L o τ := h hx hy
theorem w_ext {i : Nat} {τs : List VP} {τ : VP} (hx : Look c E L x (.tup τs) := by exact lk) (hi : τs[i]? = some τ := by rfl) : HR c E L ⟨d, .extract x i, ty, pos, af, g⟩ τ := r_ext hx hi
theorem w_lp {p j : Nat} {β γ : Type} [Rp β] [Rp γ] {b : β} {l : Lens β γ} [k : Ty c.P t γ] (hx : Look c E L x (.lp p l) := by exact lk) (hL : L[j]? = some ⟨some p, .var b⟩ := by first | exact At.g | exact hL _ _ At.g rfl) : HR c E L ⟨d, .load t x, ty, pos, af, g⟩ (.of (l.get b)) :=
  r_load l k hx hL rfl rfl
theorem w_l0 {p j : Nat} {β : Type} [Rp β] {b : β} [k : Ty c.P t β] (hx : Look c E L x (.pb p) := by exact lk) (hL : L[j]? = some ⟨some p, .var b⟩ := by first | exact At.g | exact hL _ _ At.g rfl) : HR c E L ⟨d, .load t x, ty, pos, af, g⟩ (.of b) :=
  r_load (Lens.id β) k hx hL rfl rfl
theorem pm {κ β : Type} [Rp β] [Cl κ] {rd : Pool κ → Nat → Option β} {hp : Pool κ} {p : Nat} {b : β} [k : Pv β rd] (hd : Dn L hp := by repeat (first | exact Dn.z | apply Dn.s)) (hc : rd hp p = some b := by exact fact) : (⟨some p, .var b⟩ : Ent) ∈ L := by
  obtain ⟨n, h1⟩ := hd.get
  obtain ⟨q, h2, h3⟩ := k.ok hc
  exact pmem h1 h2 h3
/-- cells of a struct and the row behind one of its fields -/
class Px (β : Type) [Rp β] {κ ξ : outParam Type} [Cl κ] (rd : outParam (Pool κ → Nat → Option ξ)) (q : outParam (ξ → β)) (os : outParam (ξ → List (Nat × Value))) : Prop where
  ok : ∀ {hp p x}, rd hp p = some x → ∃ k es, pat hp p = some k ∧ Cl.ents p k = ⟨some p, .varX (q x) (os x)⟩ :: es
theorem px {κ ξ β : Type} [Rp β] [Cl κ] {rd : Pool κ → Nat → Option ξ} {q : ξ → β} {os : ξ → List (Nat × Value)} {hp : Pool κ} {p : Nat} {x : ξ} [k : Px β rd q os] (hd : Dn L hp := by repeat (first | exact Dn.z | apply Dn.s)) (hc : rd hp p = some x := by exact fact) : (⟨some p, .varX (q x) (os x)⟩ : Ent) ∈ L := by
  obtain ⟨n, h1⟩ := hd.get
  obtain ⟨_, _, h2, h3⟩ := k.ok hc
  exact pmem1 h1 h2 h3
theorem pP {e : Ent} {np : Nat} (hP : L'.drop np = L.drop np) (h : e ∈ L.drop np) : e ∈ L' := List.mem_of_mem_drop (hP ▸ h)
theorem w_lx {p : Nat} {β γ : Type} [Rp β] [Rp γ] {b : β} {os : List (Nat × Value)} {l : Lens β γ} [k : Ty c.P t γ] (hx : Look c E L x (.lp p l) := by exact lk) (hm : (⟨some p, .varX b os⟩ : Ent) ∈ L := by first | exact pP hP px | exact dmem (fun i e q => hL i e q rfl) px | exact px) (ha : apartB os l.off (Rp.size γ) = true := by rfl) : HR c E L ⟨d, .load t x, ty, pos, af, g⟩ (.of (l.get b)) :=
  r_loadMX l k hx hm rfl rfl ha
theorem w_lxo {p j : Nat} {β γ : Type} [Rp β] [Rp γ] {b : β} {os : List (Nat × Value)} {l : Lens β γ} [k : Ty c.P t γ] (hx : Look c E L x (.lp p l) := by exact lk) (hL : L[j]? = some ⟨some p, .varX b os⟩ := by first | exact At.g | exact hL _ _ At.g rfl) (ha : apartB os l.off (Rp.size γ) = true := by rfl) : HR c E L ⟨d, .load t x, ty, pos, af, g⟩ (.of (l.get b)) :=
  r_loadX l k hx hL rfl rfl ha
theorem w_lm {p : Nat} {β γ : Type} [Rp β] [Rp γ] {b : β} {l : Lens β γ} [k : Ty c.P t γ] (hx : Look c E L x (.lp p l) := by exact lk) (hm : (⟨some p, .var b⟩ : Ent) ∈ L := by first | exact pP hP pm | exact dmem (fun i e q => hL i e q rfl) pm | exact pm) : HR c E L ⟨d, .load t x, ty, pos, af, g⟩ (.of (l.get b)) :=
  r_loadM l k hx hm rfl rfl
theorem w_nr {r : Ref} {a : Nat} (hx : Look c E L x (.of r) := by exact lk) (hr : r = some a := by first | with_reducible rfl | exact fact) : HR c E L ⟨d, .nilCheck x, ty, pos, af, g⟩ (.pb a) := r_nck (look_ref hx hr)
theorem w_rn {r : Ref} {e : TypeId} [k : Ku c.P t (.pointer e)] (hx : Look c E L x (.of r) := by exact lk) : HR c E L ⟨d, .binOp .eql t x (.const (.pointer none)) t2, ty, pos, af, g⟩ (.of r.isNone) := r_refnil k.hu hx
theorem w_rs {r : Ref} {e : TypeId} [k : Ku c.P t (.pointer e)] (hx : Look c E L x (.of r) := by exact lk) : HR c E L ⟨d, .binOp .neq t x (.const (.pointer none)) t2, ty, pos, af, g⟩ (.of r.isSome) := r_refnnil k.hu hx
theorem w_ptr {γ : Type} [Rp γ] {r : γ} [k : Ty c.P t γ] (hx : Look c E L x (.ptr r) := by exact lk) : HR c E L ⟨d, .load t x, ty, pos, af, g⟩ (.of r) := r_loadp k hx
theorem w_fp {s f : Nat} {β γ : Type} [ib : Rp β] [ig : Rp γ] {b : β} {l : Lens β γ} [k : Kf c.P s f l] (hx : Look c E L x (.ptr b) := by exact lk) : HR c E L ⟨d, .fieldAddr s x f, ty, pos, af, g⟩ (.ptr (l.get b)) := r_fap l k.fd hx rfl rfl
theorem w_fl {s f p : Nat} {α β γ : Type} [Rp α] [ib : Rp β] [ig : Rp γ] {m : Lens α β} {l : Lens β γ} [k : Kf c.P s f l] (hx : Look c E L x (.lp p m) := by exact lk) : HR c E L ⟨d, .fieldAddr s x f, ty, pos, af, g⟩ (.lp p (m.comp l)) := r_fa k.fd hx
theorem w_f0 {s f p : Nat} {β γ : Type} [ib : Rp β] [ig : Rp γ] {l : Lens β γ} [k : Kf c.P s f l] (hx : Look c E L x (.pb p) := by exact lk) : HR c E L ⟨d, .fieldAddr s x f, ty, pos, af, g⟩ (.lp p l) := by
  have := r_fa (d := d) (ty := ty) (pos := pos) (af := af) (g := g) k.fd hx
  rwa [Nat.zero_add] at this
theorem w_ix {α : Type} [ia : Rp α] [Inhabited α] {xs : List α} {e : TypeId} {i : Int} {j : Nat} [k : Ks c.P t e α] (hx : Look c E L x (.of xs) := by exact lk) (hy : Look c E L y (.of i) := by exact lk) (hk : idx xs.length i = some j := by exact fact) :
    HR c E L ⟨d, .indexAddr t x y, ty, pos, af, g⟩ (.ptr (lget xs j)) := r_ias k.hu k.te hx hy (idx_some hk)
theorem w_len {α : Type} [ia : Rp α] {xs : List α} {e : TypeId} [k : Ks c.P t e α] (hx : Look c E L x (.of xs) := by exact lk) : HR c E L ⟨d, .call ⟨.builtin .len, #[x], #[t]⟩, ty, pos, af, g⟩ (.of (xs.length : Int)) := r_len k.hu hx
theorem w_lens {s0 : ByteArray} [k : Ku c.P t .string] (hx : Look c E L x (.of s0) := by exact lk) : HR c E L ⟨d, .call ⟨.builtin .len, #[x], #[t]⟩, ty, pos, af, g⟩ (.of (s0.size : Int)) := r_lens k.hu hx
theorem w_or {b e : Bool} {p : Prop} (hx : Look c E L x (.of b) := by exact lk) (hy : Look c E L y (.cond p (.of e)) := by first | exact look_t rfl | exact look_t (hE _ _ rfl)) (hp : b = false → p := by exact fun h => h) : HR c E L ⟨d, .pick x (.const (.bool true)) y, ty, pos, af, g⟩ (.of (b || e)) := r_or hx hy hp
theorem w_and {b e : Bool} {p : Prop} (hx : Look c E L x (.of b) := by exact lk) (hy : Look c E L y (.cond p (.of e)) := by first | exact look_t rfl | exact look_t (hE _ _ rfl)) (hp : b = true → p := by exact fun h => h) : HR c E L ⟨d, .pick x y (.const (.bool false)), ty, pos, af, g⟩ (.of (b && e)) := r_and hx hy hp
theorem w_eqA {α : Type} [Rp α] [DecidableEq α] {n : Nat} {a b : α} [k : Kq c.P t α n] (hx : Look c E L x (.of a) := by exact lk) (hy : Look c E L y (.of b) := by exact lk) (ha : Rp.agg α = true := by rfl) :
    HR c E L ⟨d, .binOp .eql t x y t2, ty, pos, af, g⟩ (.of (decide (a = b))) := r_eqA k.ev k.hn k.gd ha hx hy
theorem w_neA {α : Type} [Rp α] [DecidableEq α] {n : Nat} {a b : α} [k : Kq c.P t α n] (hx : Look c E L x (.of a) := by exact lk) (hy : Look c E L y (.of b) := by exact lk) (ha : Rp.agg α = true := by rfl) :
    HR c E L ⟨d, .binOp .neq t x y t2, ty, pos, af, g⟩ (.of (!decide (a = b))) := r_neA k.ev k.hn k.gd ha hx hy
inductive FillsW (c : Cx) (E : List (Nat × VP)) (L : List Ent) (t : TypeId) (place : Nat → Option (Nat × Nat)) {β : Type} [ib : Rp β] : β → List (Nat × Operand) → β → Prop
  | nil {b} : FillsW c E L t place b [] b
  | cons {b b' : β} {γ : Type} [ig : Rp γ] {v : γ} {i : Nat} {x : Operand} {r : List (Nat × Operand)} {l : Lens β γ} [k : Kf c.P t i l] : place i = some (l.off, Rp.size γ) → Look c E L x (.of v) → FillsW c E L t place (l.set b v) r b' → FillsW c E L t place b ((i, x) :: r) b'
theorem FillsW.f {place : Nat → Option (Nat × Nat)} {β : Type} [ib : Rp β] {b b' : β} {r : List (Nat × Operand)} (h : FillsW c E L t place b r b') : Fills c E L place b r b' := by
  induction h with
  | nil => exact .nil
  | cons h1 h2 _ ih => exact .cons _ h1 h2 rfl ih
theorem w_bd {β : Type} [ib : Rp β] {z b : β} {ps : List (Nat × Operand)} {pl : Array (Nat × Nat)} [k1 : Bu c.P t pl] [k2 : Zr c.P t z] (hf : FillsW c E L t (pl[·]?) z ps b := by repeat (first | exact FillsW.nil | (apply FillsW.cons; rfl; first | exact lk | exact look_nil))) (ha : Rp.agg β = true := by rfl) :
    HR c E L ⟨d, .build t ps.toArray, ty, pos, af, g⟩ (.of b) := r_build ha k1 k2 hf.f
inductive SetL {α : Type} : List α → Nat → α → List α → Prop
  | z {x v r} : SetL (x :: r) 0 v (v :: r)
  | s {x v r s i} : SetL r i v s → SetL (x :: r) (i + 1) v (x :: s)
theorem SetL.ok {α : Type} {b c : List α} {i : Nat} {v : α} (h : SetL b i v c) : i < b.length ∧ b.set i v = c := by
  induction h with
  | z => simp
  | s _ ih => exact ⟨by simp only [List.length_cons]; omega, by simp [ih.2]⟩
inductive FillsN (c : Cx) (E : List (Nat × VP)) (L : List Ent) {α : Type} [Rp α] : List α → List (Nat × Operand) → List α → Prop
  | nil {b} : FillsN c E L b [] b
  | cons {b b1 b' : List α} {v : α} {i : Nat} {x : Operand} {r : List (Nat × Operand)} : Look c E L x (.of v) → SetL b i v b1 → FillsN c E L b1 r b' → FillsN c E L b ((i, x) :: r) b'
theorem FillsN.f {α : Type} [Rp α] {b b' : List α} {r : List (Nat × Operand)} (h : FillsN c E L b r b') : FillsL c E L b r b' := by
  induction h with
  | nil => exact .nil
  | cons h1 h2 _ ih => obtain ⟨h3, rfl⟩ := h2.ok; exact .cons h3 h1 ih
inductive RepN {α : Type} (z : α) : Nat → List α → Prop
  | z : RepN z 0 []
  | s {n l} : RepN z n l → RepN z (n + 1) (z :: l)
theorem RepN.ok {α : Type} {z : α} {n : Nat} {l : List α} (h : RepN z n l) : List.replicate n z = l := by
  induction h with
  | z => rfl
  | s _ ih => rw [List.replicate_succ, ih]
theorem w_bl {α : Type} [ia : Rp α] {e n : Nat} {z : α} {ps : List (Nat × Operand)} {l r : List α} [k1 : Ks c.P t e α] [k2 : Zr c.P e z] (hz : RepN z n l := by repeat (first | exact RepN.z | apply RepN.s))
    (hf : FillsN c E L l ps r := by repeat (first | exact FillsN.nil | (apply FillsN.cons; (first | exact lk | exact look_nil); (repeat (first | exact SetL.z | apply SetL.s))))) (hs : Nat.beq (Rp.size α) 0 = false := by rfl) (hn' : Nat.ble (n * Rp.size α) 16777216 = true := by rfl) :
    HR c E L ⟨d, .buildSlice t n ps.toArray, ty, pos, af, g⟩ (.of r) := r_bsl k1.hu k1.te k2 hs hn' (hz.ok ▸ hf.f)
theorem w_c0 {f : FuncId} {ats : Array TypeId} {ρ : Type} {L_ : Option ρ} {π : ρ → VP} [k : K0 c.P f ρ L_ π] {r : ρ} (h : L_ = some r := by exact fact) : HR c E L ⟨d, .call ⟨.value (.func f), [].toArray, ats⟩, ty, pos, af, g⟩ (π r) := r_call k.en (k.m _ h) trivial
theorem w_c1 {f : FuncId} {ats : Array TypeId} {α ρ : Type} {L_ : α → Option ρ} {τ : α → VP} {π : ρ → VP} [k : K1 c.P f α ρ L_ τ π] {a : α} {r : ρ} (h1 : Look c E L x (τ a) := by exact lk) (h : L_ a = some r := by exact fact) :
    HR c E L ⟨d, .call ⟨.value (.func f), [x].toArray, ats⟩, ty, pos, af, g⟩ (π r) := r_call k.en (k.m _ _ h) ⟨h1, trivial⟩
theorem w_c2 {f : FuncId} {ats : Array TypeId} {α β ρ : Type} {L_ : α → β → Option ρ} {τ : α → VP} {σ : β → VP} {π : ρ → VP} [k : K2 c.P f α β ρ L_ τ σ π] {a : α} {b : β} {r : ρ} (h1 : Look c E L x (τ a) := by exact lk) (h2 : Look c E L y (σ b) := by exact lk) (h : L_ a b = some r := by exact fact) :
    HR c E L ⟨d, .call ⟨.value (.func f), [x, y].toArray, ats⟩, ty, pos, af, g⟩ (π r) := r_call k.en (k.m _ _ _ h) ⟨h1, h2, trivial⟩
theorem w_c3 {f : FuncId} {ats : Array TypeId} {α β γ ρ : Type} {L_ : α → β → γ → Option ρ} {τ : α → VP} {σ : β → VP} {υ : γ → VP} {π : ρ → VP} {x3 : Operand} [k : K3 c.P f α β γ ρ L_ τ σ υ π] {a : α} {b : β} {e : γ} {r : ρ} (h1 : Look c E L x (τ a) := by exact lk) (h2 : Look c E L y (σ b) := by exact lk) (h3 : Look c E L x3 (υ e) := by exact lk) (h : L_ a b e = some r := by exact fact) :
    HR c E L ⟨d, .call ⟨.value (.func f), [x, y, x3].toArray, ats⟩, ty, pos, af, g⟩ (π r) := r_call k.en (k.m _ _ _ _ h) ⟨h1, h2, h3, trivial⟩
theorem w_cv {src dst : TypeId} {e r : TypeDesc} {σ τ : VP} [k1 : Ku c.P src e] [k2 : Ku c.P dst r] (h : c.P.underlying src = some e → c.P.underlying dst = some r → Look c E L x σ → HR c E L ⟨d, .convert src dst x, ty, pos, af, g⟩ τ) (hx : Look c E L x σ := by exact lk) :
    HR c E L ⟨d, .convert src dst x, ty, pos, af, g⟩ τ := h k1.hu k2.hu hx
theorem w_2u {r : TypeDesc} {σ σ2 τ : VP} [k1 : Ku c.P t r] (h : c.P.underlying t = some r → Look c E L x σ → Look c E L y σ2 → HR c E L o τ) (hx : Look c E L x σ := by exact lk) (hy : Look c E L y σ2 := by exact lk) : HR c E L o τ := h k1.hu hx hy
theorem w_quo {a b r : Int} (hx : Look c E L x (.of a) := by exact lk) (hy : Look c E L y (.of b) := by exact lk) (hk : divM a b = some r := by exact fact) : HR c E L ⟨d, .binOp .quo t x y t2, ty, pos, af, g⟩ (.of r) := r_quo hx hy (divM_some hk)
theorem w_rem {a b r : Int} (hx : Look c E L x (.of a) := by exact lk) (hy : Look c E L y (.of b) := by exact lk) (hk : modM a b = some r := by exact fact) : HR c E L ⟨d, .binOp .rem t x y t2, ty, pos, af, g⟩ (.of r) := r_rem hx hy (modM_some hk)
theorem w_shl {a : BitVec 64} {b : Int} {n : Nat} (hx : Look c E L x (.of a) := by exact lk) (hy : Look c E L y (.of b) := by exact lk) (hk : cntM b = some n := by exact fact) : HR c E L ⟨d, .binOp .shl t x y t2, ty, pos, af, g⟩ (.of (a <<< n)) := r_shl64i hx hy (cntM_some hk)
theorem w_shr {a : BitVec 64} {b : Int} {n : Nat} (hx : Look c E L x (.of a) := by exact lk) (hy : Look c E L y (.of b) := by exact lk) (hk : cntM b = some n := by exact fact) : HR c E L ⟨d, .binOp .shr t x y t2, ty, pos, af, g⟩ (.of (a >>> n)) := r_shr64i hx hy (cntM_some hk)
theorem w_nl {p : Nat} {β γ : Type} [Rp β] [Rp γ] {l : Lens β γ} (hx : Look c E L x (.lp p l) := by exact lk) : HR c E L ⟨d, .nilCheck x, ty, pos, af, g⟩ (.lp p l) := r_nck hx
theorem w_ial {p n s k : Nat} {i : Int} {β α : Type} [Rp β] [Rp α] [Inhabited α] {l : Lens β (Vector α n)} [ar : Ar c.P t n s] (hx : Look c E L x (.lp p l) := by exact lk) (hs : Rp.size α = s := by rfl) (hy : Look c E L y (.of i) := by exact lk) (hk : idx n i = some k := by exact fact) :
    HR c E L ⟨d, .indexAddr t x y, ty, pos, af, g⟩ (.lp p (l.comp (Lens.idx (α := α) n k (idx_some hk).1))) := by subst hs; exact r_ia ar hx hy (idx_some hk)
/-- what type a block is of -/
def TyW (L : List Ent) {β : Type} [Rp β] (p : Nat) (b : β) : Prop := True
theorem TyW.m {β : Type} [Rp β] {p j : Nat} {b : β} (h : L[j]? = some ⟨some p, .var b⟩) : TyW L p b := trivial
theorem w_ia0 {p n s k : Nat} {i : Int} {α : Type} [Rp α] [Inhabited α] {b : Vector α n} [ar : Ar c.P t n s] (hx : Look c E L x (.pb p) := by exact lk) (hL : TyW L p b := by first | exact TyW.m At.g | exact TyW.m (hL _ _ At.g rfl) | exact hT _ _ At.g) (hs : Rp.size α = s := by rfl) (hy : Look c E L y (.of i) := by exact lk) (hk : idx n i = some k := by exact fact) :
    HR c E L ⟨d, .indexAddr t x y, ty, pos, af, g⟩ (.lp p (Lens.idx (α := α) n k (idx_some hk).1)) := by
  subst hs
  have := r_ia (d := d) (ty := ty) (pos := pos) (af := af) (g := g) ar hx hy (idx_some hk)
  rwa [Nat.zero_add] at this
theorem w_iap {n s k : Nat} {i : Int} {α : Type} [Rp α] [Inhabited α] {v : Vector α n} [ar : Ar c.P t n s] (hx : Look c E L x (.ptr v) := by exact lk) (hs : Rp.size α = s := by rfl) (hy : Look c E L y (.of i) := by exact lk) (hk : idx n i = some k := by exact fact) :
    HR c E L ⟨d, .indexAddr t x y, ty, pos, af, g⟩ (.ptr (vget v k)) := r_iap ar hs hx hy (idx_some hk)
/-- operators by their numbers' kinds -/
class Bop (op : BinOp) (α : Type) {β : outParam Type} [Rp α] [Rp β] (f : outParam (α → α → β)) : Prop where
  h : ∀ {c : Cx} {E L d ty pos af g x y t t2} {a b : α}, Look c E L x (.of a) → Look c E L y (.of b) → HR c E L ⟨d, .binOp op t x y t2, ty, pos, af, g⟩ (.of (f a b))
instance : Bop .add Int (fun a b => w64 (a + b)) := ⟨r_add⟩
instance : Bop .lss Int (fun a b => decide (a < b)) := ⟨r_lss⟩
instance : Bop .geq Int (fun a b => decide (a ≥ b)) := ⟨r_geq⟩
instance : Bop .eql Int (fun a b => a == b) := ⟨r_eql⟩
instance : Bop .neq Int (fun a b => a != b) := ⟨r_neq⟩
theorem w_bin {op : BinOp} {α β : Type} [Rp α] [Rp β] {f : α → α → β} {a b : α} [k : Bop op α f] (hx : Look c E L x (.of a) := by exact lk) (hy : Look c E L y (.of b) := by exact lk) : HR c E L ⟨d, .binOp op t x y t2, ty, pos, af, g⟩ (.of (f a b)) := k.h hx hy
theorem g_bin {op : BinOp} {τ : VP} (h : HR c E L ⟨d, .binOp op t x y t2, ty, pos, af, g⟩ τ) : HR c E L ⟨d, .binOp op t x y t2, ty, pos, af, g⟩ τ := h
theorem g_ld  {τ : VP} (h : HR c E L ⟨d, .load t x, ty, pos, af, g⟩ τ) : HR c E L ⟨d, .load t x, ty, pos, af, g⟩ τ := h
theorem g_fa {s f : Nat} {τ : VP} (h : HR c E L ⟨d, .fieldAddr s x f, ty, pos, af, g⟩ τ) : HR c E L ⟨d, .fieldAddr s x f, ty, pos, af, g⟩ τ := h
theorem g_ca {k : Call} {τ : VP} (h : HR c E L ⟨d, .call k, ty, pos, af, g⟩ τ) : HR c E L ⟨d, .call k, ty, pos, af, g⟩ τ := h
theorem g_un {op : UnOp} {τ : VP} (h : HR c E L ⟨d, .unOp op t x, ty, pos, af, g⟩ τ) : HR c E L ⟨d, .unOp op t x, ty, pos, af, g⟩ τ := h
theorem g_ix  {τ : VP} (h : HR c E L ⟨d, .indexAddr t x y, ty, pos, af, g⟩ τ) : HR c E L ⟨d, .indexAddr t x y, ty, pos, af, g⟩ τ := h
theorem g_cv {src dst : TypeId} {τ : VP} (h : HR c E L ⟨d, .convert src dst x, ty, pos, af, g⟩ τ) : HR c E L ⟨d, .convert src dst x, ty, pos, af, g⟩ τ := h
theorem g_nc  {τ : VP} (h : HR c E L ⟨d, .nilCheck x, ty, pos, af, g⟩ τ) : HR c E L ⟨d, .nilCheck x, ty, pos, af, g⟩ τ := h
theorem g_mv  {τ : VP} (h : HR c E L ⟨d, .move x, ty, pos, af, g⟩ τ) : HR c E L ⟨d, .move x, ty, pos, af, g⟩ τ := h
theorem g_as  {τ : VP} (h : HR c E L ⟨d, .assign x, ty, pos, af, g⟩ τ) : HR c E L ⟨d, .assign x, ty, pos, af, g⟩ τ := h
theorem g_ex {i : Nat} {τ : VP} (h : HR c E L ⟨d, .extract x i, ty, pos, af, g⟩ τ) : HR c E L ⟨d, .extract x i, ty, pos, af, g⟩ τ := h
theorem g_pk {z w : Operand} {τ : VP} (h : HR c E L ⟨d, .pick z x w, ty, pos, af, g⟩ τ) : HR c E L ⟨d, .pick z x w, ty, pos, af, g⟩ τ := h
theorem g_bd {ps : Array (Nat × Operand)} {τ : VP} (h : HR c E L ⟨d, .build t ps, ty, pos, af, g⟩ τ) : HR c E L ⟨d, .build t ps, ty, pos, af, g⟩ τ := h
theorem g_bl {n : Nat} {ps : Array (Nat × Operand)} {τ : VP} (h : HR c E L ⟨d, .buildSlice t n ps, ty, pos, af, g⟩ τ) : HR c E L ⟨d, .buildSlice t n ps, ty, pos, af, g⟩ τ := h
/-- whatever operation it is -/
theorem hr {τ : VP} (h : HR c E L o τ := by first
  | (apply g_mv; exact r_move lk)
  | (apply g_as; exact r_asg lk)
  | (apply g_ld; first | exact w_lp | exact w_l0 | exact w_ptr)
  | (apply g_fa; first | exact w_fp | exact w_fl | exact w_f0)
  | (apply g_bin; first | exact w_bin | exact w_rn | exact w_rs | exact w_eqA | exact w_neA | exact w_2u r_beq | exact w_2u r_bne)
  | (apply g_ca; first | exact w_len | exact w_lens | exact w2 r_min | exact w2 r_max | exact w2 r_minu64)
  | (apply g_ex; exact w_ext)
  | (apply g_pk; first | exact w_or | exact w_and)
  | (apply g_un; first | exact w1 r_not | exact w1 r_neg)
  | (apply g_bd; exact w_bd)
  | (apply g_bl; exact w_bl)
  | (apply g_cv; first | exact w_cv r_ci64 | exact w_cv r_c64i | exact w_cv r_c8i | exact w_cv r_cii | exact w_cv r_ci8 | exact w_cv r_c64_64)
  | (apply g_nc; first | exact w_nl | exact w1 r_nck | exact w1 r_nckp)) : HR c E L o τ := h

/-- an operation that may fail: what is known of it stands among the hypotheses -/
theorem hrp {τ : VP} (h : HR c E L o τ := by first
  | (apply g_ix; first | exact w_ix | exact w_ial | exact w_ia0 | exact w_iap)
  | (apply g_ca; first | exact w_c1 | exact w_c2 | exact w_c3 | exact w_c0)
  | (apply g_nc; exact w_nr) | (apply g_ld; first | exact w_lm | exact w_lx)
  | (apply g_bin; first | exact w_rem | exact w_quo | exact w_shl | exact w_shr)) : HR c E L o τ := h
class Pop (op : BinOp) : Prop where
  h : True
instance : Pop .quo := ⟨trivial⟩
instance : Pop .rem := ⟨trivial⟩
instance : Pop .shl := ⟨trivial⟩
instance : Pop .shr := ⟨trivial⟩
theorem q_nc (h : Sq c ops Q (⟨d, .nilCheck x, ty, pos, af, g⟩ :: rest) E L) : Sq c ops Q (⟨d, .nilCheck x, ty, pos, af, g⟩ :: rest) E L := h
theorem q_ld (h : Sq c ops Q (⟨d, .load t x, ty, pos, af, g⟩ :: rest) E L) : Sq c ops Q (⟨d, .load t x, ty, pos, af, g⟩ :: rest) E L := h
theorem q_ix (h : Sq c ops Q (⟨d, .indexAddr t x y, ty, pos, af, g⟩ :: rest) E L) : Sq c ops Q (⟨d, .indexAddr t x y, ty, pos, af, g⟩ :: rest) E L := h
theorem q_ca {f : FuncId} {xs : Array Operand} {ats : Array TypeId} (h : Sq c ops Q (⟨d, .call ⟨.value (.func f), xs, ats⟩, ty, pos, af, g⟩ :: rest) E L) : Sq c ops Q (⟨d, .call ⟨.value (.func f), xs, ats⟩, ty, pos, af, g⟩ :: rest) E L := h
theorem q_bin {op : BinOp} [k : Pop op] (h : Sq c ops Q (⟨d, .binOp op t x y t2, ty, pos, af, g⟩ :: rest) E L) : Sq c ops Q (⟨d, .binOp op t x y t2, ty, pos, af, g⟩ :: rest) E L := h

/-! ### Steps -/

inductive Nm : VP → VP → Prop
  | i {τ} : Nm τ τ
  | n {α : Type} [Rp α] {a b : α} : some a = some b → Nm (.of a) (.of b)
theorem Nm.hr {τ σ : VP} (h : Nm τ σ) (k : HR c E L o τ) : HR c E L o σ := by
  cases h with
  | i => exact k
  | n e => cases e; exact k
theorem s_gg {τ : VP} {j g : Nat} {p : Prop} {b want : Bool} (k : Sq c ops Q rest ((dd, .cond (p ∧ b = want) τ) :: E) L) (hg : o.guard = some (j, want) := by rfl) (hj : (ops[j]?).bind (·.dst) = some g := by rfl) (hl : look E g = some (.cond p (.of b)) := by rfl)
    (h : p ∧ b = want → HR c E L o τ := by intro hb; exact hr) (hd : o.dst = some dd := by rfl) (hn : Nat.blt dd c.n = true := by rfl) : Sq c ops Q (o :: rest) E L := .gg h hg hj hl hd hn k
theorem e_o0 {fn : Func} {Lo : Unit → List Ent} (hs : (Lo ()).Sublist L := by repeat (first | exact List.Sublist.refl _ | exact List.nil_sublist _ | apply List.Sublist.cons_cons | apply List.Sublist.cons)) (hr : fn.results = #[] := by rfl) (hds : c.ds = [] := by rfl) :
    To c (bodyPost c.P fn (PostO c.X c.A0 c.W0 (fun _ : Unit => .tup []) Lo)) .ret E L := .endO0 () hs hr rfl hds
theorem e_o1 {fn : Func} {r : ResultVar} {τ : VP} {ρ : Unit → VP} {Lo : Unit → List Ent} (hs : (Lo ()).Sublist L := by repeat (first | exact List.Sublist.refl _ | exact List.nil_sublist _ | apply List.Sublist.cons_cons | apply List.Sublist.cons)) (hr : fn.results = #[r] := by rfl) (h : RVO c E L r τ := by exact rvo) (hρ : ρ () = τ := by rfl) (hds : c.ds = [] := by rfl) :
    To c (bodyPost c.P fn (PostO c.X c.A0 c.W0 ρ Lo)) .ret E L := .endO1 () hs hr hρ h hds
theorem e_o2 {fn : Func} {r r2 : ResultVar} {τ τ2 : VP} {ρ : Unit → VP} {Lo : Unit → List Ent} (hs : (Lo ()).Sublist L := by repeat (first | exact List.Sublist.refl _ | exact List.nil_sublist _ | apply List.Sublist.cons_cons | apply List.Sublist.cons)) (hr : fn.results = #[r, r2] := by rfl) (h : RVO c E L r τ := by exact rvo) (h2 : RVO c E L r2 τ2 := by exact rvo) (hρ : ρ () = .tup [τ, τ2] := by rfl) (hds : c.ds = [] := by rfl) :
    To c (bodyPost c.P fn (PostO c.X c.A0 c.W0 ρ Lo)) .ret E L := .endO2 () hs hr hρ h h2 hds
theorem t_c {R : Type} {b : Bool} {A B : Option R} {r : R} (h : cond b A B = some r) : True := trivial
theorem t_w {R : Type} {b : Bool} {A B : Wm R} {r : R → Prop} (h : cond b A B r) : True := trivial
theorem g_al (h : Sq c ops Q (⟨some dd, .alloc t, ty, pos, af, none⟩ :: rest) E L) : Sq c ops Q (⟨some dd, .alloc t, ty, pos, af, none⟩ :: rest) E L := h
theorem g_bx (h : Sq c ops Q (⟨some dd, .box t x, ty, pos, af, none⟩ :: rest) E L) : Sq c ops Q (⟨some dd, .box t x, ty, pos, af, none⟩ :: rest) E L := h
theorem g_st (h : Sq c ops Q (⟨none, .store t x y, ty, pos, af, none⟩ :: rest) E L) : Sq c ops Q (⟨none, .store t x y, ty, pos, af, none⟩ :: rest) E L := h
theorem g_cd {z : Operand} {u v : Code} (h : Wp c Q (.cond z u v) E L) : Wp c Q (.cond z u v) E L := h
theorem s_v {τ : VP} (k : Sq c ops Q rest ((dd, τ) :: E) L) (hg : o.guard = none := by rfl) (hd : o.dst = some dd := by rfl) (h : HR c E L o τ := by exact hr) (hn : Nat.blt dd c.n = true := by rfl) : Sq c ops Q (o :: rest) E L := .v h hg hd hn k
theorem s_g {τ : VP} {j g : Nat} {b want : Bool} (k : Sq c ops Q rest ((dd, .cond (b = want) τ) :: E) L) (hg : o.guard = some (j, want) := by rfl) (hj : (ops[j]?).bind (·.dst) = some g := by rfl) (hl : look E g = some (.of b) := by rfl)
    (h : b = want → HR c E L o τ := by intro hb; exact hr) (hd : o.dst = some dd := by rfl) (hn : Nat.blt dd c.n = true := by rfl) : Sq c ops Q (o :: rest) E L := .g h hg hj hl hd hn k
theorem s_al {α : Type} [ia : Rp α] {z : α} [zr : Zr c.P t z] (k : ∀ p, Sq c ops Q rest ((dd, .pb p) :: E) (⟨some p, .var z⟩ :: L)) (hn : Nat.blt dd c.n = true := by rfl) : Sq c ops Q (⟨some dd, .alloc t, ty, pos, af, none⟩ :: rest) E L := .alloc zr hn k
theorem s_bx {α : Type} [Rp α] {z : α} (k : ∀ p, Sq c ops Q rest ((dd, .pb p) :: E) (⟨some p, .var z⟩ :: L)) (hx : Look c E L x (.of z) := by exact lk) (hn : Nat.blt dd c.n = true := by rfl) : Sq c ops Q (⟨some dd, .box t x, ty, pos, af, none⟩ :: rest) E L := .box hx hn k
theorem s_st {p : Nat} {β γ : Type} [Rp β] [Rp γ] {b : β} {v : γ} {l : Lens β γ} [tt : Ty c.P t γ] (k : Sq c ops Q rest E L') (hx : Look c E L x (.lp p l) := by exact lk) (hy : Look c E L y (.of v) := by first | exact lk | exact look_nil)
    (hL : Up L ⟨some p, .var b⟩ ⟨some p, .var (l.set b v)⟩ L' := by repeat (first | exact Up.z | apply Up.s)) : Sq c ops Q (⟨none, .store t x y, ty, pos, af, none⟩ :: rest) E L := by
  obtain ⟨j, h1, rfl⟩ := hL.get
  exact .store l tt hx hy h1 rfl rfl k
theorem s_s0 {p : Nat} {β : Type} [Rp β] {b v : β} [tt : Ty c.P t β] (k : Sq c ops Q rest E L') (hx : Look c E L x (.pb p) := by exact lk) (hy : Look c E L y (.of v) := by first | exact lk | exact look_nil)
    (hL : Up L ⟨some p, .var b⟩ ⟨some p, .var v⟩ L' := by repeat (first | exact Up.z | apply Up.s)) : Sq c ops Q (⟨none, .store t x y, ty, pos, af, none⟩ :: rest) E L := by
  obtain ⟨j, h1, rfl⟩ := hL.get
  exact .store (Lens.id β) tt hx hy h1 rfl rfl k
theorem s_nb {α R : Type} {a : α} {f : α → Option R} {r : R} {G : Prop} (h : (some a).bind f = some r) (k : ∀ y, some a = some y → f y = some r → G) : G := k a rfl h
theorem s_vn {α : Type} [Rp α] {a a' : α} {K : α → Prop} (k : ∀ y, some a = some y → K y → Sq c ops Q rest ((dd, .of y) :: E) L) (hg : o.guard = none := by rfl) (hd : o.dst = some dd := by rfl) (h : HR c E L o (.of a') := by exact hr) (e : a' = a := by with_reducible rfl) (hn : Nat.blt dd c.n = true := by rfl) :
    ∀ y, some a = some y → K y → Sq c ops Q (o :: rest) E L := fun y hy hk => by subst e; exact .v ((Nm.n hy).hr h) hg hd hn (k y hy hk)
theorem s_nw {α R : Type} {a : α} {f : α → Wm R} {r : R → Prop} {G : Prop} (h : Wm.bind (Wm.of (some a)) f r) (k : ∀ y, some a = some y → f y r → G) : G := by obtain ⟨y, h1, h2⟩ := h; exact k y h1 h2
theorem s_b {α R : Type} {m : Option α} {f : α → Option R} {r : R} (h : m.bind f = some r) (k : ∀ y, m = some y → f y = some r → Sq c ops Q (o :: rest) E L) : Sq c ops Q (o :: rest) E L := Qbf h k
theorem s_bw {α R : Type} {m : Option α} {f : α → Wm R} {r : R → Prop} (h : Wm.bind (Wm.of m) f r) (k : ∀ y, m = some y → f y r → Sq c ops Q (o :: rest) E L) : Sq c ops Q (o :: rest) E L := Wm.obf h k
theorem rvc {u j p : Nat} {α : Type} [Rp α] {x : α} [k : Ty c.P ty α] (h : look E u = some (.pb p) := by rfl) (hL : L[j]? = some ⟨some p, .var x⟩ := by first | exact At.g | exact hL _ _ At.g rfl) : RV c E L (.cell u ty) (.of x) := rv_c k h hL
theorem rv {r : ResultVar} {τ : VP} (h : RV c E L r τ := by first | exact rv_t rfl | exact rvc) : RV c E L r τ := h
theorem rvoc {u j p : Nat} {α : Type} [Rp α] {x : α} [k : Ty c.P ty α] (h : look E u = some (.pb p) := by rfl) (hL : L[j]? = some ⟨some p, .var x⟩ := by first | exact At.g | exact hL _ _ At.g rfl) : RVO c E L (.cell u ty) (.of x) := rvo_c k h hL
theorem rvo {r : ResultVar} {τ : VP} (h : RVO c E L r τ := by first | exact rvo_t rfl | exact rvoc) : RVO c E L r τ := h
theorem e_0 {fn : Func} (hr : fn.results = #[] := by rfl) (hds : c.ds = [] := by rfl) : To c (bodyPost c.P fn (Post c (.tup []))) .ret E L := .end0 hr hds
theorem e_1 {fn : Func} {r : ResultVar} {τ : VP} (hr : fn.results = #[r] := by rfl) (h : RV c E L r τ := by exact rv) (hds : c.ds = [] := by rfl) : To c (bodyPost c.P fn (Post c τ)) .ret E L := .end1 hr h hds
theorem e_2 {fn : Func} {r1 r2 : ResultVar} {τ τ2 : VP} (hr : fn.results = #[r1, r2] := by rfl) (h : RV c E L r1 τ := by exact rv) (h2 : RV c E L r2 τ2 := by exact rv) (hds : c.ds = [] := by rfl) : To c (bodyPost c.P fn (Post c (.tup [τ, τ2]))) .ret E L := .end2 hr h h2 hds
theorem e_3 {fn : Func} {r1 r2 r3 : ResultVar} {τ τ2 τ3 : VP} (hr : fn.results = #[r1, r2, r3] := by rfl) (h : RV c E L r1 τ := by exact rv) (h2 : RV c E L r2 τ2 := by exact rv) (h3 : RV c E L r3 τ3 := by exact rv) (hds : c.ds = [] := by rfl) : To c (bodyPost c.P fn (Post c (.tup [τ, τ2, τ3]))) .ret E L := .end3 hr h h2 h3 hds
end
inductive HV (c : Cx) (ops : Array Oper) (E : List (Nat × VP)) (L : List Ent) (hs : List Hd) : List Oper → List (Option Nat) → List (List Nat) → List VP → Prop
  | nil {os} : HV c ops E L hs os [] [] []
  | cons {o os s ss d ds τ ts} : (∀ L' : List Ent, (∀ (j : Nat) (e : Ent), L[j]? = some e → unsto (fun _ => false) j 0 [] = true → L'[j]? = some e) → HO c ops (heD (fun _ _ => none) hs E d) L' o τ) → HV c ops E L hs os ss ds ts → HV c ops E L hs (o :: os) (s :: ss) (d :: ds) (τ :: ts)
theorem HV.h {c : Cx} {ops : Array Oper} {E : List (Nat × VP)} {L : List Ent} {hs : List Hd} {os ss ds ts} (h : HV c ops E L hs os ss ds ts) : HeadsV c ops E L hs os ss ds ts := by
  induction h with
  | nil => simp [HeadsV]
  | cons h1 _ ih => exact ⟨h1, ih⟩
section
variable {c : Cx} {E : List (Nat × VP)} {L : List Ent} {ops : Array Oper} {Q : Exit → Act → World → Prop} {o : Oper}
theorem hov {τ σ : VP} (hg : o.guard = none := by rfl) (h : HR c E L o τ := by first | exact hr | exact hrp | exact w_lxo) (n : Nm τ σ := by first | exact Nm.n (by with_reducible assumption) | exact Nm.i) : HO c ops E L o σ := HO.v (n.hr h) hg
theorem hog {τ : VP} {j g : Nat} {b want : Bool} (hg : o.guard = some (j, want) := by rfl) (hj : (ops[j]?).bind (·.dst) = some g := by rfl) (hl : look E g = some (.of b) := by rfl) (h : b = want → HR c E L o τ := by intro hb; first | exact hr | exact hrp | exact w_lxo) :
    HO c ops E L o (.cond (b = want) τ) := HO.g h hg hj hl
end
/-! ### Drawn regions with operations that change entries -/
theorem msk_self {up : List Nat} {i : Nat} {hd : Nat → Hid} {x : Hid} : msk up i (upd hd i x) i = x := by
  unfold msk upd
  simp
/-- a new variable at entry j -/
def Hal (s : Nat) (up : List Nat) (j i : Nat) {α : Type} [Rp α] (z : α) : Hd := ⟨some s, up, [j], [j], fun hd => VP.pb ((hd i 0).getD 0), fun hd _ => vr ((hd i 0).getD 0) z⟩
inductive StO (c : Cx) (E : List (Nat × VP)) (L : List Ent) (t : TypeId) (x y : Operand) (j : Nat) (e : Ent) : Prop
  | mk {p : Nat} {β γ : Type} [Rp β] [Rp γ] {b : β} {v : γ} (l : Lens β γ) : Ty c.P t γ → Look c E L x (.lp p l) → Look c E L y (.of v) → L[j]? = some ⟨some p, .var b⟩ → ⟨some p, .var (l.set b v)⟩ = e → StO c E L t x y j e
  | z {p : Nat} {β : Type} [Rp β] {b v : β} : Ty c.P t β → Look c E L x (.pb p) → Look c E L y (.of v) → L[j]? = some ⟨some p, .var b⟩ → ⟨some p, .var v⟩ = e → StO c E L t x y j e
section
variable {c : Cx} {E : List (Nat × VP)} {L : List Ent} {ops : Array Oper} {Q : Exit → Act → World → Prop} {o : Oper} {hs : List Hd} {np i dd : Nat} {up rd : List Nat} {t ty : TypeId} {pos : String} {af : Array Edge} {x y : Operand}
theorem vq {p : Nat} {β : Type} [Rp β] {a b : β} (h : some a = some b) : (⟨some p, .var a⟩ : Ent) = ⟨some p, .var b⟩ := by cases h; rfl
theorem so {p j : Nat} {β γ : Type} [Rp β] [Rp γ] {b : β} {v : γ} {l : Lens β γ} {e : Ent} [k : Ty c.P t γ] (hx : Look c E L x (.lp p l) := by exact lk) (hy : Look c E L y (.of v) := by first | exact lk | exact look_nil) (h : L[j]? = some ⟨some p, .var b⟩ := by exact hL _ _ rfl rfl) (he : ⟨some p, .var (l.set b v)⟩ = e := by first | rfl | exact vq (by assumption)) : StO c E L t x y j e := .mk l k hx hy h he
theorem sz {p j : Nat} {β : Type} [Rp β] {b v : β} {e : Ent} [k : Ty c.P t β] (hx : Look c E L x (.pb p) := by exact lk) (hy : Look c E L y (.of v) := by first | exact lk | exact look_nil) (h : L[j]? = some ⟨some p, .var b⟩ := by exact hL _ _ rfl rfl) (he : ⟨some p, .var v⟩ = e := by first | rfl | exact vq (by assumption)) : StO c E L t x y j e := .z k hx hy h he
inductive HN (c : Cx) (E : List (Nat × VP)) (L : List Ent) (o : Oper) (σ : VP) : Prop
  | mk {τ : VP} : HR c E L o τ → Nm τ σ → HN c E L o σ
theorem HN.h {σ : VP} (h : HN c E L o σ) : HR c E L o σ := by cases h with | mk h n => exact n.hr h
theorem hn {τ σ : VP} (h : HR c E L o τ := by first | exact hr | exact hrp) (n : Nm τ σ := by first | exact Nm.n (by with_reducible assumption) | exact Nm.i) : HN c E L o σ := .mk h n
theorem dho {σ : VP} (h : ∀ (hd : Nat → Hid) (E' : List (Nat × VP)) (L' : List Ent), (∀ t τ, look (heD hd hs E up) t = some τ → look E' t = some τ) → (∀ j e, (Lf (fun _ => true) hd 0 (hs.take i) L)[j]? = some e → rd.contains j = true → L'[j]? = some e) → (∀ {β : Type} [Rp β] (p : Nat) (b : β) {j : Nat}, (Lf (fun _ => true) hd 0 (hs.take i) L)[j]? = some ⟨some p, .var b⟩ → TyW L' p b) → L'.drop np = L.drop np → HN c E' L' o σ := by intro hd E' L' hE hL hT hP; exact hn)
    (hg : o.guard = none := by rfl) (hd : o.dst = some dd := by rfl) (hn : Nat.blt dd c.n = true := by rfl) : HeadDP c ops Q hs E L np i o (Hp dd up rd σ) :=
  fun a b c' d e f => Sq.v (h a b c' d e (fun _ _ _ _ => trivial) f).h hg hd hn (Sq.nil (To.fin (fun _ => none) rfl rfl))
theorem dhg {τ : VP} {j g : Nat} {b want : Bool} (hg : o.guard = some (j, want) := by rfl) (hj : (ops[j]?).bind (·.dst) = some g := by rfl) (hl : ∀ hd, look (heD hd hs E up) g = some (.of b) := by intro hd; rfl)
    (h : ∀ (hd : Nat → Hid) (E' : List (Nat × VP)) (L' : List Ent), (∀ t τ, look (heD hd hs E up) t = some τ → look E' t = some τ) → (∀ j e, (Lf (fun _ => true) hd 0 (hs.take i) L)[j]? = some e → rd.contains j = true → L'[j]? = some e) → (∀ {β : Type} [Rp β] (p : Nat) (b : β) {j : Nat}, (Lf (fun _ => true) hd 0 (hs.take i) L)[j]? = some ⟨some p, .var b⟩ → TyW L' p b) → L'.drop np = L.drop np → b = want → HN c E' L' o τ := by intro hd E' L' hE hL hT hP hb; exact hn)
    (hd : o.dst = some dd := by rfl) (hn : Nat.blt dd c.n = true := by rfl) : HeadDP c ops Q hs E L np i o (Hp dd up rd (.cond (b = want) τ)) :=
  fun a b' c' d e f => Sq.g (fun z => (h a b' c' d e (fun _ _ _ _ => trivial) f z).h) hg hj (d _ _ (hl a)) hd hn (Sq.nil (To.fin (fun _ => none) rfl rfl))
theorem dal {α : Type} [ia : Rp α] {z : α} [zr : Zr c.P t z] {s j : Nat} (hj : ∀ hd, (Lf (fun _ => true) hd 0 (hs.take i) L)[j]? = some ⟨none, .dead⟩ := by intro hd; rfl) (hn : Nat.blt s c.n = true := by rfl) : HeadDP c ops Q hs E L np i ⟨some s, .alloc t, ty, pos, af, none⟩ (Hal s up j i z) :=
  fun hd E' L' hE hL hP => .alloc zr hn fun p => .nil (.place j (hL j _ (hj hd) (by simp [Hal])) (.fin (gm [some p]) (by simp [Hal, addE, msk_self, gm]) (by simp [Hal, setE, msk_self, gm])))
theorem dst {j : Nat} {e : (Nat → Hid) → Ent} (h : ∀ (hd : Nat → Hid) (E' : List (Nat × VP)) (L' : List Ent), (∀ t τ, look (heD hd hs E up) t = some τ → look E' t = some τ) → (∀ k e, (Lf (fun _ => true) hd 0 (hs.take i) L)[k]? = some e → [j].contains k = true → L'[k]? = some e) → L'.drop np = L.drop np → StO c E' L' t x y j (e (msk up i (upd hd i fun _ => none))) := by intro hd E' L' hE hL hP; first | exact so | exact sz) :
    HeadDP c ops Q hs E L np i ⟨none, .store t x y, ty, pos, af, none⟩ (Hs up [j] [j] e) := fun hd E' L' hE hL hP => by
  cases h hd E' L' hE hL hP with
  | mk l tt hx hy h1 h2 => exact .store l tt hx hy h1 rfl rfl (.nil (.fin (fun _ => none) rfl (congrArg (L'.set j) h2)))
  | z tt hx hy h1 h2 => exact .store (Lens.id _) tt hx hy h1 rfl rfl (.nil (.fin (fun _ => none) rfl (congrArg (L'.set j) h2)))
end
inductive HX (c : Cx) (ops : Array Oper) (Q : Exit → Act → World → Prop) (hs : List Hd) (E : List (Nat × VP)) (L : List Ent) (np : Nat) : Nat → List Oper → List Hd → Prop
  | nil {i} : HX c ops Q hs E L np i [] []
  | cons {i o os h r} : HeadDP c ops Q hs E L np i o h → HX c ops Q hs E L np (i + 1) os r → HX c ops Q hs E L np i (o :: os) (h :: r)
theorem HX.h {c : Cx} {ops : Array Oper} {Q : Exit → Act → World → Prop} {hs : List Hd} {E : List (Nat × VP)} {L : List Ent} {np i : Nat} {os r} (h : HX c ops Q hs E L np i os r) : HeadsDP c ops Q hs E L np i os r := by
  induction h with
  | nil => simp [HeadsDP]
  | cons h1 _ ih => exact ⟨h1, ih⟩
section
variable {c : Cx} {E : List (Nat × VP)} {L : List Ent} {Q : Exit → Act → World → Prop} {rid : Nat} {l : List Oper} {ds : List (Option Nat × List Nat × List Nat × List Nat)} {es : List Nat} [kx : Kx c.P] (np : Nat) (hs : List Hd)
include kx
theorem Wp.en {K : Prop} (k : K) (ht : ∀ hd, To c Q .normal (zipD (fun _ => true) hd E 0 hs) (Lf (fun _ => true) hd 0 hs L)) (hh : Kw K → HX c l.toArray Q hs E L np 0 l hs := by intro k; repeat (first | apply HX.nil | (apply HX.cons; first | exact dal | exact dst | exact dho | exact dhg | exact k.k.1 | exact k.k.2.1 | exact k.k.2.2.1 | exact k.k.2.2.2.1 | exact k.k.2.2.2.2.1 | exact k.k.2.2.2.2.2.1 | exact k.k.2.2.2.2.2.2.1 | exact k.k.2.2.2.2.2.2.2.1 | exact k.k.2.2.2.2.2.2.2.2.1 | exact k.k.2.2.2.2.2.2.2.2.2.1 | exact k.k.2.2.2.2.2.2.2.2.2.2.1 | exact k.k.2.2.2.2.2.2.2.2.2.2.2.1 | exact k.k.2.2.2.2.2.2.2.2.2.2.2.2.1 | exact k.k.2.2.2.2.2.2.2.2.2.2.2.2.2.1)))
    (hds : dat hs = ds := by rfl) (hes : E.map (·.1) = es := by rfl) (hB : Gv.drawT l.toArray l.length ds es = true := by kernel_rfl) (hw : (ds.all fun d => d.2.2.2.all fun j => Nat.blt j np) = true := by kernel_rfl) : Wp c Q (.region rid l.toArray true) E L := .dQ np kx.m hs es (hh ⟨k⟩).h ht hds hes hB hw
end
/-! ### Drawn regions in phases -/
section
variable {c : Cx} {E : List (Nat × VP)} {L : List Ent} {l : List Oper} {Q : Exit → Act → World → Prop}
inductive LI (c : Cx) (l : List Oper) (E : List (Nat × VP)) (L : List Ent) (fs : List (Nat × Nat × VP)) : List Nat → Prop
  | nil : LI c l E L fs []
  | cons {i o τ r} : l[i]? = some o → fndN i fs = some τ → HO c l.toArray (gE (fun j => memN j (depN o)) E fs) L o τ → LI c l E L fs r → LI c l E L fs (i :: r)
theorem LI.h {fs : List (Nat × Nat × VP)} {nl : List Nat} (h : LI c l E L fs nl) : LP c l E L fs nl := by
  induction h with
  | nil => trivial
  | cons h1 h2 h3 _ ih => exact ⟨by rw [h1, h2]; exact h3, ih⟩
theorem AnyP.md {cn : Nat} {eff pe : List Nat} {fs : List (Nat × Nat × VP)} {ks : List (Nat × Nat)} {es : List Nat} (fc nl el : List Nat) (hE : EP c l Q eff pe fs E L el) (hL : LI c l E L fs nl := by repeat (first | apply LI.nil | (apply LI.cons; rfl; rfl; (first | exact hov | exact hog)))) (hn : eff.all (fun k => memN k pe) = false := by rfl)
    (hks : fs.map (fun x => (x.1, x.2.1)) = ks := by rfl) (hes : E.map (·.1) = es := by rfl) (hcn : c.n = cn := by rfl) (hB : phB l cn eff pe fc nl el ks es = true := by kernel_rfl) : AnyP c l Q eff pe fs E L := .mid fc nl el hL.h hE hn hks hes hcn hB
end
/-- the walk: as far as it goes; what is left is k1, k2, .. -/
theorem go {G : Prop} (h : G := by
  repeat (first
  | (change Sq _ _ _ (_ :: _) _ _
     first
     | ((with_reducible refine s_nb h ?_); refine s_vn ?_; (try clear h); intro zv zw h; have zc := True.intro) | ((with_reducible refine s_nw h ?_); refine s_vn ?_; (try clear h); intro zv zw h; have zc := True.intro)
     | (apply g_al; refine s_al ?_; intro zv) | (apply g_bx; refine s_bx ?_; intro zv)
     | (apply g_st; first | refine s_st ?_ | refine s_s0 ?_)
     | (apply q_nc; (first | (with_reducible refine s_b h ?_) | (with_reducible refine s_bw h ?_)); (try clear h); (intro zv zw h; have zc := True.intro); first | (refine s_v ?_ (h := by exact hrp); change Sq _ _ _ _ ((_, VP.pb zv) :: _) _) | (refine s_g ?_ (h := by intro hb; exact hrp); change Sq _ _ _ _ ((_, VP.cond _ (VP.pb zv)) :: _) _))
     | ((first | apply q_nc | apply q_ld); first | refine s_v ?_ (h := by exact hrp) | refine s_g ?_ (h := by intro hb; exact hrp))
     | ((first | apply q_ix | apply q_ca | apply q_bin | apply q_ld); (first | (with_reducible refine s_b h ?_) | (with_reducible refine s_bw h ?_)); (try clear h); (intro zv zw h; have zc := True.intro); first | refine s_v ?_ (h := by exact hrp) | refine s_g ?_ (h := by intro hb; exact hrp))
     | refine s_v ?_ | refine s_g ?_ | refine s_gg ?_ | refine s_v ?_ (h := by exact hrp) | refine s_g ?_ (h := by intro hb; exact hrp))
  | (change Sq _ _ _ [] _ _
     first | apply Qnr | apply Qns | apply Qnx | apply Sq.nil)
  | (change Wp _ _ _ _ _
     first | apply Qsr | (apply g_cd; first | ((with_reducible have zc := t_c h); refine Qcd h ?_ ?_ <;> ((try clear h); intro h)) | ((with_reducible have zc := t_w h); refine Qcw h ?_ ?_ <;> ((try clear h); intro h))) | apply Qkn | apply Wp.seq | apply Wp.block | apply Wp.reg | apply Wp.ret | apply Wp.exit | apply Wp.skip)
  | (change To _ _ _ _ _
     first | apply To.next | apply To.ret | apply To.exit | apply To.bret | apply To.bexit | apply To.bnorm | refine To.bother rfl ?_ | (cases h; first | exact e_1 | exact e_2 | exact e_o1 | exact e_o2 | exact e_0 | exact e_3 | exact e_o0 | exact Qrd () 0 | exact Qrd () 1 | exact Qrd () 2 | exact Qrd () 3 | exact Qlv () 0 | exact Qlv () 1 | exact Qlv () 2 | exact Qlv () 3 | exact Qmt 0 (hm ()) | exact Qmt 1 (hm ()) | exact Qmt 2 (hm ())))
  | ((first | ((guard_hyp zc); (clear zc); revert h) | skip); (repeat (revert zv)); first | exact k1.k | exact k2.k | exact k3.k | exact k4.k | exact k5.k | exact k6.k))) : G := h
theorem go1 {G K : Prop} (k : K) (h : Kw K → G := by intro k1; exact go) : G := h ⟨k⟩
end Gv

namespace Gv
open Go
set_option linter.unusedVariables false
set_option linter.unusedSimpArgs false

/-- a function without parameters: what it returns; none: nobody says -/
structure Th (P : Program) (α : Type) where
  r : Option α
instance {P : Program} {α : Type} : Inhabited (Th P α) := ⟨⟨none⟩⟩
instance {P : Program} {α : Type} [Rp α] : Rp (Th P α) where
  size := 1
  agg := false
  rep A W cs x := ∃ v, cs = [v] ∧ v.oneCell' = true ∧ ∀ r, x.r = some r → ∃ f fst cap, v = .func (.func f) fst cap ∧ En P f ∧ ∀ A' W', Ext A W A' W' → (∀ k ∈ A', k < W'.heap.size) →
    Calls P f (fst ++ cap) W' fun e W'' => ∃ v, e = .returned v ∧ Fr [] W' W'' ∧ (VP.of r).holds A' W'' v
  len h := by obtain ⟨v, rfl, _⟩ := h; rfl
  one h := by
    obtain ⟨v, rfl, h, _⟩ := h
    intro u hu
    rw [List.mem_singleton.1 hu]; exact h
  flat _ := rfl
  mono e h := let ⟨v, h1, h2, h3⟩ := h
    ⟨v, h1, h2, fun r hr => let ⟨f, fst, cap, h4, h5, h6⟩ := h3 r hr; ⟨f, fst, cap, h4, h5, fun A' W' e' => h6 A' W' (e.trans e')⟩⟩
instance {P : Program} {α : Type} [Rp α] : Zc (Th P α) := ⟨[.nilFunc], fun _ _ => ⟨_, rfl, rfl, fun r h => by cases h⟩⟩
section
variable {c : Cx} {E : List (Nat × VP)} {L : List Ent} {d : Option Tmp} {ty : TypeId} {pos : String} {af : Array Edge} {g : Option (Nat × Bool)}
theorem r_eqS {x y : Operand} {t t2 : TypeId} {u v : ByteArray} (hu : c.P.underlying t = some .string) (hx : Look c E L x (.of u)) (hy : Look c E L y (.of v)) : HR c E L ⟨d, .binOp .eql t x y t2, ty, pos, af, g⟩ (.of (u.data.toList == v.data.toList)) := .pure fun a W s => by
  have h1 : a.eval x = .string u := of_str.1 (hx a W s)
  have h2 : a.eval y = .string v := of_str.1 (hy a W s)
  exact ⟨.bool (u.data.toList == v.data.toList), by simp [execOp, eqGuard, binOp, h1, h2, Op.stringOp, ByteArray.toList_eq], of_bool.2 rfl⟩
theorem r_neS {x y : Operand} {t t2 : TypeId} {u v : ByteArray} (hu : c.P.underlying t = some .string) (hx : Look c E L x (.of u)) (hy : Look c E L y (.of v)) : HR c E L ⟨d, .binOp .neq t x y t2, ty, pos, af, g⟩ (.of (u.data.toList != v.data.toList)) := .pure fun a W s => by
  have h1 : a.eval x = .string u := of_str.1 (hx a W s)
  have h2 : a.eval y = .string v := of_str.1 (hy a W s)
  exact ⟨.bool (u.data.toList != v.data.toList), by simp [execOp, eqGuard, binOp, h1, h2, Op.stringOp, ByteArray.toList_eq, bne], of_bool.2 rfl⟩
end
end Gv

namespace Gv
open Go
set_option linter.unusedVariables false
set_option linter.unusedSimpArgs false

/-- a function with what it has captured, deferred -/
def dfn (f : FuncId) (us : List Value) : Deferred := { target := .fn (.func f) us.toArray, args := #[] }
section
variable {c : Cx} {E : List (Nat × VP)} {L : List Ent} {ops : Array Oper} {Q : Exit → Act → World → Prop} {d : Option Tmp} {ty : TypeId} {pos : String} {af : Array Edge}
theorem Sq.defer {rest : List Oper} {fo : Operand} {ats : Array TypeId} {f : FuncId} {us : List Value} (hc : c.rd = Option.none) (hf : Look c E L fo (.of (⟨f, Option.some us⟩ : Raw)))
    (k : Sq { c with ds := dfn f us :: c.ds } ops Q rest E L) : Sq c ops Q (⟨Option.none, .defer ⟨.value fo, #[], ats⟩, ty, pos, af, Option.none⟩ :: rest) E L := fun a W s => by
  have h1 : a.eval fo = .func (.func f) #[] us.toArray := of_raw.1 (hf a W s)
  refine wpListIn_plain rfl fun K hK => ⟨fun _ _ => trivial, ?_⟩
  have hr : ((⟨Option.none, .defer ⟨.value fo, #[], ats⟩, ty, pos, af, Option.none⟩ : Oper).semAt c.F.round a.eval).run c.P W = .ok (.defer (dfn f us)) W := by
    show ((⟨Option.none, .defer ⟨.value fo, #[], ats⟩, ty, pos, af, Option.none⟩ : Oper).semAt c.rd a.eval).run c.P W = _
    rw [hc, Oper.semAt_none]
    simp [execOp, resolve, Deferred.ofValue, h1, dfn]
  rw [hr, Oper.uponIn_defer]
  refine hK _ _ (k _ _ ?_)
  exact { defers := by show dfn f us :: a.defers = dfn f us :: c.ds; rw [s.defers], size := s.size, env := s.env, fr := s.fr, own := s.own, nodup := s.nodup, lt := s.lt, mine := s.mine, old := s.old }
end

/-- as MeetsO, of a call that is deferred -/
def MeetsD (P : Program) (f : FuncId) (τs : List VP) (Lin : List Ent) {δ : Type} (Lo : δ → List Ent) : Prop :=
  ∀ (A : List Nat) (W : World) (vs : List Value), (∀ k ∈ A, k < W.heap.size ∧ k ∉ ks Lin) → (ks Lin).Nodup → (∀ k ∈ ks Lin, k < W.heap.size) → (∀ e ∈ Lin, e.ok (ks Lin ++ A) W) → HoldsAll (ks Lin ++ A) W τs vs →
    ∀ u, CallsDIn Fence.wide 8 P f vs.toArray u W fun e u' W' => u' = u ∧ PostO (ks Lin) A W (fun _ : δ => VP.tup []) Lo e W'
theorem MeetsD.of {P : Program} {f : FuncId} {fn : Func} {code : Code} {n : Nat} {τs : List VP} {Lin : List Ent} {δ : Type} {Lo : δ → List Ent} (hf : P.funcs[f]? = some fn) (hb : fn.body = some code) (hn : fn.ntmps = n) (hlen : Nat.ble τs.length n = true)
    (h : ∀ W A, Wp ⟨P, n, W, ks Lin, A, none, []⟩ (bodyPost P fn (PostO (ks Lin) A W (fun _ : δ => VP.tup []) Lo)) code (params 0 τs) Lin) : MeetsD P f τs Lin Lo := by
  intro A W vs hA hnd hlt hok hv u
  refine callsDIn_of_wp hf hb trivial (wpIn_wide.2 (wpIn_wide.1 (h W A _ _ ?_)))
  have hl := hv.length
  have hle : τs.length ≤ n := Nat.le_of_ble_eq_true hlen
  exact
  { defers := rfl
    size := by simp [hn, hl]; omega
    env := fun t τ hl' => by
      obtain ⟨_, v, h2, h3⟩ := look_params hv 0 t τ hl'
      refine ⟨v, ?_, h3⟩
      have hlt : t < vs.length := (List.getElem?_eq_some_iff.1 h2).1
      rw [Array.getElem?_append_left (by simpa using hlt)]
      simpa using h2
    fr := .refl _ _
    own := hok
    nodup := hnd
    lt := hlt
    mine := fun k hk _ => hk
    old := hA }

instance : Inhabited Ex := ⟨⟨.slice none 0 0⟩⟩
theorem look_xe {c : Cx} {E : List (Nat × VP)} {L : List Ent} {x : Operand} {u : Value} (h : Look c E L x (.of (⟨u⟩ : Ex))) : Look c E L x (.eq u) := fun a W s => (of_ex.1 (h a W s)).1
theorem Sq.inv0 {c : Cx} {E : List (Nat × VP)} {L : List Ent} {ops : Array Oper} {Q : Exit → Act → World → Prop} {ty : TypeId} {pos : String} {af : Array Edge} {x : Operand} {rest : List Oper} {dd : Nat} {name : String} {ats : Array TypeId} {τ ρ : VP} (h : MeetsV c.P name τ [] [] (fun _ : Unit => ρ) (fun _ => []))
    (hx : Look c E L x τ) (hn : Nat.blt dd c.n = true) (k : Sq c ops Q rest ((dd, ρ) :: E) L) : Sq c ops Q (⟨some dd, .call ⟨.invoke x name, #[], ats⟩, ty, pos, af, none⟩ :: rest) E L := fun a W s =>
  wpList_op rfl (opto_inv (xs := []) (Lin := []) (Lr := L) h s (.cons (hx a W s) .nil)) fun v W' ⟨_, s', hv⟩ => k _ _ (s'.put (by simpa using hn) hv)
end Gv

