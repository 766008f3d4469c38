/-
  The library of the decompiler, part C: variables in memory, parts of them (lenses), pointers, calls, values put together, tests of equality. Conditions: none; it is about whatever program.
-/
import Derived.Test.YtodajdohokmjnaaGvD
namespace Gv
open Go
set_option linter.unusedVariables false
set_option linter.unusedSimpArgs false

/-! ### Types -/

structure Ty (P : Program) (t : TypeId) (α : Type) [Rp α] : Prop where
  size : (P.info? t).map (·.size) = some (Rp.size α)
  und : ∃ d, P.underlying t = some d ∧ (match d with | .struct _ | .array _ _ => true | _ => false) = Rp.agg α

structure Zr (P : Program) (t : TypeId) {α : Type} [Rp α] (x : α) : Prop where
  zero : ∃ i z, P.info? t = some i ∧ i.zero = some z ∧ ∀ A W, (VP.of x).holds A W z

theorem Ty.info {P t α} [Rp α] (h : Ty P t α) : ∃ i, P.info? t = some i ∧ i.size = Rp.size α := by
  have := h.size
  cases hi : P.info? t with
  | none => simp [hi] at this
  | some i => exact ⟨i, rfl, by simpa [hi] using this⟩

theorem Ty.isAgg {P t α} [Rp α] (h : Ty P t α) (W : World) : (isAgg t).run P W = .ok (Rp.agg α) W := by
  obtain ⟨d, hd, he⟩ := h.und
  unfold Go.isAgg
  rw [Sem.run_bind, run_underlying hd W]
  simp only [Result.andThen_ok]
  cases d <;> simp_all

theorem Ty.sizeOf {P t α} [Rp α] (h : Ty P t α) (W : World) : (Go.sizeOf t).run P W = .ok (Rp.size α) W := by
  obtain ⟨i, hi, hs⟩ := h.info
  simp [Go.sizeOf, typeInfo, hi, hs]

/-! ### Cells -/

theorem addr_add (b off j : Nat) : (⟨b, off, none⟩ : Addr).add j = ⟨b, off + j, none⟩ := by unfold Addr.add; split <;> simp_all

theorem run_loadVar_at {P : Program} {W : World} {b off : Nat} {cur : Array Value} {T t : TypeId} {fz : Nat × Nat} {α : Type} [Rp α] {A : List Nat} {x : α} (ty : Ty P t α)
    (hb : W.heap[b]? = some (.cells cur T fz)) (hs : off + Rp.size α ≤ cur.size) (hr : Rp.rep A W ((cur.toList.drop off).take (Rp.size α)) x) :
    ∃ v, (loadVar t ⟨b, off, none⟩).run P W = .ok v W ∧ (VP.of x).holds A W v := by
  have hl := Rp.len hr
  have hcell : ∀ j v, ((cur.toList.drop off).take (Rp.size α))[j]? = some v → W.cell? ((⟨b, off, none⟩ : Addr).add j) = some v := by
    intro j v hv
    rw [addr_add, cell_of_row W b (off + j) cur T fz hb]
    rw [List.getElem?_take] at hv
    split at hv
    · rw [List.getElem?_drop] at hv; simpa using hv
    · cases hv
  cases ha : Rp.agg α with
  | true =>
    have h1 := run_loadCells_list (P := P) W ⟨b, off, none⟩ _ hcell
    rw [hl] at h1
    refine ⟨.agg ((cur.toList.drop off).take (Rp.size α)).toArray, ?_, ?_, ?_⟩
    · simp [loadVar, Sem.run_bind, ty.isAgg, ty.sizeOf, ha, h1]
    · simp [shaped, ha]
    · simpa [Value.cells] using hr
  | false =>
    have h1 : Rp.size α = 1 := Rp.flat ha
    rw [h1] at hl
    obtain ⟨v, hv⟩ := List.length_eq_one_iff.1 hl
    have h2 := hcell 0 v (by rw [h1, hv]; rfl)
    have h3 : v.oneCell' = true := Rp.one hr v (by rw [h1, hv]; simp)
    refine ⟨v, ?_, ?_, ?_⟩
    · rw [addr_add, Nat.add_zero] at h2
      simp [loadVar, Sem.run_bind, ty.isAgg, ha, h2]
    · simp [shaped, ha, h3]
    · rw [cells_one h3]
      rw [h1, hv] at hr
      simpa using hr

def splice (cur : List Value) (off : Nat) (ds : List Value) : List Value := cur.take off ++ ds ++ cur.drop (off + ds.length)

theorem of_cells {A W v} {α : Type} [Rp α] {x : α} (h : (VP.of x).holds A W v) : v.cells.toList.length = Rp.size α ∧ ∀ u ∈ v.cells.toList, u.oneCell' = true := ⟨Rp.len h.2, Rp.one h.2⟩

theorem run_storeVar_at {P : Program} {W : World} {b off : Nat} {cur : Array Value} {T t : TypeId} {α : Type} [Rp α] {A : List Nat} {x : α} {v : Value} (ty : Ty P t α)
    (hb : W.heap[b]? = some (.cells cur T (0, 0))) (hs : off + Rp.size α ≤ cur.size) (hv : (VP.of x).holds A W v) :
    (storeVar t ⟨b, off, none⟩ v).run P W = .ok () (W.setRow b (splice cur.toList off v.cells.toList).toArray) := by
  obtain ⟨hl, h1⟩ := of_cells hv
  have h2 := run_storeCells_at P b off T v.cells.toList 0 cur W hb (by rw [hl]; omega) h1
  have hsz : v.cells.size = Rp.size α := by simpa using hl
  simp only [Nat.add_zero] at h2
  simp only [storeVar, Sem.run_bind, ty.sizeOf, Result.andThen_ok, hsz]
  simp only [ne_eq, not_true_eq_false, ↓reduceIte, Sem.run_pure, Sem.run_bind, Result.andThen_ok]
  simpa [splice] using h2

/-! ### Lenses: a part of a variable -/

structure Lens (β γ : Type) [Rp β] [Rp γ] where
  off : Nat
  get : β → γ
  set : β → γ → β
  inb : off + Rp.size γ ≤ Rp.size β
  get_rep : ∀ {A W cs b}, Rp.rep A W cs b → Rp.rep A W ((cs.drop off).take (Rp.size γ)) (get b)
  set_rep : ∀ {A W cs b ds g}, Rp.rep A W cs b → Rp.rep A W ds g → Rp.rep A W (cs.take off ++ ds ++ cs.drop (off + Rp.size γ)) (set b g)

def Lens.id (β : Type) [Rp β] : Lens β β where
  off := 0
  get b := b
  set _ g := g
  inb := by simp
  get_rep h := by
    have := Rp.len h
    rw [List.drop_zero, ← this, List.take_length]; exact h
  set_rep h hg := by
    have h1 := Rp.len h
    rw [List.take_zero, List.nil_append, Nat.zero_add, ← h1, List.drop_length, List.append_nil]; exact hg

theorem take_drop_in (cs : List Value) (o1 s1 o2 s2 : Nat) (h : o2 + s2 ≤ s1) : (((cs.drop o1).take s1).drop o2).take s2 = (cs.drop (o1 + o2)).take s2 := by
  apply List.ext_getElem?
  intro i
  simp only [List.getElem?_take, List.getElem?_drop]
  split
  · rw [if_pos (by omega)]; congr 1; omega
  · rfl

theorem splice_in (cs ds : List Value) (o1 s1 o2 s2 : Nat) (h : o2 + s2 ≤ s1) (hc : o1 + s1 ≤ cs.length) :
    cs.take o1 ++ (((cs.drop o1).take s1).take o2 ++ ds ++ ((cs.drop o1).take s1).drop (o2 + s2)) ++ cs.drop (o1 + s1) = cs.take (o1 + o2) ++ ds ++ cs.drop (o1 + o2 + s2) := by
  have e1 : cs.take (o1 + o2) = cs.take o1 ++ ((cs.drop o1).take s1).take o2 := by
    rw [List.take_take, Nat.min_eq_left (by omega), List.take_add]
  have e2 : cs.drop (o1 + o2 + s2) = ((cs.drop o1).take s1).drop (o2 + s2) ++ cs.drop (o1 + s1) := by
    apply List.ext_getElem?
    intro i
    simp only [List.getElem?_append, List.getElem?_drop, List.getElem?_take, List.length_drop, List.length_take]
    split
    · rw [if_pos (by omega)]; congr 1; omega
    · congr 1; omega
  rw [e1, e2]
  simp only [List.append_assoc]

def Lens.comp {α β γ : Type} [Rp α] [Rp β] [Rp γ] (l : Lens α β) (m : Lens β γ) : Lens α γ where
  off := l.off + m.off
  get b := m.get (l.get b)
  set b g := l.set b (m.set (l.get b) g)
  inb := by have := l.inb; have := m.inb; omega
  get_rep h := by
    have := m.get_rep (l.get_rep h)
    rwa [take_drop_in _ _ _ _ _ m.inb] at this
  set_rep h hg := by
    have h1 := l.set_rep h (m.set_rep (l.get_rep h) hg)
    have h2 := Rp.len h
    have h3 := l.inb
    rwa [splice_in _ _ _ _ _ _ m.inb (by omega)] at h1

/-! #### Arrays -/

/-- element k -/
def vget {α : Type} [Inhabited α] {n : Nat} (v : Vector α n) (k : Nat) : α := v[k]?.getD default
def vset {α : Type} {n : Nat} (v : Vector α n) (k : Nat) (x : α) : Vector α n := v.setIfInBounds k x

instance {α : Type} [Inhabited α] {n : Nat} : Inhabited (Vector α n) := ⟨Vector.replicate n default⟩

instance instRpVector {α : Type} [Rp α] [Inhabited α] {n : Nat} : Rp (Vector α n) where
  size := n * Rp.size α
  agg := true
  rep A W cs v := Reps A W cs v.toList
  len h := by rw [h.1]; simp
  one h := by
    intro u hu
    obtain ⟨j, hj⟩ := List.mem_iff_getElem?.1 hu
    have hlt := (List.getElem?_eq_some_iff.1 hj).1
    have h1 := h.1
    by_cases hs : Rp.size α = 0
    · rw [hs, Nat.mul_zero] at h1; omega
    · have hp : 0 < Rp.size α := Nat.pos_of_ne_zero hs
      have hi : j / Rp.size α < _ := (Nat.div_lt_iff_lt_mul hp).2 (by rw [h1] at hlt; exact hlt)
      refine Rp.one (h.2 _ hi) u (List.mem_iff_getElem?.2 ⟨j % Rp.size α, ?_⟩)
      rw [List.getElem?_take, if_pos (Nat.mod_lt _ hp), List.getElem?_drop, Nat.mul_comm, Nat.div_add_mod]
      exact hj
  flat h := by cases h
  mono e h := h.mono e

theorem vget_eq {α : Type} [Inhabited α] {n : Nat} (v : Vector α n) {k : Nat} (h : k < n) : vget v k = v[k] := by simp [vget, h]

theorem vget_toList {α : Type} [Inhabited α] {n : Nat} (v : Vector α n) {k : Nat} (h : k < n) : vget v k = v.toList[k]'(by simpa using h) := by simp [vget, h]

theorem reps_set {α : Type} [Rp α] {A W} {cs ds : List Value} {xs : List α} {x : α} {k : Nat} (h : Reps A W cs xs) (hk : k < xs.length) (hd : Rp.rep A W ds x) :
    Reps A W (cs.take (k * Rp.size α) ++ ds ++ cs.drop (k * Rp.size α + Rp.size α)) (xs.set k x) := by
  have hl := h.1
  have hdl := Rp.len hd
  have hle : (k + 1) * Rp.size α ≤ xs.length * Rp.size α := Nat.mul_le_mul_right _ hk
  rw [Nat.succ_mul] at hle
  refine ⟨by simp only [List.length_append, List.length_take, List.length_drop, List.length_set]; omega, fun i hi => ?_⟩
  rw [List.length_set] at hi
  by_cases e : k = i
  · subst e
    have : ((cs.take (k * Rp.size α) ++ ds ++ cs.drop (k * Rp.size α + Rp.size α)).drop (k * Rp.size α)).take (Rp.size α) = ds := by
      rw [List.append_assoc, List.drop_append_of_le_length (by simp only [List.length_take]; omega), List.drop_of_length_le (by simp only [List.length_take]; omega), List.nil_append,
        List.take_append_of_le_length (by omega), List.take_of_length_le (by omega)]
    rw [this]
    simpa using hd
  · have h1 := h.2 i hi
    have : ((cs.take (k * Rp.size α) ++ ds ++ cs.drop (k * Rp.size α + Rp.size α)).drop (i * Rp.size α)).take (Rp.size α) = (cs.drop (i * Rp.size α)).take (Rp.size α) := by
      apply List.ext_getElem?
      intro j
      simp only [List.getElem?_take, List.getElem?_drop]
      split
      · rename_i hj
        simp only [List.getElem?_append, List.length_append, List.length_take, List.getElem?_take, List.getElem?_drop]
        rcases Nat.lt_or_gt_of_ne e with h2 | h2
        · have : (k + 1) * Rp.size α ≤ i * Rp.size α := Nat.mul_le_mul_right _ h2
          rw [Nat.succ_mul] at this
          rw [if_neg (by omega)]; congr 1; omega
        · have : (i + 1) * Rp.size α ≤ k * Rp.size α := Nat.mul_le_mul_right _ h2
          rw [Nat.succ_mul] at this
          rw [if_pos (by omega), if_pos (by omega), if_pos (by omega)]
      · rfl
    rw [this]
    simpa [List.getElem_set_ne e] using h1

def Lens.idx {α : Type} [Rp α] [Inhabited α] (n k : Nat) (hk : k < n) : Lens (Vector α n) α where
  off := k * Rp.size α
  get v := vget v k
  set v x := vset v k x
  inb := by
    show k * Rp.size α + Rp.size α ≤ n * Rp.size α
    rw [← Nat.succ_mul]; exact Nat.mul_le_mul_right _ hk
  get_rep h := by
    rename_i b
    rw [vget_toList b hk]
    exact h.2 k (by simpa using hk)
  set_rep h hd := by
    rename_i b ds g
    have := reps_set h (k := k) (by simpa using hk) hd
    show Reps _ _ _ (vset b k g).toList
    rw [show (vset b k g).toList = b.toList.set k g by simp [vset]]
    exact this

/-- an index into an array of n elements; none: out of range -/
def idx (n : Nat) (i : Int) : Option Nat := if 0 ≤ i ∧ i < n then some i.toNat else none

theorem idx_some {n : Nat} {i : Int} {k : Nat} (h : idx n i = some k) : k < n ∧ i = k := by
  unfold idx at h
  split at h
  · rename_i hi
    simp only [Option.some.injEq] at h
    omega
  · cases h

section
variable {c : Cx} {E : List (Nat × VP)} {L : List Ent} {ops : Array Oper} {Q : Exit → Act → World → Prop}
variable {d : Option Tmp} {ty : TypeId} {pos : String} {af : Array Edge} {g : Option (Nat × Bool)}

/-! ### Operations that compute -/

theorem r_move {x : Operand} {τ : VP} (h : Look c E L x τ) : HR c E L ⟨d, .move x, ty, pos, af, g⟩ τ := .pure fun a W s => ⟨_, rfl, h a W s⟩
theorem r_asg {x : Operand} {τ : VP} (h : Look c E L x τ) : HR c E L ⟨d, .assign x, ty, pos, af, g⟩ τ := .pure fun a W s => ⟨_, rfl, h a W s⟩

theorem r_or {x y : Operand} {b e : Bool} {p : Prop} (hx : Look c E L x (.of b)) (hy : Look c E L y (.cond p (.of e))) (hp : b = false → p) :
    HR c E L ⟨d, .pick x (.const (.bool true)) y, ty, pos, af, g⟩ (.of (b || e)) := .pure fun a W s => by
  have h1 := of_bool.1 (hx a W s)
  cases b with
  | true => exact ⟨.bool true, by simp only [execOp, h1, asBool]; rfl, of_bool.2 rfl⟩
  | false =>
    have h2 := of_bool.1 ((hy a W s).1 (hp rfl))
    exact ⟨.bool e, by simp [execOp, asBool, h1, h2], of_bool.2 rfl⟩

theorem r_and {x y : Operand} {b e : Bool} {p : Prop} (hx : Look c E L x (.of b)) (hy : Look c E L y (.cond p (.of e))) (hp : b = true → p) :
    HR c E L ⟨d, .pick x y (.const (.bool false)), ty, pos, af, g⟩ (.of (b && e)) := .pure fun a W s => by
  have h1 := of_bool.1 (hx a W s)
  cases b with
  | false => exact ⟨.bool false, by simp only [execOp, h1, asBool]; rfl, of_bool.2 rfl⟩
  | true =>
    have h2 := of_bool.1 ((hy a W s).1 (hp rfl))
    exact ⟨.bool e, by simp [execOp, asBool, h1, h2], of_bool.2 rfl⟩

theorem r_not {x : Operand} {b : Bool} {t : TypeId} (hx : Look c E L x (.of b)) : HR c E L ⟨d, .unOp .not t x, ty, pos, af, g⟩ (.of (!b)) := .pure fun a W s =>
  ⟨.bool (!b), by simp [execOp, Op.unary, of_bool.1 (hx a W s)], of_bool.2 rfl⟩

/-! ### Memory -/

theorem r_load {x : Operand} {t : TypeId} {i p o : Nat} {β γ : Type} [Rp β] [Rp γ] {b : β} (l : Lens β γ) {r : γ} (tt : Ty c.P t γ) (hx : Look c E L x (.eq (.pointer (some ⟨p, o, none⟩))))
    (hL : L[i]? = some ⟨some p, .var b⟩) (ho : o = l.off) (hr : l.get b = r) : HR c E L ⟨d, .load t x, ty, pos, af, g⟩ (.of r) := .pure fun a W s => by
  subst ho
  subst hr
  obtain ⟨ob, hob, cs, T, rfl, hrep⟩ := s.own _ (List.mem_of_getElem? hL)
  have h1 : cs.toList.length = Rp.size β := Rp.len hrep
  obtain ⟨v, h2, h3⟩ := run_loadVar_at (A := ks L ++ c.A0) tt hob (by have := l.inb; simp at h1; omega) (l.get_rep hrep)
  refine ⟨v, ?_, h3⟩
  have h4 : a.eval x = _ := hx a W s
  simp [execOp, Instr.loadAt, Instr.sureAddr, h4, h2]

theorem r_loadp {x : Operand} {t : TypeId} {γ : Type} [Rp γ] {r : γ} (tt : Ty c.P t γ) (hx : Look c E L x (.ptr r)) : HR c E L ⟨d, .load t x, ty, pos, af, g⟩ (.of r) := .pure fun a W s => by
  obtain ⟨b, off, cur, T, fz, h4, hb, hh, hs, hr⟩ := hx a W s
  obtain ⟨v, h2, h3⟩ := run_loadVar_at tt hh hs hr
  exact ⟨v, by simp [execOp, Instr.loadAt, Instr.sureAddr, h4, h2], h3⟩

/-- field f of struct type s lies o cells behind its head and is not empty -/
structure FdA (P : Program) (s : TypeId) (f o : Nat) : Prop where
  at_ : ∃ fs fd i, P.underlying s = some (.struct fs) ∧ fs[f]? = some fd ∧ fd.offset = o ∧ P.info? fd.type = some i ∧ i.size ≠ 0

theorem run_fieldAt {P : Program} {s : TypeId} {f o : Nat} (h : FdA P s f o) (p off : Nat) (W : World) :
    (Instr.fieldAt s (.pointer (some ⟨p, off, none⟩)) f).run P W = .ok (.pointer (some ⟨p, off + o, none⟩)) W := by
  obtain ⟨fs, fd, i, h1, h2, h3, h4, h5⟩ := h.at_
  simp [Instr.fieldAt, run_underlying h1, h2, Instr.sureAddr, fieldPlace, Go.sizeOf, typeInfo, h4, h5, addr_add, h3]

theorem r_fa {x : Operand} {s f o p off : Nat} (fd : FdA c.P s f o) (hx : Look c E L x (.eq (.pointer (some ⟨p, off, none⟩)))) :
    HR c E L ⟨d, .fieldAddr s x f, ty, pos, af, g⟩ (.eq (.pointer (some ⟨p, off + o, none⟩))) := .pure fun a W st => by
  have h4 : a.eval x = _ := hx a W st
  exact ⟨_, by simp [execOp, h4, run_fieldAt fd], rfl⟩

theorem r_fap {x : Operand} {s f o : Nat} {β γ : Type} [Rp β] [Rp γ] {b : β} (l : Lens β γ) {r : γ} (fd : FdA c.P s f o) (hx : Look c E L x (.ptr b)) (ho : l.off = o) (hr : l.get b = r) :
    HR c E L ⟨d, .fieldAddr s x f, ty, pos, af, g⟩ (.ptr r) := .pure fun a W st => by
  subst ho
  subst hr
  obtain ⟨q, off, cur, T, fz, h4, hb, hh, hs, hrep⟩ := hx a W st
  refine ⟨.pointer (some ⟨q, off + l.off, none⟩), by simp [execOp, h4, run_fieldAt fd], q, off + l.off, cur, T, fz, rfl, hb, hh, by have := l.inb; omega, ?_⟩
  have := l.get_rep hrep
  rwa [take_drop_in _ _ _ _ _ l.inb] at this

/-- an array type of n elements of s cells each -/
structure Ar (P : Program) (t : TypeId) (n s : Nat) : Prop where
  at_ : ∃ e i, P.underlying t = some (.array n e) ∧ P.info? e = some i ∧ i.size = s

theorem run_indexAt_arr {P : Program} {t n s : Nat} (h : Ar P t n s) (p off : Nat) (k : Nat) (hk : k < n) (W : World) :
    (Instr.indexAt t (.pointer (some ⟨p, off, none⟩)) (.int .i64 (k : Int))).run P W = .ok (.pointer (some ⟨p, off + k * s, none⟩)) W := by
  obtain ⟨e, i, h1, h2, h3⟩ := h.at_
  simp [Instr.indexAt, asIntOf, run_underlying h1, Instr.sureAddr, Go.sizeOf, typeInfo, h2, h3, hk, addr_add]

theorem r_ia {x y : Operand} {t n s p off : Nat} {i : Int} {k : Nat} (ar : Ar c.P t n s) (hx : Look c E L x (.eq (.pointer (some ⟨p, off, none⟩)))) (hy : Look c E L y (.of i)) (hk : k < n ∧ i = k) :
    HR c E L ⟨d, .indexAddr t x y, ty, pos, af, g⟩ (.eq (.pointer (some ⟨p, off + k * s, none⟩))) := .pure fun a W st => by
  have h4 : a.eval x = _ := hx a W st
  have h5 := of_int.1 (hy a W st)
  obtain ⟨h6, rfl⟩ := hk
  exact ⟨_, by simp [execOp, h4, h5, run_indexAt_arr ar p off k h6], rfl⟩

theorem r_iap {x y : Operand} {t n s : Nat} {i : Int} {k : Nat} {α : Type} [Rp α] [Inhabited α] {v : Vector α n} (ar : Ar c.P t n s) (hs : Rp.size α = s) (hx : Look c E L x (.ptr v)) (hy : Look c E L y (.of i)) (hk : k < n ∧ i = k) :
    HR c E L ⟨d, .indexAddr t x y, ty, pos, af, g⟩ (.ptr (vget v k)) := .pure fun a W st => by
  subst hs
  obtain ⟨q, off, cur, T, fz, h4, hb, hh, hsz, hrep⟩ := hx a W st
  have h5 := of_int.1 (hy a W st)
  obtain ⟨h6, rfl⟩ := hk
  have hin := (Lens.idx (α := α) n k h6).inb
  refine ⟨_, by simp [execOp, h4, h5, run_indexAt_arr ar q off k h6], q, off + k * Rp.size α, cur, T, fz, rfl, hb, hh, ?_, ?_⟩
  · have : off + n * Rp.size α ≤ cur.size := hsz
    simp only [Lens.idx] at hin
    have : k * Rp.size α + Rp.size α ≤ n * Rp.size α := hin
    omega
  · have := (Lens.idx (α := α) n k h6).get_rep hrep
    rwa [take_drop_in _ _ _ _ _ hin] at this

theorem Sq.alloc {t : TypeId} {rest : List Oper} {dd : Nat} {α : Type} [Rp α] {z : α} (zr : Zr c.P t z) (hn : Nat.blt dd c.n = true)
    (k : ∀ p, Sq c ops Q rest ((dd, .eq (.pointer (some ⟨p, 0, none⟩))) :: E) (⟨some p, .var z⟩ :: L)) : Sq c ops Q (⟨some dd, .alloc t, ty, pos, af, none⟩ :: rest) E L := fun a W s => by
  obtain ⟨i, zv, h1, h2, h3⟩ := zr.zero
  refine wpList_op rfl (R := fun v W' => v = .pointer (some ⟨W.heap.size, 0, none⟩) ∧ W' = W.alloc (.cells zv.cells t)) (.of_run ?_ ⟨rfl, rfl⟩) fun v W' ⟨hv, hw⟩ => ?_
  · simp [execOp, Instr.alloc, zeroValue, typeInfo, h1, h2, newVar, newRow]
  · subst hv
    subst hw
    exact k _ _ _ ((s.alloc (cp := .var z) ⟨zv.cells, t, rfl, (h3 _ _).2⟩).put (by simpa using hn) rfl)

theorem ao_alloc {P : Program} {t : TypeId} {α : Type} [Rp α] {z : α} (zr : Zr P t z) : AO P ⟨d, .alloc t, ty, pos, af, none⟩ (.var z) := by
  obtain ⟨i, zv, h1, h2, h3⟩ := zr.zero
  refine ⟨rfl, .cells zv.cells t, fun A W => ⟨zv.cells, t, rfl, (h3 A W).2⟩, fun a W => ?_⟩
  simp [execOp, Instr.alloc, zeroValue, typeInfo, h1, h2, newVar, newRow]

/-- a store as one of the heads of a region that draws its order -/
theorem so_var {x y : Operand} {t : TypeId} {i p o : Nat} {β γ : Type} [Rp β] [Rp γ] {b b' : β} {v : γ} (l : Lens β γ) (tt : Ty c.P t γ) (hx : Look c E L x (.eq (.pointer (some ⟨p, o, none⟩))))
    (hy : Look c E L y (.of v)) (hL : L[i]? = some ⟨some p, .var b⟩) (ho : o = l.off) (hb : l.set b v = b') : SO c E L ⟨none, .store t x y, ty, pos, af, none⟩ p (.var b') := ⟨rfl, rfl, fun a W s => by
  subst ho
  subst hb
  obtain ⟨ob, hob, cs, T, rfl, hrep⟩ := s.own _ (List.mem_of_getElem? hL)
  have h1 : cs.toList.length = Rp.size β := Rp.len hrep
  have hin := l.inb
  have hv := hy a W s
  have h2 := run_storeVar_at (A := ks L ++ c.A0) tt hob (off := l.off) (by simp at h1; omega) hv
  have h4 : a.eval x = _ := hx a W s
  refine ⟨cs, (splice cs.toList l.off (a.eval y).cells.toList).toArray, T, hob, ?_, ?_⟩
  · simp [execOp, Instr.storeAt, Instr.sureAddr, h4, h2]
  · refine ⟨_, T, rfl, ?_⟩
    have := l.set_rep hrep hv.2
    simpa [splice, Rp.len hv.2] using this⟩

theorem Sq.box {t : TypeId} {x : Operand} {rest : List Oper} {dd : Nat} {α : Type} [Rp α] {z : α} (hx : Look c E L x (.of z)) (hn : Nat.blt dd c.n = true)
    (k : ∀ p, Sq c ops Q rest ((dd, .eq (.pointer (some ⟨p, 0, none⟩))) :: E) (⟨some p, .var z⟩ :: L)) : Sq c ops Q (⟨some dd, .box t x, ty, pos, af, none⟩ :: rest) E L := fun a W s => by
  refine wpList_op rfl (R := fun v W' => v = .pointer (some ⟨W.heap.size, 0, none⟩) ∧ W' = W.alloc (.cells (a.eval x).cells t)) (.of_run ?_ ⟨rfl, rfl⟩) fun v W' ⟨hv, hw⟩ => ?_
  · simp [execOp, Instr.box, newVar, newRow]
  · subst hv
    subst hw
    exact k _ _ _ ((s.alloc (cp := .var z) ⟨_, t, rfl, (hx a W s).2⟩).put (by simpa using hn) rfl)

theorem Sq.store {x y : Operand} {t : TypeId} {rest : List Oper} {i p o : Nat} {β γ : Type} [Rp β] [Rp γ] {b b' : β} {v : γ} (l : Lens β γ) (tt : Ty c.P t γ) (hx : Look c E L x (.eq (.pointer (some ⟨p, o, none⟩))))
    (hy : Look c E L y (.of v)) (hL : L[i]? = some ⟨some p, .var b⟩) (ho : o = l.off) (hb : l.set b v = b')
    (k : Sq c ops Q rest E (L.set i ⟨some p, .var b'⟩)) : Sq c ops Q (⟨none, .store t x y, ty, pos, af, none⟩ :: rest) E L := fun a W s => by
  subst ho
  subst hb
  obtain ⟨ob, hob, cs, T, rfl, hrep⟩ := s.own _ (List.mem_of_getElem? hL)
  have h1 : cs.toList.length = Rp.size β := Rp.len hrep
  have hin := l.inb
  have hv := hy a W s
  have h2 := run_storeVar_at (A := ks L ++ c.A0) tt hob (off := l.off) (by simp at h1; omega) hv
  have h4 : a.eval x = _ := hx a W s
  refine wpList_op rfl (R := fun v W' => W' = W.setRow p (splice cs.toList l.off (a.eval y).cells.toList).toArray) (.of_skip ?_ rfl) fun v W' hw => ?_
  · simp [execOp, Instr.storeAt, Instr.sureAddr, h4, h2]
  · subst hw
    refine k _ _ (s.store hL hob ?_)
    refine ⟨_, T, rfl, ?_⟩
    have := l.set_rep hrep hv.2
    simpa [splice, Rp.len hv.2] using this

/-! ### Calls -/

def Looks (c : Cx) (E : List (Nat × VP)) (L : List Ent) : List Operand → List VP → Prop
  | [], [] => True
  | x :: xs, τ :: τs => Look c E L x τ ∧ Looks c E L xs τs
  | _, _ => False

theorem Looks.holds : ∀ {xs : List Operand} {τs : List VP}, Looks c E L xs τs → ∀ a W, St c E L a W → HoldsAll (ks L ++ c.A0) W τs (xs.map a.eval)
  | [], [], _, _, _, _ => .nil
  | x :: xs, τ :: τs, h, a, W, s => .cons (h.1 a W s) (h.2.holds a W s)
  | [], _ :: _, h, _, _, _ => h.elim
  | _ :: _, [], h, _, _, _ => h.elim

/-- the program has a function f, with a body -/
structure En (P : Program) (f : FuncId) : Prop where
  at_ : ∃ fn, P.funcs[f]? = some fn ∧ fn.body.isNone = false ∧ (fn.name == "runtime.NumGoroutine") = false

theorem En.run {P : Program} {f : FuncId} (h : En P f) (args : Array Value) (W : World) : (callFunc f args).run P W = .ok (.enter f args) W := by
  obtain ⟨fn, h1, h2, h3⟩ := h.at_
  simp only [callFunc, Sem.run_bind, run_program, Result.andThen_ok, h1, h3, h2]
  rfl

theorem r_call {f : FuncId} {xs : List Operand} {ats : Array TypeId} {τs : List VP} {ρ : VP} (en : En c.P f) (h : Meets c.P f τs ρ) (hx : Looks c E L xs τs) :
    HR c E L ⟨d, .call ⟨.value (.func f), xs.toArray, ats⟩, ty, pos, af, g⟩ ρ := fun a W s => by
  refine .of_enter (f := f) (args := (xs.map a.eval).toArray) (W' := W) ?_ (h _ W _ s.all_lt (hx.holds a W s))
  simp [execOp, resolve, Deferred.ofValue, Act.eval, invoke, en.run]

/-! ### Values of structs -/

theorem run_part {P : Program} {W : World} {t off : Nat} {cs : Array Value} {α : Type} [Rp α] {A : List Nat} {x : α} (ty : Ty P t α) (hs : off + Rp.size α ≤ cs.size)
    (hr : Rp.rep A W ((cs.toList.drop off).take (Rp.size α)) x) : ∃ v, (part t cs off).run P W = .ok v W ∧ (VP.of x).holds A W v := by
  have hl := Rp.len hr
  cases ha : Rp.agg α with
  | true =>
    refine ⟨.agg (cs.extract off (off + Rp.size α)), ?_, ?_, ?_⟩
    · simp [part, ty.isAgg, ty.sizeOf, ha]
    · simp [shaped, ha]
    · simpa [Value.cells, List.extract, Array.toList_extract] using hr
  | false =>
    have h1 : Rp.size α = 1 := Rp.flat ha
    have hlt : off < cs.size := by omega
    have h2 : (cs.toList.drop off).take (Rp.size α) = [cs[off]] := by
      rw [h1]
      apply List.ext_getElem?
      intro j
      rw [List.getElem?_take, List.getElem?_drop]
      cases j with
      | zero => simp [hlt]
      | succ j => simp
    rw [h2] at hr
    have h3 : cs[off].oneCell' = true := Rp.one hr _ (by simp)
    refine ⟨cs[off], ?_, ?_, ?_⟩
    · simp [part, ty.isAgg, ha, hlt]
    · simp [shaped, ha, h3]
    · rw [cells_one h3]; simpa using hr

/-- field f of struct type s has type t and lies at o -/
structure Fv (P : Program) (s f t o : Nat) : Prop where
  at_ : ∃ fs fd, P.underlying s = some (.struct fs) ∧ fs[f]? = some fd ∧ fd.offset = o ∧ fd.type = t

theorem r_field {x : Operand} {s f t o : Nat} {β γ : Type} [Rp β] [Rp γ] {b : β} (l : Lens β γ) {r : γ} (fv : Fv c.P s f t o) (tt : Ty c.P t γ) (ha : Rp.agg β = true) (hx : Look c E L x (.of b)) (ho : l.off = o) (hr : l.get b = r) :
    HR c E L ⟨d, .field s x f, ty, pos, af, g⟩ (.of r) := .pure fun a W st => by
  subst ho
  subst hr
  obtain ⟨h1, h2⟩ := hx a W st
  simp only [shaped, ha, if_true] at h1
  obtain ⟨cs, hcs⟩ := h1
  obtain ⟨fs, fd, h3, h4, h5, h6⟩ := fv.at_
  rw [hcs] at h2
  simp only [Value.cells] at h2
  have hl : cs.toList.length = Rp.size β := Rp.len h2
  obtain ⟨v, h7, h8⟩ := run_part (A := ks L ++ c.A0) (P := c.P) (W := W) (cs := cs) (off := l.off) tt (by have := l.inb; simp at hl; omega) (l.get_rep h2)
  refine ⟨v, ?_, h8⟩
  simp [execOp, Instr.field, run_underlying h3, h4, hcs, asAgg, h5, h6, h7]

theorem r_index {x y : Operand} {t e n : Nat} {i : Int} {k : Nat} {α : Type} [Rp α] [Inhabited α] {v : Vector α n} (hu : c.P.underlying t = some (.array n e)) (tt : Ty c.P e α) (hx : Look c E L x (.of v)) (hy : Look c E L y (.of i)) (hk : k < n ∧ i = k) :
    HR c E L ⟨d, .index t x y, ty, pos, af, g⟩ (.of (vget v k)) := .pure fun a W st => by
  obtain ⟨h1, h2⟩ := hx a W st
  obtain ⟨cs, hcs⟩ : ∃ cs, a.eval x = .agg cs := by simpa [shaped, Rp.agg] using h1
  have h5 := of_int.1 (hy a W st)
  obtain ⟨h6, rfl⟩ := hk
  rw [hcs] at h2
  simp only [Value.cells] at h2
  have hl : cs.toList.length = n * Rp.size α := Rp.len h2
  have hin := (Lens.idx (α := α) n k h6).inb
  obtain ⟨u, h7, h8⟩ := run_part (A := ks L ++ c.A0) (P := c.P) (W := W) (cs := cs) (off := k * Rp.size α) tt
    (by
      have : k * Rp.size α + Rp.size α ≤ n * Rp.size α := hin
      simp at hl; omega) ((Lens.idx (α := α) n k h6).get_rep h2)
  refine ⟨u, ?_, h8⟩
  simp [execOp, Instr.index, asIntOf, run_underlying hu, hcs, h5, h6, tt.sizeOf, h7]

theorem r_ext {x : Operand} {i : Nat} {τs : List VP} {τ : VP} (hx : Look c E L x (.tup τs)) (hi : τs[i]? = some τ) : HR c E L ⟨d, .extract x i, ty, pos, af, g⟩ τ := .pure fun a W st => by
  obtain ⟨vs, h1, h2⟩ := hx a W st
  have get : ∀ {τs : List VP} {vs : List Value}, HoldsAll (ks L ++ c.A0) W τs vs → ∀ (i : Nat) (τ : VP), τs[i]? = some τ → ∃ v, vs[i]? = some v ∧ τ.holds (ks L ++ c.A0) W v := by
    intro τs vs h
    induction h with
    | nil => intro i τ h; simp at h
    | cons h1 _ ih =>
      intro i τ h
      cases i with
      | zero => simp only [List.getElem?_cons_zero, Option.some.injEq] at h; subst h; exact ⟨_, rfl, h1⟩
      | succ i => simp only [List.getElem?_cons_succ] at h ⊢; exact ih i τ h
  obtain ⟨v, h3, h4⟩ := get h2 i τ hi
  refine ⟨v, ?_, h4⟩
  have h5 : vs[i]? = some v := by simpa using h3
  simp [execOp, Instr.extract, h1, h5]

end
end Gv
