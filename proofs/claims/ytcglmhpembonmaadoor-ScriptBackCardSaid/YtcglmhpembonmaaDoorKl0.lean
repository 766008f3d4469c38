/-
  The library of the decompiler, as far as it is needed here. Conditions: none.
-/
import Derived.WalkKit
import Derived.StillTail
import Derived.OwnWalkIn
import Derived.RangeFuncNested
import Derived.RangeFuncLeaves
import Derived.RangeFuncCalls
import Derived.ChangeSame
import Derived.OpenShut
import Derived.Carry
import Derived.DataReads
namespace Gv
open Go

/-! ### Worlds -/

theorem ha_old (w : World) (o : Obj) (i : Nat) (h : i < w.heap.size) : (w.alloc o).heap[i]? = w.heap[i]? := by
  show (w.heap.push o)[i]? = w.heap[i]?
  rw [Array.getElem?_push, if_neg (Nat.ne_of_lt h)]
theorem ha_new (w : World) (o : Obj) : (w.alloc o).heap[w.heap.size]? = some o := by
  show (w.heap.push o)[w.heap.size]? = some o
  simp


/-- all blocks but those of X are as they were; none has gone -/
structure Fr (X : List Nat) (W W' : World) : Prop where
  os : W'.os = W.os
  tape : W'.tape = W.tape
  output : W'.output = W.output
  drawn : True
  size : W.heap.size ≤ W'.heap.size
  block : ∀ k, k < W.heap.size → k ∉ X → W'.heap[k]? = W.heap[k]?

theorem Fr.refl (X : List Nat) (W : World) : Fr X W W := ⟨rfl, rfl, rfl, trivial, Nat.le_refl _, fun _ _ _ => rfl⟩

theorem Fr.trans {X : List Nat} {A B C : World} (h : Fr X A B) (k : Fr X B C) : Fr X A C :=
  ⟨k.os.trans h.os, k.tape.trans h.tape, k.output.trans h.output, trivial, Nat.le_trans h.size k.size,
    fun i hi hx => (k.block i (Nat.lt_of_lt_of_le hi h.size) hx).trans (h.block i hi hx)⟩

theorem Fr.weaken {X Y : List Nat} {A B : World} (h : Fr X A B) (s : ∀ k ∈ X, k ∈ Y) : Fr Y A B :=
  ⟨h.os, h.tape, h.output, h.drawn, h.size, fun i hi hx => h.block i hi fun hm => hx (s _ hm)⟩

theorem Fr.nil {X : List Nat} {A B : World} (h : Fr [] A B) : Fr X A B := h.weaken (by simp)

/-- blocks of X that are not there yet may be left out -/
theorem Fr.only {X Y : List Nat} {A B : World} (h : Fr X A B) (s : ∀ k ∈ X, k < A.heap.size → k ∈ Y) : Fr Y A B :=
  ⟨h.os, h.tape, h.output, h.drawn, h.size, fun i hi hx => h.block i hi fun hm => hx (s _ hm hi)⟩

theorem Fr.alloc {X : List Nat} (W : World) (o : Obj) : Fr X W (W.alloc o) :=
  ⟨rfl, rfl, rfl, trivial, by simp, fun k hk _ => ha_old W o k hk⟩

theorem Fr.drew {X : List Nat} (W : World) : Fr X W W.drew := ⟨rfl, rfl, rfl, trivial, Nat.le_refl _, fun _ _ _ => rfl⟩

theorem Fr.setRow {X : List Nat} (W : World) (g : Nat) (cs : Array Value) (h : g ∈ X) : Fr X W (W.setRow g cs) :=
  ⟨rfl, rfl, rfl, trivial, by simp, fun k _ hx => setRow_other W g k cs (fun e => hx (e ▸ h))⟩

/-- what a representation survives: the blocks of A are in motion ahead, those of A' behind -/
structure Ext (A : List Nat) (W : World) (A' : List Nat) (W' : World) : Prop where
  size : W.heap.size ≤ W'.heap.size
  block : ∀ k, k < W.heap.size → k ∉ A → W'.heap[k]? = W.heap[k]?
  new : ∀ k ∈ A', k < W.heap.size → k ∈ A

theorem Ext.refl (A : List Nat) (W : World) : Ext A W A W := ⟨Nat.le_refl _, fun _ _ _ => rfl, fun _ h _ => h⟩

theorem Ext.trans {A B C : List Nat} {U V W : World} (h : Ext A U B V) (k : Ext B V C W) : Ext A U C W :=
  ⟨Nat.le_trans h.size k.size,
    fun i hi ha => (k.block i (Nat.lt_of_lt_of_le hi h.size) (fun hb => ha (h.new i hb hi))).trans (h.block i hi ha),
    fun i hc hi => h.new i (k.new i hc (Nat.lt_of_lt_of_le hi h.size)) hi⟩

theorem Ext.of_fr {A X : List Nat} {W W' : World} (h : Fr X W W') (s : ∀ k ∈ X, k ∈ A) : Ext A W A W' :=
  ⟨h.size, fun k hk ha => h.block k hk fun hx => ha (s k hx), fun _ h _ => h⟩

theorem Ext.fr {A : List Nat} {W W' : World} (h : Fr [] W W') : Ext A W A W' := .of_fr h (by simp)

theorem Ext.drop {A A' : List Nat} {W : World} (s : ∀ k ∈ A', k ∈ A) : Ext A W A' W := ⟨Nat.le_refl _, fun _ _ _ => rfl, fun k h _ => s k h⟩

/-! ### Representations -/

/-- a predicate on a value that outlives what the call does elsewhere -/
structure VP where
  holds : List Nat → World → Value → Prop
  mono : ∀ {A W A' W' v}, Ext A W A' W' → holds A W v → holds A' W' v

/-- how data of this kind lie in cells -/
class Rp (α : Type) where
  size : Nat
  agg : Bool
  rep : List Nat → World → List Value → α → Prop
  len : ∀ {A W cs x}, rep A W cs x → cs.length = size
  one : ∀ {A W cs x}, rep A W cs x → ∀ v ∈ cs, v.oneCell' = true
  flat : agg = false → size = 1
  mono : ∀ {A W A' W' cs x}, Ext A W A' W' → rep A W cs x → rep A' W' cs x

def shaped (b : Bool) (v : Value) : Prop := if b = true then ∃ cs, v = .agg cs else v.oneCell' = true

theorem cells_one {v : Value} (h : v.oneCell' = true) : v.cells = #[v] := by cases v <;> first | rfl | simp [Value.oneCell'] at h

/-- the value represents x -/
def VP.of {α : Type} [Rp α] (x : α) : VP where
  holds A W v := shaped (Rp.agg α) v ∧ Rp.rep A W v.cells.toList x
  mono e h := ⟨h.1, Rp.mono e h.2⟩

/-- the very value -/
def VP.eq (u : Value) : VP where
  holds _ _ v := v = u
  mono _ h := h

/-- under c; else nothing has been yielded -/
def VP.cond (c : Prop) (τ : VP) : VP where
  holds A W v := (c → τ.holds A W v) ∧ (¬ c → v = undef)
  mono e h := ⟨fun hc => τ.mono e (h.1 hc), h.2⟩

/-- anything -/
def VP.any : VP where
  holds _ _ _ := True
  mono _ h := h

inductive HoldsAll (A : List Nat) (W : World) : List VP → List Value → Prop
  | nil : HoldsAll A W [] []
  | cons {τ v τs vs} : τ.holds A W v → HoldsAll A W τs vs → HoldsAll A W (τ :: τs) (v :: vs)

theorem HoldsAll.mono {A W A' W'} (e : Ext A W A' W') : ∀ {τs vs}, HoldsAll A W τs vs → HoldsAll A' W' τs vs
  | _, _, .nil => .nil
  | _, _, .cons h r => .cons (VP.mono _ e h) (r.mono e)

theorem HoldsAll.length {A W} : ∀ {τs vs}, HoldsAll A W τs vs → vs.length = τs.length
  | _, _, .nil => rfl
  | _, _, .cons _ r => by simp [r.length]

/-- a tuple -/
def VP.tup (τs : List VP) : VP where
  holds A W v := ∃ vs : Array Value, v = .tuple vs ∧ HoldsAll A W τs vs.toList
  mono e h := let ⟨vs, hv, hh⟩ := h; ⟨vs, hv, hh.mono e⟩

/-- a pointer to memory that nobody writes any more, at which x lies -/
def VP.ptr {α : Type} [Rp α] (x : α) : VP where
  holds A W v := ∃ b off cur T fz, v = .pointer (some ⟨b, off, none⟩) ∧ b ∉ A ∧ W.heap[b]? = some (.cells cur T fz) ∧ off + Rp.size α ≤ cur.size ∧ Rp.rep A W ((cur.toList.drop off).take (Rp.size α)) x
  mono e h := by
    obtain ⟨b, off, cur, T, fz, rfl, hb, hh, hs, hr⟩ := h
    have hlt : b < _ := (Array.getElem?_eq_some_iff.1 hh).1
    exact ⟨b, off, cur, T, fz, rfl, fun hm => hb (e.new b hm hlt), by rw [e.block b hlt hb]; exact hh, hs, Rp.mono e hr⟩

/-! ### Blocks of the call's own -/

structure CP where
  holds : List Nat → World → Obj → Prop
  nilOk : Prop
  mono : ∀ {A W A' W' o}, Ext A W A' W' → holds A W o → holds A' W' o

/-- a variable in a block of its own -/
def CP.var {α : Type} [Rp α] (x : α) : CP where
  holds A W o := ∃ cs T, o = .cells cs T (0, 0) ∧ Rp.rep A W cs.toList x
  nilOk := False
  mono e h := let ⟨cs, T, ho, hr⟩ := h; ⟨cs, T, ho, Rp.mono e hr⟩

/-- cells in a row that represent the elements of a list -/
def Reps {α : Type} [Rp α] (A : List Nat) (W : World) (cs : List Value) (xs : List α) : Prop :=
  cs.length = xs.length * Rp.size α ∧ ∀ i (h : i < xs.length), Rp.rep A W ((cs.drop (i * Rp.size α)).take (Rp.size α)) xs[i]

theorem Reps.mono {α : Type} [Rp α] {A W A' W'} {cs : List Value} {xs : List α} (e : Ext A W A' W') (h : Reps A W cs xs) : Reps A' W' cs xs :=
  ⟨h.1, fun i hi => Rp.mono e (h.2 i hi)⟩

/-- the array behind a slice of the call's own: it starts at the block's head, what lies behind the list's end is spare; no cell of it is frozen (Mk: a mark may stand behind it) -/
def Mk (fz : Nat × Nat) (n : Nat) : Prop := fz = (0, 0) ∨ n ≤ fz.1
def CP.row {α : Type} [Rp α] (T : TypeId) (xs : List α) (cap : Nat) : CP where
  holds A W o := ∃ cs, (∃ fz, Mk fz cs.size ∧ o = .cells cs T fz) ∧ cs.size = cap * Rp.size α ∧ xs.length ≤ cap ∧ cap ≤ maxLen ∧ Reps A W (cs.toList.take (xs.length * Rp.size α)) xs
  nilOk := xs = [] ∧ cap = 0
  mono e h := let ⟨cs, h1, h2, h3, h4, h5⟩ := h; ⟨cs, h1, h2, h3, h4, h5.mono e⟩

/-- no block any more -/
def CP.dead : CP where
  holds _ _ _ := True
  nilOk := True
  mono _ h := h

structure Ent where
  key : Option Nat
  cp : CP

def Ent.ok (A : List Nat) (W : World) (e : Ent) : Prop :=
  match e.key with
  | some p => ∃ o, W.heap[p]? = some o ∧ e.cp.holds A W o
  | none => e.cp.nilOk

def ks : List Ent → List Nat
  | [] => []
  | e :: r => match e.key with
    | some p => p :: ks r
    | none => ks r

theorem mem_ks {L : List Ent} {k : Nat} : k ∈ ks L ↔ ∃ e ∈ L, e.key = some k := by
  induction L with
  | nil => simp [ks]
  | cons e r ih =>
    cases hk : e.key with
    | none => simp [ks, hk, ih]
    | some p => simp [ks, hk, ih, eq_comm]

/-! ### States -/

/-- what stands fast through one call: the program, the frame's size, the world at the beginning, the blocks that it may write, the blocks that others have in motion -/
structure Cx where
  P : Program
  n : Nat
  W0 : World
  X : List Nat
  A0 : List Nat
  rd : Option Nat
  ds : List Deferred

/-- no fence; within the round of loop l if rd = some l -/
abbrev Cx.F (c : Cx) : Fence := { fn := fun _ => True, depth := none, alive := false, round := c.rd }
abbrev Cx.wp (c : Cx) (y : Code) (Q : Exit → Act → World → Prop) : Act → World → Prop := y.wpIn c.F 9 c.P Q
abbrev Cx.wpl (c : Cx) (ops : Array Oper) (Q : Exit → Act → World → Prop) : List Oper → Act → World → Prop := wpListIn c.F 9 c.P ops Q

def look : List (Nat × VP) → Nat → Option VP
  | [], _ => none
  | (s, τ) :: r, t => bif Nat.beq s t then some τ else look r t

structure St (c : Cx) (E : List (Nat × VP)) (L : List Ent) (a : Act) (W : World) : Prop where
  defers : a.defers = c.ds
  size : a.tmps.size = c.n
  env : ∀ t τ, look E t = some τ → ∃ v, a.tmps[t]? = some v ∧ τ.holds (ks L ++ c.A0) W v
  fr : Fr c.X c.W0 W
  own : ∀ e ∈ L, e.ok (ks L ++ c.A0) W
  nodup : (ks L).Nodup
  lt : ∀ k ∈ ks L, k < W.heap.size
  mine : ∀ k ∈ ks L, k < c.W0.heap.size → k ∈ c.X
  old : ∀ k ∈ c.A0, k < W.heap.size ∧ k ∉ ks L

theorem look_beq {s t : Nat} : Nat.beq s t = true ↔ s = t := by
  constructor
  · exact Nat.eq_of_beq_eq_true
  · rintro rfl; exact Nat.beq_refl s

theorem St.all_lt {c E L a W} (h : St c E L a W) : ∀ k ∈ ks L ++ c.A0, k < W.heap.size := by
  intro k hk
  rcases List.mem_append.1 hk with hk | hk
  · exact h.lt k hk
  · exact (h.old k hk).1

/-- the world goes on, nothing of the call's own is touched -/
theorem St.world {c E L a W W'} (h : St c E L a W) (f : Fr [] W W') : St c E L a W' where
  defers := h.defers
  size := h.size
  env t τ hl := let ⟨v, h1, h2⟩ := h.env t τ hl; ⟨v, h1, τ.mono (.fr f) h2⟩
  fr := h.fr.trans f.nil
  own e he := by
    have h1 := h.own e he
    unfold Ent.ok at *
    split at h1
    · rename_i p hp
      obtain ⟨o, ho, hh⟩ := h1
      have hlt := h.lt p (mem_ks.2 ⟨e, he, hp⟩)
      exact ⟨o, by rw [f.block p hlt (by simp)]; exact ho, CP.mono _ (.fr f) hh⟩
    · exact h1
  nodup := h.nodup
  lt k hk := Nat.lt_of_lt_of_le (h.lt k hk) f.size
  mine := h.mine
  old k hk := ⟨Nat.lt_of_lt_of_le (h.old k hk).1 f.size, (h.old k hk).2⟩

/-- a slot gets a value -/
theorem St.put {c E L a W} (h : St c E L a W) {d : Nat} (hd : d < c.n) {v : Value} {τ : VP} (hv : τ.holds (ks L ++ c.A0) W v) :
    St c ((d, τ) :: E) L (a.put (some d) v) W where
  defers := h.defers
  size := by simp [Act.put, h.size]
  env t τ' hl := by
    simp only [look] at hl
    simp only [Act.put]
    by_cases e : Nat.beq d t = true
    · rw [e] at hl
      simp only [cond_true, Option.some.injEq] at hl
      subst hl
      have := look_beq.1 e
      subst this
      exact ⟨v, by simp [h.size, hd], hv⟩
    · simp only [Bool.not_eq_true] at e
      rw [e] at hl
      simp only [cond_false] at hl
      obtain ⟨u, h1, h2⟩ := h.env t τ' hl
      have hne : d ≠ t := fun h => by rw [look_beq.2 h] at e; cases e
      exact ⟨u, by rw [Array.getElem?_setIfInBounds_ne hne]; exact h1, h2⟩
  fr := h.fr
  own := h.own
  nodup := h.nodup
  lt := h.lt
  mine := h.mine
  old := h.old

theorem St.nodefers {c E L a W} (s : St c E L a W) (h : c.ds = []) : a.defers = [] := by rw [s.defers, h]

/-- less is known -/
theorem St.less {c E E' L a W} (h : St c E L a W) (hE : ∀ t τ, look E' t = some τ → ∃ σ, look E t = some σ ∧ ∀ A W v, σ.holds A W v → τ.holds A W v) : St c E' L a W :=
  { h with env := fun t τ hl => let ⟨_, h1, h2⟩ := hE t τ hl; let ⟨v, h3, h4⟩ := h.env t _ h1; ⟨v, h3, h2 _ _ _ h4⟩ }

/-- a new block -/
theorem St.alloc {c E L a W} (h : St c E L a W) {o : Obj} {cp : CP} (hc : cp.holds (ks L ++ c.A0) W o) :
    St c E (⟨some W.heap.size, cp⟩ :: L) a (W.alloc o) := by
  have hnew : W.heap.size ∉ ks L := fun hm => Nat.lt_irrefl _ (h.lt _ hm)
  have hext : Ext (ks L ++ c.A0) W (ks (⟨some W.heap.size, cp⟩ :: L) ++ c.A0) (W.alloc o) :=
    ⟨by simp, fun k hk _ => ha_old W o k hk, fun k hk hlt => by
      simp only [ks, List.cons_append, List.mem_cons] at hk
      rcases hk with rfl | hk
      · exact absurd hlt (Nat.lt_irrefl _)
      · exact hk⟩
  exact
  { defers := h.defers
    size := h.size
    env := fun t τ hl => let ⟨v, h1, h2⟩ := h.env t τ hl; ⟨v, h1, τ.mono hext h2⟩
    fr := h.fr.trans (Fr.alloc W o)
    own := fun e he => by
      rcases List.mem_cons.1 he with rfl | he
      · exact ⟨o, ha_new W o, cp.mono hext hc⟩
      · have h1 := h.own e he
        unfold Ent.ok at *
        split at h1
        · rename_i p hp
          obtain ⟨o', ho, hh⟩ := h1
          exact ⟨o', by rw [ha_old W o p (h.lt p (mem_ks.2 ⟨e, he, hp⟩))]; exact ho, CP.mono _ hext hh⟩
        · exact h1
    nodup := by simp only [ks]; exact List.nodup_cons.2 ⟨hnew, h.nodup⟩
    lt := fun k hk => by
      simp only [ks, List.mem_cons] at hk
      rw [World.size_alloc]
      rcases hk with rfl | hk
      · omega
      · have := h.lt k hk; omega
    mine := fun k hk hlt => by
      simp only [ks, List.mem_cons] at hk
      rcases hk with rfl | hk
      · have := h.fr.size; omega
      · exact h.mine k hk hlt
    old := fun k hk => by
      obtain ⟨h1, h2⟩ := h.old k hk
      refine ⟨by rw [World.size_alloc]; omega, fun hm => ?_⟩
      simp only [ks, List.mem_cons] at hm
      rcases hm with rfl | hm
      · omega
      · exact h2 hm }

/-- the own blocks in another order, or fewer of them: what is left out is let go, for good -/
theorem St.sub {c E L L' a W} (h : St c E L a W) (hL : ∀ e ∈ L', e ∈ L) (hn : (ks L').Nodup) : St c E L' a W := by
  have hk : ∀ k ∈ ks L', k ∈ ks L := fun k hk => by
    obtain ⟨e, he, h2⟩ := mem_ks.1 hk
    exact mem_ks.2 ⟨e, hL e he, h2⟩
  have hext : Ext (ks L ++ c.A0) W (ks L' ++ c.A0) W := .drop fun k hm => by
    rcases List.mem_append.1 hm with hm | hm
    · exact List.mem_append.2 (.inl (hk k hm))
    · exact List.mem_append.2 (.inr hm)
  exact
  { defers := h.defers
    size := h.size
    env := fun t τ hl => let ⟨v, h1, h2⟩ := h.env t τ hl; ⟨v, h1, τ.mono hext h2⟩
    fr := h.fr
    own := fun e he => by
      have h1 := h.own e (hL e he)
      unfold Ent.ok at *
      split at h1
      · obtain ⟨o', ho, hh⟩ := h1
        exact ⟨o', ho, CP.mono _ hext hh⟩
      · exact h1
    nodup := hn
    lt := fun k hm => h.lt k (hk k hm)
    mine := fun k hm => h.mine k (hk k hm)
    old := fun k hm => ⟨(h.old k hm).1, fun h2 => (h.old k hm).2 (hk k h2)⟩ }

theorem ks_append (L R : List Ent) : ks (L ++ R) = ks L ++ ks R := by
  induction L with
  | nil => rfl
  | cons e r ih => cases hk : e.key <;> simp [ks, hk, ih]

theorem ks_set {L : List Ent} {i : Nat} {e : Ent} {cp : CP} (hi : L[i]? = some e) : ks (L.set i ⟨e.key, cp⟩) = ks L := by
  induction L generalizing i with
  | nil => simp at hi
  | cons x r ih =>
    cases i with
    | zero => simp only [List.getElem?_cons_zero, Option.some.injEq] at hi; subst hi; simp [ks]
    | succ i => simp only [List.getElem?_cons_succ] at hi; simp [ks, ih hi]

theorem ks_inj {L : List Ent} (hn : (ks L).Nodup) {i j : Nat} {e f : Ent} {p : Nat} (hi : L[i]? = some e) (hj : L[j]? = some f) (he : e.key = some p) (hf : f.key = some p) : i = j := by
  induction L generalizing i j with
  | nil => simp at hi
  | cons x r ih =>
    have hr : (ks r).Nodup := by
      cases hx : x.key with
      | none => simpa [ks, hx] using hn
      | some q => simp only [ks, hx] at hn; exact (List.nodup_cons.1 hn).2
    have hout : ∀ q, x.key = some q → q ∉ ks r := fun q hx => by simp only [ks, hx] at hn; exact (List.nodup_cons.1 hn).1
    cases i with
    | zero =>
      simp only [List.getElem?_cons_zero, Option.some.injEq] at hi
      subst hi
      cases j with
      | zero => rfl
      | succ j =>
        simp only [List.getElem?_cons_succ] at hj
        exact absurd (mem_ks.2 ⟨f, List.mem_of_getElem? hj, hf⟩) (hout p he)
    | succ i =>
      simp only [List.getElem?_cons_succ] at hi
      cases j with
      | zero =>
        simp only [List.getElem?_cons_zero, Option.some.injEq] at hj
        subst hj
        exact absurd (mem_ks.2 ⟨e, List.mem_of_getElem? hi, he⟩) (hout p hf)
      | succ j =>
        simp only [List.getElem?_cons_succ] at hj
        rw [ih hr hi hj]

/-- a block of the call's own is written -/
theorem St.store {c E L a W} (h : St c E L a W) {i p : Nat} {cp cp' : CP} (hi : L[i]? = some ⟨some p, cp⟩) {cs cs' : Array Value} {T : TypeId} {fz : Nat × Nat}
    (ho : W.heap[p]? = some (.cells cs T fz)) (hc : cp'.holds (ks L ++ c.A0) W (.cells cs' T fz)) :
    St c E (L.set i ⟨some p, cp'⟩) a (W.setRow p cs') := by
  have hks : ks (L.set i ⟨some p, cp'⟩) = ks L := ks_set (cp := cp') hi
  have hp : p ∈ ks L := mem_ks.2 ⟨_, List.mem_of_getElem? hi, rfl⟩
  have hext : Ext (ks L ++ c.A0) W (ks L ++ c.A0) (W.setRow p cs') :=
    ⟨by simp, fun k _ ha => setRow_other W p k cs' (fun e => ha (e ▸ List.mem_append.2 (.inl hp))), fun _ h _ => h⟩
  exact
  { defers := h.defers
    size := h.size
    env := fun t τ hl => by rw [hks]; exact let ⟨v, h1, h2⟩ := h.env t τ hl; ⟨v, h1, τ.mono hext h2⟩
    fr := ⟨h.fr.os, h.fr.tape, h.fr.output, h.fr.drawn, by simpa using h.fr.size, fun k hk hx => by
      rw [setRow_other W p k cs' (fun e => hx (e ▸ h.mine p hp (e ▸ hk)))]
      exact h.fr.block k hk hx⟩
    own := fun e he => by
      rw [hks]
      obtain ⟨j, hj⟩ := List.mem_iff_getElem?.1 he
      rw [List.getElem?_set] at hj
      split at hj
      · rename_i hij
        subst hij
        split at hj
        · simp only [Option.some.injEq] at hj
          subst hj
          exact ⟨_, setRow_heap W p cs cs' T fz ho, cp'.mono hext hc⟩
        · cases hj
      · rename_i hij
        have h1 := h.own e (List.mem_of_getElem? hj)
        unfold Ent.ok at *
        split at h1
        · rename_i q hq
          obtain ⟨o', ho', hh⟩ := h1
          have hne : q ≠ p := fun e' => hij (ks_inj h.nodup hi hj rfl (e' ▸ hq))
          exact ⟨o', by rw [setRow_other W p q cs' hne]; exact ho', CP.mono _ hext hh⟩
        · exact h1
    nodup := by rw [hks]; exact h.nodup
    lt := by rw [hks]; simpa using h.lt
    mine := by rw [hks]; exact h.mine
    old := by rw [hks]; simpa using h.old }

end Gv

namespace Gv
open Go

/-! ### Scalars -/

abbrev Rp.scalar {α : Type} (val : α → Value) (h : ∀ x, (val x).oneCell' = true) : Rp α where
  size := 1
  agg := false
  rep _ _ cs x := cs = [val x]
  len h := by rw [h]; rfl
  one hr := by subst hr; intro v hv; rw [List.mem_singleton.1 hv]; exact h _
  flat _ := rfl
  mono _ h := h

instance : Rp Bool := .scalar Value.bool fun _ => rfl
/-- Go's int, int64 -/
instance : Rp Int := .scalar (Value.int .i64) fun _ => rfl
instance : Rp (BitVec 64) := .scalar (fun x => Value.int .u64 (x.toNat : Int)) fun _ => rfl
instance : Rp (BitVec 32) := .scalar (fun x => Value.int .u32 (x.toNat : Int)) fun _ => rfl
instance : Rp (BitVec 16) := .scalar (fun x => Value.int .u16 (x.toNat : Int)) fun _ => rfl
instance : Rp (BitVec 8) := .scalar (fun x => Value.int .u8 (x.toNat : Int)) fun _ => rfl
instance : Rp ByteArray := .scalar Value.string fun _ => rfl

theorem toList_one {v u : Value} (h : v.oneCell' = true) (e : v.cells.toList = [u]) : v = u := by
  rw [cells_one h] at e
  simpa using e

theorem of_bool {A W v} {b : Bool} : (VP.of b).holds A W v ↔ v = .bool b :=
  ⟨fun h => toList_one h.1 h.2, fun h => by subst h; exact ⟨rfl, rfl⟩⟩
theorem of_int {A W v} {x : Int} : (VP.of x).holds A W v ↔ v = .int .i64 x :=
  ⟨fun h => toList_one h.1 h.2, fun h => by subst h; exact ⟨rfl, rfl⟩⟩
theorem of_u64 {A W v} {x : BitVec 64} : (VP.of x).holds A W v ↔ v = .int .u64 (x.toNat : Int) :=
  ⟨fun h => toList_one h.1 h.2, fun h => by subst h; exact ⟨rfl, rfl⟩⟩
theorem of_u8 {A W v} {x : BitVec 8} : (VP.of x).holds A W v ↔ v = .int .u8 (x.toNat : Int) :=
  ⟨fun h => toList_one h.1 h.2, fun h => by subst h; exact ⟨rfl, rfl⟩⟩
theorem of_str {A W v} {x : ByteArray} : (VP.of x).holds A W v ↔ v = .string x :=
  ⟨fun h => toList_one h.1 h.2, fun h => by subst h; exact ⟨rfl, rfl⟩⟩

/-! ### Operands -/

def Look (c : Cx) (E : List (Nat × VP)) (L : List Ent) (x : Operand) (τ : VP) : Prop := ∀ a W, St c E L a W → τ.holds (ks L ++ c.A0) W (a.eval x)

section
variable {c : Cx} {E : List (Nat × VP)} {L : List Ent}

theorem look_t {t : Nat} {τ : VP} (h : look E t = some τ) : Look c E L (.tmp t) τ := fun a W s => by
  obtain ⟨v, h1, h2⟩ := s.env t τ h
  have : a.eval (.tmp t) = v := by simp [Act.eval, h1]
  rw [this]; exact h2
theorem look_tc {t : Nat} {τ : VP} {p : Prop} (h : look E t = some (.cond p τ)) (hp : p) : Look c E L (.tmp t) τ := fun a W s => (look_t h a W s).1 hp
theorem look_int (k : Int) : Look c E L (.const (.int .i64 k)) (.of k) := fun _ _ _ => of_int.2 rfl
theorem look_bool (b : Bool) : Look c E L (.const (.bool b)) (.of b) := fun _ _ _ => of_bool.2 rfl
theorem look_u64 (x : BitVec 64) {k : Int} (h : (x.toNat : Int) = k) : Look c E L (.const (.int .u64 k)) (.of x) := fun _ _ _ => of_u64.2 (by rw [h]; rfl)
theorem look_u8 (x : BitVec 8) {k : Int} (h : (x.toNat : Int) = k) : Look c E L (.const (.int .u8 k)) (.of x) := fun _ _ _ => of_u8.2 (by rw [h]; rfl)
theorem look_str (s : ByteArray) : Look c E L (.const (.string s)) (.of s) := fun _ _ _ => of_str.2 rfl

/-! ### One operation -/

def OpTo (P : Program) (o : Oper) (a : Act) (W : World) (R : Value → World → Prop) : Prop :=
  o.wp P a W (fun a' W' => ∃ v, a' = a.put o.dst v ∧ R v W') (fun _ _ _ => False)

/-- what holds of a call everywhere holds of it in whatever round -/
theorem CallsIn.ofCalls {rd : Option Nat} {n : Nat} {P : Program} {f : FuncId} {args : Array Value} {w : World} {R : Ending → World → Prop}
    (h : Calls P f args w R) : CallsIn { fn := fun _ => True, depth := none, alive := false, round := rd } n P f args w R :=
  (callsIn_wide (n := n)).2 h
theorem RowsIn.ofRows {rd : Option Nat} {n : Nat} {P : Program} {row : String} {args : Array Value} {w : World} {R : Value → World → Prop}
    (h : Rows P row args w R) : RowsIn { fn := fun _ => True, depth := none, alive := false, round := rd } n P row args w R :=
  fun c cs _ => let ⟨v, w', r, s⟩ := h c cs; ⟨v, w', r, stepsIn_wide.2 s⟩

theorem OpTo.wp {P : Program} {o : Oper} {a : Act} {W : World} {R : Value → World → Prop} {next : Act → World → Prop} {Q : Exit → Act → World → Prop}
    (h : OpTo P o a W R) (hk : ∀ v W', R v W' → next (a.put o.dst v) W') : o.wp P a W next Q := by
  unfold OpTo Oper.wp at *
  generalize (execOp a.eval o).run P W = r at *
  cases r with
  | ok n W' =>
    cases n <;> simp only [Oper.upon] at h ⊢
    case value v => obtain ⟨u, h1, h2⟩ := h; rw [h1]; exact hk _ _ h2
    case skip => obtain ⟨u, h1, h2⟩ := h; rw [h1]; exact hk _ _ h2
    case defer d => obtain ⟨u, h1, h2⟩ := h; rw [h1]; exact hk _ _ h2
    case enter f args =>
      refine h.mono fun e w'' he => ?_
      cases e with
      | returned v => obtain ⟨u, h1, h2⟩ := he; simp only at h1 ⊢; rw [h1]; exact hk _ _ h2
      | panicked ch => exact he.elim
      | outgrown => obtain ⟨_, _, h1⟩ := he; exact h1.elim
    case row row args => exact h.mono fun v w'' ⟨u, h1, h2⟩ => by rw [h1]; exact hk _ _ h2
  | halt x W' => cases x <;> simp only [Oper.upon] at h

theorem OpTo.no_defer {P : Program} {o : Oper} {a : Act} {W : World} {R : Value → World → Prop} (h : OpTo P o a W R) : ∀ c, o.op ≠ .defer c := by
  intro c ho
  unfold OpTo Oper.wp execOp at h
  rw [ho] at h
  simp only [Sem.run_bind] at h
  generalize (resolve a.eval c o.type).run P W = r at h
  cases r with
  | ok d W' =>
    simp only [Result.andThen, Sem.run_pure, Oper.upon] at h
    obtain ⟨v, h1, _⟩ := h
    have := congrArg Act.defers h1
    cases hd : o.dst <;> simp [Act.put, hd] at this
  | halt x W' => cases x <;> simp only [Result.andThen, Oper.upon] at h

theorem OpTo.wpIn {c : Cx} {n : Nat} {o : Oper} {a : Act} {W : World} {R : Value → World → Prop} {next : Act → World → Prop} {Q : Exit → Act → World → Prop}
    (h : OpTo c.P o a W R) (hk : ∀ v W', R v W' → next (a.put o.dst v) W') : o.wpIn c.F n c.P a W next Q := by
  refine ⟨fun _ _ => trivial, ?_⟩
  rw [Oper.semAt_eq _ _ _ h.no_defer]
  unfold OpTo Oper.wp at h
  generalize (execOp a.eval o).run c.P W = r at *
  cases r with
  | ok m W' =>
    cases m <;> simp only [Oper.upon, Oper.uponIn] at h ⊢
    case value v => obtain ⟨u, h1, h2⟩ := h; rw [h1]; exact hk _ _ h2
    case skip => obtain ⟨u, h1, h2⟩ := h; rw [h1]; exact hk _ _ h2
    case defer d => obtain ⟨u, h1, h2⟩ := h; rw [h1]; exact hk _ _ h2
    case enter f args =>
      refine ⟨fun h => by simp at h, CallsIn.ofCalls ?_⟩
      refine h.mono fun e w'' he => ?_
      cases e with
      | returned v => obtain ⟨u, h1, h2⟩ := he; simp only at h1 ⊢; rw [h1]; exact hk _ _ h2
      | panicked ch => exact he.elim
      | outgrown => obtain ⟨_, _, h1⟩ := he; exact h1.elim
    case row row args =>
      refine ⟨fun h => by simp at h, RowsIn.ofRows ?_⟩
      exact h.mono fun v w'' ⟨u, h1, h2⟩ => by rw [h1]; exact hk _ _ h2
  | halt x W' => cases x <;> simp only [Oper.upon] at h

/-- an operation of which the run's result is known, and which is no call -/
theorem wpIn_of_value {c : Cx} {n : Nat} {o : Oper} {a : Act} {W W' : World} {v : Value} {next : Act → World → Prop} {Q : Exit → Act → World → Prop}
    (h : (execOp a.eval o).run c.P W = .ok (.value v) W') (hk : next (a.put o.dst v) W') : o.wpIn c.F n c.P a W next Q :=
  OpTo.wpIn (R := fun u U => u = v ∧ U = W') (by unfold OpTo Oper.wp; rw [h]; exact ⟨v, rfl, rfl, rfl⟩) fun u U ⟨h1, h2⟩ => by subst h1; subst h2; exact hk
theorem wpIn_of_skip {c : Cx} {n : Nat} {o : Oper} {a : Act} {W W' : World} {next : Act → World → Prop} {Q : Exit → Act → World → Prop}
    (h : (execOp a.eval o).run c.P W = .ok .skip W') (hk : next (a.put o.dst undef) W') : o.wpIn c.F n c.P a W next Q :=
  OpTo.wpIn (R := fun u U => u = undef ∧ U = W') (by unfold OpTo Oper.wp; rw [h]; exact ⟨undef, rfl, rfl, rfl⟩) fun u U ⟨h1, h2⟩ => by subst h1; subst h2; exact hk

theorem wpAnyIn_of_seq {F : Fence} {n : Nat} {P : Program} {md : Region.Mode} {ops : Array Oper} {Q' : Exit → Act → World → Prop} : ∀ (l : List Oper) (k : Nat) (listed : Array Bool) (a : Act) (w : World), (∀ j, l[j]? = ops[k + j]?) →
    Region.seqB md ops l.length k listed = true → wpListIn F n P ops Q' l a w → wpAnyIn F n P md ops Q' l.length listed a w
  | [], _, _, _, _, _, hB, h => ⟨by simpa [Region.seqB] using hB, h⟩
  | o :: l, k, listed, a, w, hl, hB, h => by
    have h0 : ops[k]? = some o := by simpa using (hl 0).symm
    simp only [List.length_cons, Region.seqB, Bool.and_eq_true, decide_eq_true_eq] at hB
    refine ⟨fun h1 => (by rw [hB.1] at h1; cases h1), fun i hi => ?_⟩
    rw [hB.1] at hi
    have hik : i = k := by simpa using hi
    subst hik
    have hw : wpOpIn F n P ops Q' i (wpListIn F n P ops Q' l) a w := by unfold wpOpIn; simp only [h0]; exact h
    exact wpOpIn_mono (fun a' w' h' => wpAnyIn_of_seq l (i + 1) _ a' w' (fun j => by have := hl (j + 1); simpa [Nat.add_assoc, Nat.add_comm 1 j] using this) hB.2 h') hw

theorem OpTo.of_run {P : Program} {o : Oper} {a : Act} {W W' : World} {R : Value → World → Prop} {v : Value}
    (h : (execOp a.eval o).run P W = .ok (.value v) W') (hr : R v W') : OpTo P o a W R := by
  unfold OpTo Oper.wp
  rw [h]
  exact ⟨v, rfl, hr⟩

theorem OpTo.of_skip {P : Program} {o : Oper} {a : Act} {W W' : World} {R : Value → World → Prop}
    (h : (execOp a.eval o).run P W = .ok .skip W') (hr : R undef W') : OpTo P o a W R := by
  unfold OpTo Oper.wp
  rw [h]
  exact ⟨undef, rfl, hr⟩

theorem OpTo.of_enter {P : Program} {o : Oper} {a : Act} {W W' : World} {R : Value → World → Prop} {f : FuncId} {args : Array Value}
    (h : (execOp a.eval o).run P W = .ok (.enter f args) W') (hr : Calls P f args W' fun e w'' => ∃ v, e = .returned v ∧ R v w'') : OpTo P o a W R := by
  unfold OpTo Oper.wp
  rw [h]
  exact hr.mono fun e w'' ⟨v, he, h2⟩ => by subst he; exact ⟨v, rfl, h2⟩

/-- the operation yields what τ says, and touches nothing that is there -/
def HR (c : Cx) (E : List (Nat × VP)) (L : List Ent) (o : Oper) (τ : VP) : Prop :=
  ∀ a W, St c E L a W → OpTo c.P o a W fun v W' => Fr [] W W' ∧ τ.holds (ks L ++ c.A0) W' v

theorem HR.pure {o : Oper} {τ : VP} (h : ∀ a W, St c E L a W → ∃ v, (execOp a.eval o).run c.P W = .ok (.value v) W ∧ τ.holds (ks L ++ c.A0) W v) : HR c E L o τ :=
  fun a W s => let ⟨_, h1, h2⟩ := h a W s; .of_run h1 ⟨.refl _ _, h2⟩

/-! ### A region in the order of the text -/

variable {ops : Array Oper} {Q : Exit → Act → World → Prop}

def Sq (c : Cx) (ops : Array Oper) (Q : Exit → Act → World → Prop) (l : List Oper) (E : List (Nat × VP)) (L : List Ent) : Prop :=
  ∀ a W, St c E L a W → c.wpl ops Q l a W

def To (c : Cx) (Q : Exit → Act → World → Prop) (x : Exit) (E : List (Nat × VP)) (L : List Ent) : Prop := ∀ a W, St c E L a W → Q x a W

theorem Sq.nil (h : To c Q .normal E L) : Sq c ops Q [] E L := fun a W s => wpListIn_nil (h a W s)

theorem wpList_op {c : Cx} {o : Oper} {rest : List Oper} {a : Act} {W : World} (hg : o.guard = none) {R : Value → World → Prop} (h : OpTo c.P o a W R)
    (hk : ∀ v W', R v W' → c.wpl ops Q rest (a.put o.dst v) W') : c.wpl ops Q (o :: rest) a W :=
  wpListIn_plain hg fun _ hK => h.wpIn fun v W' hr => hK _ _ (hk v W' hr)

theorem Sq.v {o : Oper} {rest : List Oper} {d : Nat} {τ : VP} (h : HR c E L o τ) (hg : o.guard = none) (hd : o.dst = some d) (hn : Nat.blt d c.n = true)
    (k : Sq c ops Q rest ((d, τ) :: E) L) : Sq c ops Q (o :: rest) E L := fun a W s =>
  wpList_op hg (h a W s) fun v W' ⟨f, hv⟩ => by
    rw [hd]
    exact k _ _ ((s.world f).put (by simpa using hn) hv)

/-- an operation whose result nobody takes -/
theorem Sq.x {o : Oper} {rest : List Oper} {τ : VP} (h : HR c E L o τ) (hg : o.guard = none) (hd : o.dst = none)
    (k : Sq c ops Q rest E L) : Sq c ops Q (o :: rest) E L := fun a W s =>
  wpList_op hg (h a W s) fun v W' ⟨f, _⟩ => by
    rw [hd]
    exact k _ _ (s.world f)

theorem yielded_of {j g : Nat} {b : Bool} (hj : (ops[j]?).bind (·.dst) = some g) (hl : look E g = some (.of b)) {a : Act} {W : World} (s : St c E L a W) :
    yielded ops a.tmps j = some b := by
  obtain ⟨v, h1, h2⟩ := s.env g _ hl
  unfold yielded
  rw [hj]
  simp only [Option.bind_some, h1, of_bool.1 h2]

theorem Sq.g {o : Oper} {rest : List Oper} {d j g : Nat} {b want : Bool} {τ : VP} (h : b = want → HR c E L o τ) (hg : o.guard = some (j, want)) (hj : (ops[j]?).bind (·.dst) = some g)
    (hl : look E g = some (.of b)) (hd : o.dst = some d) (hn : Nat.blt d c.n = true)
    (k : Sq c ops Q rest ((d, .cond (b = want) τ) :: E) L) : Sq c ops Q (o :: rest) E L := fun a W s => by
  have hy := yielded_of hj hl s
  unfold Cx.wpl wpListIn
  by_cases hb : b = want
  · rw [if_pos (by simp [Region.wanted, hg, hy, hb])]
    refine ((h hb a W s).wpIn fun v W' ⟨f, hv⟩ => ?_)
    rw [hd]
    exact k _ _ ((s.world f).put (by simpa using hn) ⟨fun _ => hv, fun h => absurd hb h⟩)
  · rw [if_neg (by simp [Region.wanted, hg, hy, hb])]
    rw [hd]
    exact ⟨fun _ _ => trivial, k _ _ (s.put (by simpa using hn) ⟨fun h => absurd h hb, fun _ => rfl⟩)⟩

theorem yielded_cond {j g : Nat} {p : Prop} {b : Bool} (hj : (ops[j]?).bind (·.dst) = some g) (hl : look E g = some (.cond p (.of b))) {a : Act} {W : World} (s : St c E L a W) :
    (p → yielded ops a.tmps j = some b) ∧ (¬ p → yielded ops a.tmps j = none) := by
  obtain ⟨v, h1, h2, h3⟩ := s.env g _ hl
  unfold yielded
  rw [hj]
  simp only [Option.bind_some, h1]
  exact ⟨fun hp => by simp only [of_bool.1 (h2 hp)], fun hp => by simp only [h3 hp]; rfl⟩

/-- a guard that stands under a guard -/
theorem Sq.gg {o : Oper} {rest : List Oper} {d j g : Nat} {p : Prop} {b want : Bool} {τ : VP} (h : p ∧ b = want → HR c E L o τ) (hg : o.guard = some (j, want)) (hj : (ops[j]?).bind (·.dst) = some g)
    (hl : look E g = some (.cond p (.of b))) (hd : o.dst = some d) (hn : Nat.blt d c.n = true)
    (k : Sq c ops Q rest ((d, .cond (p ∧ b = want) τ) :: E) L) : Sq c ops Q (o :: rest) E L := fun a W s => by
  have hy := yielded_cond hj hl s
  unfold Cx.wpl wpListIn
  by_cases hb : p ∧ b = want
  · rw [if_pos (by simp [Region.wanted, hg, hy.1 hb.1, hb.2])]
    refine ((h hb a W s).wpIn fun v W' ⟨f, hv⟩ => ?_)
    rw [hd]
    exact k _ _ ((s.world f).put (by simpa using hn) ⟨fun _ => hv, fun h => absurd hb h⟩)
  · have hw : Region.wanted o (yielded ops a.tmps) = false := by
      by_cases hp : p
      · have : ¬ (b = want) := fun h => hb ⟨hp, h⟩
        simp [Region.wanted, hg, hy.1 hp, this]
      · simp [Region.wanted, hg, hy.2 hp]
    rw [if_neg (by simp [hw])]
    refine ⟨fun _ _ => trivial, ?_⟩
    rw [hd]
    exact k _ _ (s.put (by simpa using hn) ⟨fun h => absurd h hb, fun _ => rfl⟩)

/-- less is known from here on -/
def sub : List (Nat × VP) → List Nat → List (Nat × VP)
  | _, [] => []
  | E, t :: r => match look E t with
    | some τ => (t, τ) :: sub E r
    | none => sub E r

/-- the new list of slots says no more than the elder: slot by slot -/
inductive Le (E : List (Nat × VP)) : List (Nat × VP) → Prop
  | nil : Le E []
  | cons {t τ σ r} : look E t = some σ → (∀ A W v, σ.holds A W v → τ.holds A W v) → Le E r → Le E ((t, τ) :: r)

theorem Le.same {t : Nat} {τ : VP} {r : List (Nat × VP)} (h : look E t = some τ) (k : Le E r) : Le E ((t, τ) :: r) := .cons h (fun _ _ _ h => h) k

theorem Le.all {r : List (Nat × VP)} (h : Le E r := by repeat (first | exact Le.nil | refine Le.same rfl ?_)) : Le E r := h

theorem Le.look : ∀ {E' : List (Nat × VP)}, Le E E' → ∀ t τ, Gv.look E' t = some τ → ∃ σ, Gv.look E t = some σ ∧ ∀ A W v, σ.holds A W v → τ.holds A W v
  | _, .nil, t, τ, h => by simp [Gv.look] at h
  | _, .cons (t := s) (σ := σ) h1 h2 r, t, τ, h => by
    simp only [Gv.look] at h
    by_cases e : Nat.beq s t = true
    · rw [e] at h
      simp only [cond_true, Option.some.injEq] at h
      subst h
      rw [look_beq.1 e] at h1
      exact ⟨σ, h1, h2⟩
    · simp only [Bool.not_eq_true] at e
      rw [e] at h
      exact r.look t τ h

theorem To.le {x : Exit} {E' : List (Nat × VP)} (h : Le E E') (k : To c Q x E' L) : To c Q x E L := fun a W s => k a W (s.less h.look)
theorem Sq.le {l : List Oper} {E' : List (Nat × VP)} (h : Le E E') (k : Sq c ops Q l E' L) : Sq c ops Q l E L := fun a W s => k a W (s.less h.look)

/-! ### Code -/

def Wp (c : Cx) (Q : Exit → Act → World → Prop) (code : Code) (E : List (Nat × VP)) (L : List Ent) : Prop := ∀ a W, St c E L a W → c.wp code Q a W

theorem Wp.le {code : Code} {E' : List (Nat × VP)} (h : Le E E') (k : Wp c Q code E' L) : Wp c Q code E L := fun a W s => k a W (s.less h.look)

theorem Wp.reg {id : Nat} {l : List Oper} (h : Sq c l.toArray Q l E L) : Wp c Q (.region id l.toArray false) E L := fun a W s => wpIn_region_lit (h a W s)

theorem Wp.seq {x y : Code} (h : Wp c (Exit.then (c.wp y Q) Q) x E L) : Wp c Q (.seq x y) E L := fun a W s => wpIn_seq (h a W s)
theorem To.next {y : Code} (h : Wp c Q y E L) : To c (Exit.then (c.wp y Q) Q) .normal E L := fun a W s => h a W s
theorem To.exit {y : Act → World → Prop} {id : Nat} (h : To c Q (.exit id) E L) : To c (Exit.then y Q) (.exit id) E L := fun a W s => h a W s
theorem To.ret {y : Act → World → Prop} (h : To c Q .ret E L) : To c (Exit.then y Q) .ret E L := fun a W s => h a W s

theorem Wp.block {id : Nat} {x : Code} (h : Wp c (Exit.inBlock id Q) x E L) : Wp c Q (.block id x) E L := fun a W s => wpIn_block (h a W s)
theorem To.bnorm {id : Nat} (h : To c Q .normal E L) : To c (Exit.inBlock id Q) .normal E L := fun a W s => h a W s
theorem To.bexit {id : Nat} (h : To c Q .normal E L) : To c (Exit.inBlock id Q) (.exit id) E L := fun a W s => by
  show (if id = id then Q .normal a W else Q (.exit id) a W)
  rw [if_pos rfl]; exact h a W s
theorem To.bother {id id' : Nat} (hne : Nat.beq id' id = false) (h : To c Q (.exit id') E L) : To c (Exit.inBlock id Q) (.exit id') E L := fun a W s => by
  show (if id' = id then Q .normal a W else Q (.exit id') a W)
  rw [if_neg (fun e => by rw [e, Nat.beq_refl] at hne; cases hne)]; exact h a W s
theorem To.bret {id : Nat} (h : To c Q .ret E L) : To c (Exit.inBlock id Q) .ret E L := fun a W s => h a W s

theorem Wp.skip (h : To c Q .normal E L) : Wp c Q .skip E L := fun a W s => wpIn_skip (h a W s)
theorem Wp.exit {id : Nat} (h : To c Q (.exit id) E L) : Wp c Q (.exit id) E L := fun a W s => wpIn_exit (h a W s)
theorem Wp.ret (h : To c Q .ret E L) : Wp c Q .ret E L := fun a W s => wpIn_ret (h a W s)

theorem Wp.cond {x : Operand} {b : Bool} {y z : Code} (hl : Look c E L x (.of b)) (ht : b = true → Wp c Q y E L) (hf : b = false → Wp c Q z E L) : Wp c Q (.cond x y z) E L :=
  fun a W s => wpIn_cond_split (of_bool.1 (hl a W s)) (fun h => ht h a W s) (fun h => hf h a W s)

/-! ### Loops -/

/-- rounds of a loop: inl: the next round; inr: the loop is left -/
def loopM {σ ε : Type} : Nat → (σ → Option (σ ⊕ ε)) → σ → Option ε
  | 0, _, _ => none
  | n + 1, b, s => match b s with
    | none => none
    | some (.inl s') => loopM n b s'
    | some (.inr e) => some e

/-- where a round ends: behind its last statement, or outside the loop -/
def LQ {σ ε : Type} (c : Cx) (E : σ → List (Nat × VP)) (L : σ → List Ent) (xs : ε → Exit) (Ex : ε → List (Nat × VP)) (Lx : ε → List Ent) : σ ⊕ ε → Exit → Act → World → Prop
  | .inl s, x, a, W => x = .normal ∧ St c (E s) (L s) a W
  | .inr e, x, a, W => x ≠ .normal ∧ x = xs e ∧ St c (Ex e) (Lx e) a W

theorem To.round {σ ε : Type} {E' : σ → List (Nat × VP)} {L' : σ → List Ent} {xs : ε → Exit} {Ex : ε → List (Nat × VP)} {Lx : ε → List Ent} {s : σ}
    (h : ∀ a W, St c E L a W → St c (E' s) (L' s) a W) : To c (LQ c E' L' xs Ex Lx (.inl s)) .normal E L := fun a W st => ⟨rfl, h a W st⟩
theorem loop_core {F : Fence} {n : Nat} {P : Program} {body : Code} {σ ε : Type} (b : σ → Option (σ ⊕ ε)) (I : σ → Act → World → Prop) (X : ε → Exit → Act → World → Prop)
    (hround : ∀ s r, b s = some r → ∀ a W, I s a W → body.wpIn F n P (fun x a W => match r with | .inl s' => x = .normal ∧ I s' a W | .inr e => x ≠ .normal ∧ X e x a W) a W)
    (Q : Exit → Act → World → Prop) (e : ε) (hafter : ∀ x a W, X e x a W → Q x a W) {s0 : σ} {N : Nat} (hl : loopM N b s0 = some e) {a0 : Act} {W0 : World} (h0 : I s0 a0 W0) :
    (Code.loop body).wpIn F n P Q a0 W0 := by
  intro fr k cs hro hb hr
  have key : ∀ N s, loopM N b s = some e → ∀ a W, I s a W →
      ∃ x a' W', Q x a' W' ∧ ArrivesIn (Machine.fenced P F) P (lone (fr.atR a (.code body :: .inLoop body :: k)) cs W) fr k cs x a' W' := by
    intro N
    induction N with
    | zero => intro s h; simp [loopM] at h
    | succ N ih =>
      intro s h a W hI
      simp only [loopM] at h
      split at h
      · cases h
      · rename_i s' hs
        obtain ⟨x, a₁, W₁, hq, harr⟩ := hround s _ hs a W hI fr (.inLoop body :: k) cs hro hb hr
        obtain ⟨hx, hI'⟩ := hq
        subst hx
        obtain ⟨x₂, a₂, W₂, hq₂, harr₂⟩ := ih s' h a₁ W₁ hI'
        exact ⟨x₂, a₂, W₂, hq₂, .of_steps (StepsIn.trans harr (.one (fenced_calm hb hr rfl) stepR_inLoop)) harr₂⟩
      · rename_i e' hs
        simp only [Option.some.injEq] at h
        subst h
        obtain ⟨x, a₁, W₁, hq, harr⟩ := hround s _ hs a W hI fr (.inLoop body :: k) cs hro hb hr
        obtain ⟨hx, hX⟩ := hq
        exact ⟨x, a₁, W₁, hafter _ _ _ hX, .pass (x := .inLoop body) rfl (fun _ _ => .inl hx) harr⟩
  obtain ⟨x, a', W', hq, harr⟩ := key N s0 hl a0 W0 h0
  exact ⟨x, a', W', hq, .of_steps (.one (fenced_calm hb hr rfl) stepR_loop) harr⟩

theorem Wp.loop {σ ε : Type} {body : Code} {N : Nat} {b : σ → Option (σ ⊕ ε)} {s0 : σ} {e : ε} (hl : loopM N b s0 = some e)
    (E : σ → List (Nat × VP)) (L : σ → List Ent) (xs : ε → Exit) (Ex : ε → List (Nat × VP)) (Lx : ε → List Ent)
    (hbody : ∀ s r, b s = some r → Wp c (LQ c E L xs Ex Lx r) body (E s) (L s))
    (hafter : To c Q (xs e) (Ex e) (Lx e)) : Wp c Q (.loop body) (E s0) (L s0) := fun a W st =>
  loop_core b (fun s a W => St c (E s) (L s) a W) (fun e x a W => x = xs e ∧ St c (Ex e) (Lx e) a W)
    (fun s r hs a W hI => wpIn_mono (hbody s r hs a W hI) (fun x a W h => by
      cases r with
      | inl s' => exact h
      | inr e' => exact ⟨h.1, h.2⟩)) Q e (fun x a W ⟨hx, hs⟩ => by subst hx; exact hafter a W hs) hl st

/-! ### The end of a call -/

/-- the function f, called with values that are as τs say, hands back one that is as ρ says, and touches nothing that was there -/
def Meets (P : Program) (f : FuncId) (τs : List VP) (ρ : VP) : Prop :=
  ∀ (A : List Nat) (W : World) (vs : List Value), (∀ k ∈ A, k < W.heap.size) → HoldsAll A W τs vs →
    Calls P f vs.toArray W fun e W' => ∃ v, e = .returned v ∧ Fr [] W W' ∧ ρ.holds A W' v

/-- slots 0, 1, .. of the parameters -/
def params : Nat → List VP → List (Nat × VP)
  | _, [] => []
  | k, τ :: r => (k, τ) :: params (k + 1) r

theorem look_params {A : List Nat} {W : World} {τs : List VP} {vs : List Value} (h : HoldsAll A W τs vs) : ∀ (k t : Nat) (τ : VP), look (params k τs) t = some τ → k ≤ t ∧ ∃ v, vs[t - k]? = some v ∧ τ.holds A W v := by
  induction h with
  | nil => intro k t τ h; simp [params, look] at h
  | cons h1 r ih =>
    intro k t τ hl
    simp only [params, look] at hl
    by_cases e : Nat.beq k t = true
    · rw [e] at hl
      simp only [cond_true, Option.some.injEq] at hl
      subst hl
      rw [look_beq.1 e]
      exact ⟨Nat.le_refl _, _, by simp, h1⟩
    · simp only [Bool.not_eq_true] at e
      rw [e] at hl
      have hne : k ≠ t := fun h => by rw [look_beq.2 h] at e; cases e
      obtain ⟨h2, v, h3, h4⟩ := ih (k + 1) t τ hl
      refine ⟨by omega, v, ?_, h4⟩
      rw [show t - k = (t - (k + 1)) + 1 by omega, List.getElem?_cons_succ]
      exact h3

theorem Meets.enter {P : Program} {f : FuncId} {fn : Func} {code : Code} {n : Nat} {τs : List VP} {ρ : VP} (hf : P.funcs[f]? = some fn) (hb : fn.body = some code) (hn : fn.ntmps = n) (hlen : Nat.ble τs.length n = true)
    (h : ∀ W A, Wp ⟨P, n, W, [], A, none, []⟩ (bodyPost P fn fun e W' => ∃ v, e = .returned v ∧ Fr [] W W' ∧ ρ.holds A W' v) code (params 0 τs) []) : Meets P f τs ρ := by
  intro A W vs hA hv
  refine calls_of_wp hf hb (wpIn_wide.1 (h W A _ _ ?_))
  have hl := hv.length
  have hle : τs.length ≤ n := Nat.le_of_ble_eq_true hlen
  exact
  { defers := rfl
    size := by simp [hn, hl]; omega
    env := fun t τ hl' => by
      obtain ⟨_, v, h2, h3⟩ := look_params hv 0 t τ hl'
      refine ⟨v, ?_, h3⟩
      have hlt : t < vs.length := (List.getElem?_eq_some_iff.1 h2).1
      rw [Array.getElem?_append_left (by simpa using hlt)]
      simpa using h2
    fr := .refl _ _
    own := by simp
    nodup := by simp [ks]
    lt := by simp [ks]
    mine := by simp [ks]
    old := fun k hk => ⟨hA k hk, by simp [ks]⟩ }

theorem holds_drop {ρ : VP} {A B : List Nat} {W : World} {v : Value} (h : ρ.holds (B ++ A) W v) : ρ.holds A W v := ρ.mono (.drop fun _ h => List.mem_append.2 (.inr h)) h

end
end Gv

namespace Gv
open Go
set_option linter.unusedVariables false

section
variable {c : Cx} {E : List (Nat × VP)} {L : List Ent} {ops : Array Oper} {Q : Exit → Act → World → Prop}

def HO (c : Cx) (ops : Array Oper) (E : List (Nat × VP)) (L : List Ent) (o : Oper) (τ : VP) : Prop :=
  ∀ a W, St c E L a W →
    (Region.wanted o (yielded ops a.tmps) = true → OpTo c.P o a W fun v W' => Fr [] W W' ∧ τ.holds (ks L ++ c.A0) W' v) ∧
    (Region.wanted o (yielded ops a.tmps) = false → τ.holds (ks L ++ c.A0) W undef)

theorem HO.v {o : Oper} {τ : VP} (h : HR c E L o τ) (hg : o.guard = none) : HO c ops E L o τ := fun a W s =>
  ⟨fun _ => h a W s, fun hw => by simp [Region.wanted, hg] at hw⟩

theorem HO.g {o : Oper} {j g : Nat} {b want : Bool} {τ : VP} (h : b = want → HR c E L o τ) (hg : o.guard = some (j, want)) (hj : (ops[j]?).bind (·.dst) = some g) (hl : look E g = some (.of b)) :
    HO c ops E L o (.cond (b = want) τ) := fun a W s => by
  have hy := yielded_of hj hl s
  constructor
  · intro hw
    have hb : b = want := by simpa [Region.wanted, hg, hy] using hw
    refine OpTo.wp (h hb a W s) fun v W' ⟨f, hv⟩ => ⟨v, rfl, f, fun _ => hv, fun h => absurd hb h⟩
  · intro hw
    exact ⟨fun hb => by simp [Region.wanted, hg, hy, hb] at hw, fun _ => rfl⟩

theorem HO.gg {o : Oper} {j g : Nat} {p : Prop} {b want : Bool} {τ : VP} (h : p ∧ b = want → HR c E L o τ) (hg : o.guard = some (j, want)) (hj : (ops[j]?).bind (·.dst) = some g) (hl : look E g = some (.cond p (.of b))) :
    HO c ops E L o (.cond (p ∧ b = want) τ) := fun a W s => by
  have hy := yielded_cond hj hl s
  have hw1 : Region.wanted o (yielded ops a.tmps) = true → p ∧ b = want := by
    intro hw
    by_cases hp : p
    · exact ⟨hp, by simpa [Region.wanted, hg, hy.1 hp] using hw⟩
    · simp [Region.wanted, hg, hy.2 hp] at hw
  constructor
  · intro hw
    refine OpTo.wp (h (hw1 hw) a W s) fun v W' ⟨f, hv⟩ => ⟨v, rfl, f, fun _ => hv, fun h => absurd (hw1 hw) h⟩
  · intro hw
    exact ⟨fun hb => by simp [Region.wanted, hg, hy.1 hb.1, hb.2] at hw, fun _ => rfl⟩

/-- what an operation of the heads does: it yields a value, makes a new variable, writes entry i of the call's own blocks, writes the variable of head j -/
inductive Hk
  | val (τ : VP)
  | new (cp : CP)
  | sto (i : Nat) (cp : CP)
  | stn (j : Nat) (cp : CP)

def Hk.isSto : Hk → Bool
  | .sto _ _ | .stn _ _ => true
  | _ => false

def Hk.vp (p : Nat) : Hk → Option VP
  | .val τ => some τ
  | .new _ => some (.eq (.pointer (some ⟨p, 0, none⟩)))
  | _ => none

/-- what an operation may look at: what the heads that it waits for have yielded, and what was there -/
def he (ps : Nat → Nat) (slots : List (Option Nat)) (hs : List Hk) (E : List (Nat × VP)) : List Nat → List (Nat × VP)
  | [] => E
  | j :: r => match slots[j]?, hs[j]? with
    | some (some s), some h => match h.vp (ps j) with
      | some τ => (s, τ) :: he ps slots hs E r
      | none => he ps slots hs E r
    | _, _ => he ps slots hs E r

def setCp : List Ent → Nat → CP → List Ent
  | [], _, _ => []
  | e :: r, 0, cp => ⟨e.key, cp⟩ :: r
  | e :: r, i + 1, cp => e :: setCp r i cp

theorem setCp_set {L : List Ent} {i : Nat} {e : Ent} {cp : CP} (h : L[i]? = some e) : setCp L i cp = L.set i ⟨e.key, cp⟩ := by
  induction L generalizing i with
  | nil => simp at h
  | cons x r ih =>
    cases i with
    | zero => simp only [List.getElem?_cons_zero, Option.some.injEq] at h; subst h; rfl
    | succ i => simp only [List.getElem?_cons_succ] at h; simp [setCp, ih h]

/-- the entries behind the stores of these heads -/
def Lat (L : List Ent) : List Hk → List Ent
  | [] => L
  | .sto i cp :: r => Lat (setCp L i cp) r
  | _ :: r => Lat L r

/-- what the new variable of head j holds behind the stores of these heads -/
def cpAt (j : Nat) (cp : CP) : List Hk → CP
  | [] => cp
  | .stn i cp' :: r => cpAt j (bif Nat.beq i j then cp' else cp) r
  | _ :: r => cpAt j cp r

theorem Lat_append (L : List Ent) (r : List Hk) (h : Hk) : Lat L (r ++ [h]) = Lat (Lat L r) [h] := by
  induction r generalizing L with
  | nil => rfl
  | cons x r ih => cases x <;> simp only [List.cons_append, Lat] <;> exact ih _

theorem cpAt_append (j : Nat) (cp : CP) (r : List Hk) (h : Hk) : cpAt j cp (r ++ [h]) = cpAt j (cpAt j cp r) [h] := by
  induction r generalizing cp with
  | nil => rfl
  | cons x r ih => cases x <;> simp only [List.cons_append, cpAt] <;> exact ih _

theorem Lat_plain {L : List Ent} : ∀ {r : List Hk}, (∀ h ∈ r, h.isSto = false) → Lat L r = L
  | [], _ => rfl
  | h :: r, hh => by
    have := hh h (by simp)
    have ih := Lat_plain (L := L) (r := r) (fun x hx => hh x (by simp [hx]))
    cases h <;> first | exact ih | cases this

theorem cpAt_plain {j : Nat} {cp : CP} : ∀ {r : List Hk}, (∀ h ∈ r, h.isSto = false) → cpAt j cp r = cp
  | [], _ => rfl
  | h :: r, hh => by
    have := hh h (by simp)
    have ih := cpAt_plain (j := j) (cp := cp) (r := r) (fun x hx => hh x (by simp [hx]))
    cases h <;> first | exact ih | cases this

/-- entry i is written by none of these but those that wait ('w': their numbers) -/
def unsto (w : Nat → Bool) (i : Nat) : Nat → List Hk → Bool
  | _, [] => true
  | k, .sto j _ :: r => (!(Nat.beq j i) || w k) && unsto w i (k + 1) r
  | k, .val _ :: r => unsto w i (k + 1) r
  | k, .new _ :: r => unsto w i (k + 1) r
  | k, .stn _ _ :: r => unsto w i (k + 1) r

theorem setCp_other {L : List Ent} {i j : Nat} {cp : CP} (h : i ≠ j) : (setCp L i cp)[j]? = L[j]? := by
  induction L generalizing i j with
  | nil => rfl
  | cons e r ih =>
    cases i with
    | zero => cases j with
      | zero => exact absurd rfl h
      | succ j => rfl
    | succ i => cases j with
      | zero => rfl
      | succ j => simp only [setCp, List.getElem?_cons_succ]; exact ih (by omega)

theorem Lat_unsto {L : List Ent} {i : Nat} {w : Nat → Bool} : ∀ {r : List Hk} (b k : Nat), unsto w i k r = true → (∀ q, q < b → (∃ j cp, r[q]? = some (.sto j cp)) → w (k + q) = false) → (Lat L (r.take b))[i]? = L[i]?
  | [], b, _, _, _ => by simp [Lat]
  | h :: r, 0, _, _, _ => by simp [Lat]
  | .sto j cp :: r, b + 1, k, h, hw => by
    simp only [unsto, Bool.and_eq_true, Bool.or_eq_true, Bool.not_eq_true'] at h
    have hwk : w k = false := by simpa using hw 0 (by omega) ⟨j, cp, by simp⟩
    have hne : j ≠ i := fun e => by
      rw [e, Nat.beq_refl, hwk] at h
      rcases h.1 with h | h <;> cases h
    rw [List.take_succ_cons, Lat, Lat_unsto b (k + 1) h.2 (fun q hq hx => by have := hw (q + 1) (by omega) (by simpa using hx); rw [← this]; congr 1; omega), setCp_other hne]
  | .val _ :: r, b + 1, k, h, hw => by rw [List.take_succ_cons]; exact Lat_unsto (r := r) b (k + 1) h (fun q hq hx => by have := hw (q + 1) (by omega) (by simpa using hx); rw [← this]; congr 1; omega)
  | .new _ :: r, b + 1, k, h, hw => by rw [List.take_succ_cons]; exact Lat_unsto (r := r) b (k + 1) h (fun q hq hx => by have := hw (q + 1) (by omega) (by simpa using hx); rw [← this]; congr 1; omega)
  | .stn _ _ :: r, b + 1, k, h, hw => by rw [List.take_succ_cons]; exact Lat_unsto (r := r) b (k + 1) h (fun q hq hx => by have := hw (q + 1) (by omega) (by simpa using hx); rw [← this]; congr 1; omega)

/-- a head that makes a new variable -/
def AO (P : Program) (o : Oper) (cp : CP) : Prop :=
  o.guard = none ∧ ∃ ob, (∀ A W, cp.holds A W ob) ∧ ∀ (a : Act) W, (execOp a.eval o).run P W = .ok (.value (.pointer (some ⟨W.heap.size, 0, none⟩))) (W.alloc ob)

/-- a store into block p, which then holds what cp says -/
def SO (c : Cx) (E : List (Nat × VP)) (L : List Ent) (o : Oper) (p : Nat) (cp : CP) : Prop :=
  o.guard = none ∧ o.dst = none ∧ ∀ a W, St c E L a W → ∃ cs cs' T, W.heap[p]? = some (.cells cs T (0, 0)) ∧ (execOp a.eval o).run c.P W = .ok .skip (W.setRow p cs') ∧ cp.holds (ks L ++ c.A0) W (.cells cs' T (0, 0))

/-- operation by operation: 'i': its number; 'all': all heads -/
def Heads (c : Cx) (ops : Array Oper) (ps : Nat → Nat) (slots : List (Option Nat)) (all : List Hk) (E : List (Nat × VP)) (L : List Ent) : Nat → List Oper → List Hk → List (List Nat) → Prop
  | _, _, [], _ => True
  | i, o :: os, .val τ :: hs, d :: ds => (∀ L' : List Ent, (∀ (j : Nat) (e : Ent), L[j]? = some e → unsto (fun k => Region.waitsFor .any ops k i) j 0 all = true → L'[j]? = some e) → HO c ops (he ps slots all E d) L' o τ) ∧ Heads c ops ps slots all E L (i + 1) os hs ds
  | i, o :: os, .new cp :: hs, _ :: ds => AO c.P o cp ∧ Heads c ops ps slots all E L (i + 1) os hs ds
  | i, o :: os, .sto k cp :: hs, d :: ds => (∃ (p : Nat) (cp0 : CP), (Lat L (all.take i))[k]? = some ⟨some p, cp0⟩ ∧ ∀ L' : List Ent, (∀ (j : Nat) (e : Ent), (Lat L (all.take i))[j]? = some e → L'[j]? = some e) → SO c (he ps slots all E d) L' o p cp) ∧ Heads c ops ps slots all E L (i + 1) os hs ds
  | i, o :: os, .stn k cp :: hs, d :: ds => (d.contains k = true ∧ ∃ cp0 : CP, all[k]? = some (.new cp0) ∧ ∀ (L' : List Ent) (q : Nat), L'[q]? = some ⟨some (ps k), cpAt k cp0 (all.take i)⟩ → SO c (he ps slots all E d) L' o (ps k) cp) ∧ Heads c ops ps slots all E L (i + 1) os hs ds
  | _, _, _, _ => False

/-- the heads' slots, the edges that are used, the tail's order -/
def drawB (ops : Array Oper) (n : Nat) (slots : List (Option Nat)) (deps : List (List Nat)) (sts : List Bool) (cn : Nat) : Bool :=
  decide (slots.length = n) && decide (n ≤ ops.size) && (slots.filterMap id).all (Nat.blt · cn) && decide (slots.filterMap id).Nodup &&
  ((List.range n).all fun i => ((ops[i]?).map fun o => (some o.dst == slots[i]?) && (o.after.all fun e => !Region.binds .any e || decide (e.on < i))).getD false) &&
  ((List.range n).all fun i => (deps.getD i []).all fun j => decide (j < n) && Region.waitsFor .any ops i j) &&
  ((List.range n).all fun i => !(sts.getD i false) || ((List.range i).all fun j => !(sts.getD j false) || Region.waitsFor .any ops i j)) &&
  (decide (n = ops.size) || (Region.sinkB .any ops n && Region.chainB .any ops n)) &&
  Region.seqB .any ops (ops.size - n) n ((List.range n).foldl (fun l i => l.setIfInBounds i true) (Array.replicate ops.size false))

def disj (E : List (Nat × VP)) (slots : List Nat) : Bool := match E with
  | [] => true
  | e :: r => !(slots.contains e.1) && disj r slots

theorem disj_spec {slots : List Nat} : ∀ {E : List (Nat × VP)}, disj E slots = true → ∀ t τ, look E t = some τ → t ∉ slots
  | [], _, t, τ, h => by simp [look] at h
  | (s, σ) :: r, hd, t, τ, h => by
    simp only [disj, Bool.and_eq_true, Bool.not_eq_true'] at hd
    simp only [look] at h
    by_cases e : Nat.beq s t = true
    · have := look_beq.1 e
      subst this
      simpa using hd.1
    · simp only [Bool.not_eq_true] at e
      rw [e] at h
      exact disj_spec hd.2 t τ h

theorem cnt_lt (f g : Nat → Bool) (i : Nat) (hf : f i = true) (hg : g i = false) (h : ∀ j, g j = true → f j = true) : ∀ n, i < n → ((List.range n).filter g).length < ((List.range n).filter f).length := by
  have le : ∀ n, ((List.range n).filter g).length ≤ ((List.range n).filter f).length := by
    intro n
    induction n with
    | zero => simp
    | succ n ih =>
      rw [List.range_succ, List.filter_append, List.filter_append, List.length_append, List.length_append]
      have : ([n].filter g).length ≤ ([n].filter f).length := by
        cases hgn : g n with
        | false => simp [hgn]
        | true => simp [hgn, h n hgn]
      omega
  intro n
  induction n with
  | zero => omega
  | succ n ih =>
    intro hlt
    rw [List.range_succ, List.filter_append, List.filter_append, List.length_append, List.length_append]
    by_cases e : i = n
    · subst e
      have := le i
      simp [hf, hg]
      omega
    · have h1 := ih (by omega)
      have : ([n].filter g).length ≤ ([n].filter f).length := by
        cases hgn : g n with
        | false => simp [hgn]
        | true => simp [hgn, h n hgn]
      omega


theorem heads_get {ps : Nat → Nat} {slots : List (Option Nat)} {all : List Hk} : ∀ {k : Nat} {os : List Oper} {hs : List Hk} {ds : List (List Nat)}, Heads c ops ps slots all E L k os hs ds →
    ∀ (i : Nat) h, hs[i]? = some h → ∃ o, os[i]? = some o ∧ (match h with
      | .val τ => ∀ L' : List Ent, (∀ (j : Nat) (e : Ent), L[j]? = some e → unsto (fun q => Region.waitsFor .any ops q (k + i)) j 0 all = true → L'[j]? = some e) → HO c ops (he ps slots all E (ds.getD i [])) L' o τ
      | .new cp => AO c.P o cp
      | .sto q cp => ∃ (p : Nat) (cp0 : CP), (Lat L (all.take (k + i)))[q]? = some ⟨some p, cp0⟩ ∧ ∀ L' : List Ent, (∀ (j : Nat) (e : Ent), (Lat L (all.take (k + i)))[j]? = some e → L'[j]? = some e) → SO c (he ps slots all E (ds.getD i [])) L' o p cp
      | .stn q cp => (ds.getD i []).contains q = true ∧ ∃ cp0 : CP, all[q]? = some (.new cp0) ∧ ∀ (L' : List Ent) (r : Nat), L'[r]? = some ⟨some (ps q), cpAt q cp0 (all.take (k + i))⟩ → SO c (he ps slots all E (ds.getD i [])) L' o (ps q) cp)
  | k, os, [], ds, _, i, h, hi => by simp at hi
  | k, [], h :: hs, ds, hh, _, _, _ => by cases h <;> simp [Heads] at hh
  | k, o :: os, h :: hs, [], hh, _, _, _ => by cases h <;> simp [Heads] at hh
  | k, o :: os, h0 :: hs, d :: ds, hh, i, h, hi => by
    have hd : Heads c ops ps slots all E L (k + 1) os hs ds := by cases h0 <;> exact hh.2
    cases i with
    | zero =>
      simp only [List.getElem?_cons_zero, Option.some.injEq] at hi
      subst hi
      refine ⟨o, by simp, ?_⟩
      cases h0 <;> exact hh.1
    | succ i =>
      simp only [List.getElem?_cons_succ] at hi
      obtain ⟨o', h1, h2⟩ := heads_get hd i h hi
      refine ⟨o', by simpa using h1, ?_⟩
      rw [show k + (i + 1) = k + 1 + i by omega]
      cases h <;> exact h2

theorem look_he {ps : Nat → Nat} {slots : List (Option Nat)} {hs : List Hk} {t : Nat} {τ : VP} : ∀ {ds : List Nat}, look (he ps slots hs E ds) t = some τ → (∃ j ∈ ds, slots[j]? = some (some t) ∧ ∃ h, hs[j]? = some h ∧ h.vp (ps j) = some τ) ∨ look E t = some τ
  | [], h => .inr h
  | j :: r, h => by
    have rest : look (he ps slots hs E r) t = some τ → (∃ k ∈ j :: r, slots[k]? = some (some t) ∧ ∃ h, hs[k]? = some h ∧ h.vp (ps k) = some τ) ∨ look E t = some τ := fun h => by
      rcases look_he h with ⟨k, hk, h1⟩ | h1
      · exact .inl ⟨k, List.mem_cons_of_mem _ hk, h1⟩
      · exact .inr h1
    simp only [he] at h
    split at h
    · rename_i s hk hs1 hs2
      split at h
      · rename_i σ hσ
        simp only [look] at h
        by_cases e : Nat.beq s t = true
        · rw [e] at h
          simp only [cond_true, Option.some.injEq] at h
          subst h
          exact .inl ⟨j, by simp, by rw [hs1, look_beq.1 e], hk, hs2, hσ⟩
        · simp only [Bool.not_eq_true] at e
          rw [e] at h
          exact rest h
      · exact rest h
    · exact rest h

/-- what the heads have left in their slots -/
def zipP (ps : Nat → Nat) (E : List (Nat × VP)) : Nat → List (Option Nat) → List Hk → List (Nat × VP)
  | i, some s :: ss, .val τ :: hs => (s, τ) :: zipP ps E (i + 1) ss hs
  | i, some s :: ss, .new _ :: hs => (s, .eq (.pointer (some ⟨ps i, 0, none⟩))) :: zipP ps E (i + 1) ss hs
  | i, _ :: ss, _ :: hs => zipP ps E (i + 1) ss hs
  | _, _, _ => E

/-- the new variables, as they are at the end -/
def entsP (ps : Nat → Nat) (all : List Hk) (L : List Ent) : Nat → List Hk → List Ent
  | i, .new cp :: hs => ⟨some (ps i), cpAt i cp all⟩ :: entsP ps all L (i + 1) hs
  | i, _ :: hs => entsP ps all L (i + 1) hs
  | _, [] => L

theorem look_zipP {ps : Nat → Nat} {t : Nat} {τ : VP} : ∀ {slots : List (Option Nat)} {hs : List Hk} (k : Nat), look (zipP ps E k slots hs) t = some τ →
    (∃ j : Nat, slots[j]? = some (some t) ∧ ∃ h, hs[j]? = some h ∧ h.vp (ps (k + j)) = some τ) ∨ look E t = some τ
  | [], hs, k, h => .inr (by cases hs <;> exact h)
  | s :: ss, [], k, h => .inr (by cases s <;> exact h)
  | s :: ss, x :: hs, k, h => by
    have rest : look (zipP ps E (k + 1) ss hs) t = some τ → (∃ j : Nat, (s :: ss)[j]? = some (some t) ∧ ∃ h, (x :: hs)[j]? = some h ∧ h.vp (ps (k + j)) = some τ) ∨ look E t = some τ := fun h => by
      rcases look_zipP (k + 1) h with ⟨j, h1, h2⟩ | h1
      · refine .inl ⟨j + 1, by simpa using h1, ?_⟩
        rw [show k + (j + 1) = k + 1 + j by omega]
        simpa using h2
      · exact .inr h1
    have one : ∀ (s' : Nat) (σ : VP), s = some s' → x.vp (ps k) = some σ → look ((s', σ) :: zipP ps E (k + 1) ss hs) t = some τ → (∃ j : Nat, (s :: ss)[j]? = some (some t) ∧ ∃ h, (x :: hs)[j]? = some h ∧ h.vp (ps (k + j)) = some τ) ∨ look E t = some τ := fun s' σ hs' hσ h => by
      simp only [look] at h
      by_cases e : Nat.beq s' t = true
      · rw [e] at h
        simp only [cond_true, Option.some.injEq] at h
        subst h
        exact .inl ⟨0, by simp [hs', look_beq.1 e], x, by simp, by simpa using hσ⟩
      · simp only [Bool.not_eq_true] at e
        rw [e] at h
        exact rest h
    cases s with
    | none => cases x <;> exact rest h
    | some s' =>
      cases x with
      | val σ => exact one s' σ rfl rfl h
      | new cp => exact one s' _ rfl rfl h
      | sto i cp => exact rest h
      | stn i cp => exact rest h

theorem listed_all {n : Nat} {listed : Array Bool} (inv : HeadInv .any ops n listed) (hn : n ≤ ops.size) (hall : ∀ i, i < n → listed.getD i true = true) :
    listed = (List.range n).foldl (fun l i => l.setIfInBounds i true) (Array.replicate ops.size false) := by
  have key : ∀ m, m ≤ ops.size → ((List.range m).foldl (fun l i => l.setIfInBounds i true) (Array.replicate ops.size false)).size = ops.size ∧
      ∀ j (d : Bool), j < ops.size → ((List.range m).foldl (fun l i => l.setIfInBounds i true) (Array.replicate ops.size false)).getD j d = decide (j < m) := by
    intro m
    induction m with
    | zero => intro _; exact ⟨by simp, fun j d hj => by simp [hj]⟩
    | succ m ih =>
      intro hm
      obtain ⟨h1, h2⟩ := ih (by omega)
      rw [List.range_succ, List.foldl_append]
      simp only [List.foldl_cons, List.foldl_nil]
      refine ⟨by simpa using h1, fun j d hj => ?_⟩
      by_cases e : m = j
      · subst e
        simp [h1, hj]
      · rw [getD_set_ne d e, h2 j d hj]
        by_cases h3 : j < m
        · simp [h3]; omega
        · simp [h3]; omega
  obtain ⟨h1, h2⟩ := key n hn
  apply Array.ext
  · rw [inv.size, h1]
  · intro i hi1 hi2
    have hi : i < ops.size := by rw [← inv.size]; exact hi1
    have h3 := h2 i true hi
    have e1 : listed.getD i true = listed[i] := by simp [hi1]
    have e2 : ((List.range n).foldl (fun l i => l.setIfInBounds i true) (Array.replicate ops.size false)).getD i true = ((List.range n).foldl (fun l i => l.setIfInBounds i true) (Array.replicate ops.size false))[i] := by
      simp [hi2]
    rw [← e2, h3, ← e1]
    by_cases h4 : i < n
    · rw [hall i h4]; simp [h4]
    · rw [inv.tail i (by omega) hi]; simp [h4]


theorem entsP_append (ps : Nat → Nat) (all : List Hk) (L : List Ent) : ∀ (hs : List Hk) (i : Nat), entsP ps all L i hs = entsP ps all [] i hs ++ L
  | [], _ => rfl
  | .new cp :: hs, i => by simp only [entsP]; rw [entsP_append ps all L hs (i + 1)]; rfl
  | .val _ :: hs, i => entsP_append ps all L hs (i + 1)
  | .sto _ _ :: hs, i => entsP_append ps all L hs (i + 1)
  | .stn _ _ :: hs, i => entsP_append ps all L hs (i + 1)

theorem mem_entsP {ps : Nat → Nat} {all : List Hk} {e : Ent} : ∀ {hs : List Hk} {i : Nat}, e ∈ entsP ps all [] i hs → ∃ (j : Nat) (cp : CP), hs[j]? = some (.new cp) ∧ e = ⟨some (ps (i + j)), cpAt (i + j) cp all⟩
  | [], _, h => by simp [entsP] at h
  | x :: hs, i, h => by
    have rest : e ∈ entsP ps all [] (i + 1) hs → ∃ (j : Nat) (cp : CP), (x :: hs)[j]? = some (.new cp) ∧ e = ⟨some (ps (i + j)), cpAt (i + j) cp all⟩ := fun h => by
      obtain ⟨j, cp, h1, h2⟩ := mem_entsP (hs := hs) (i := i + 1) h
      refine ⟨j + 1, cp, by simpa using h1, ?_⟩
      rw [show i + (j + 1) = i + 1 + j by omega]; exact h2
    cases x with
    | new cp =>
      rcases List.mem_cons.1 h with h | h
      · exact ⟨0, cp, by simp, by simpa using h⟩
      · exact rest h
    | val _ => exact rest h
    | sto _ _ => exact rest h
    | stn _ _ => exact rest h

theorem ks_entsP_nodup {ps : Nat → Nat} {all : List Hk} : ∀ (hs : List Hk) (i : Nat), (∀ (j k : Nat) (u v : CP), hs[j]? = some (.new u) → hs[k]? = some (.new v) → ps (i + j) = ps (i + k) → j = k) → (ks (entsP ps all [] i hs)).Nodup
  | [], _, _ => by simp [entsP, ks]
  | x :: hs, i, h => by
    have hr : (ks (entsP ps all [] (i + 1) hs)).Nodup := ks_entsP_nodup hs (i + 1) fun j k u v h1 h2 h3 => by
      have := h (j + 1) (k + 1) u v (by simpa using h1) (by simpa using h2) (by rw [show i + (j + 1) = i + 1 + j by omega, show i + (k + 1) = i + 1 + k by omega]; exact h3)
      omega
    cases x with
    | val _ => exact hr
    | sto _ _ => exact hr
    | stn _ _ => exact hr
    | new cp =>
      simp only [entsP, ks]
      refine List.nodup_cons.2 ⟨fun hm => ?_, hr⟩
      obtain ⟨e, he, hk⟩ := mem_ks.1 hm
      obtain ⟨j, u, h1, h2⟩ := mem_entsP he
      rw [h2] at hk
      simp only [Option.some.injEq] at hk
      have := h 0 (j + 1) cp u (by simp) (by simpa using h1) (by rw [show i + (j + 1) = i + 1 + j by omega]; simpa using hk.symm)
      omega

/-- the entries of the new variables that are there -/
def newL (ps : Nat → Nat) (all : List Hk) (b : Nat) (al : List Nat) : List Ent := al.map fun j => ⟨some (ps j), match all[j]? with | some (.new cp) => cpAt j cp (all.take b) | _ => .dead⟩

theorem ks_newL (ps : Nat → Nat) (all : List Hk) (b : Nat) : ∀ (al : List Nat), ks (newL ps all b al) = al.map ps
  | [] => rfl
  | j :: al => by
    have := ks_newL ps all b al
    simp only [newL, List.map_cons, ks] at this ⊢
    rw [this]

/-- in the middle of the heads: 'al': the heads that have made new variables; 'b': the stores ahead of number b have come up -/
structure Mid (c : Cx) (n : Nat) (slots : List (Option Nat)) (hs : List Hk) (E : List (Nat × VP)) (L : List Ent) (listed : Array Bool) (ps : Nat → Nat) (al : List Nat) (b : Nat) (a : Act) (W : World) : Prop where
  st : St c E (Lat L (hs.take b) ++ newL ps hs b al) a W
  done : ∀ (j : Nat) s h τ, j < n → listed.getD j false = true → slots[j]? = some (some s) → hs[j]? = some h → h.vp (ps j) = some τ → ∃ v, a.tmps[s]? = some v ∧ τ.holds (ks (Lat L (hs.take b) ++ newL ps hs b al) ++ c.A0) W v
  news : ∀ (j : Nat), j ∈ al ↔ (j < n ∧ listed.getD j false = true ∧ ∃ cp, hs[j]? = some (.new cp))
  stored : ∀ (j : Nat) h, hs[j]? = some h → h.isSto = true → (listed.getD j false = true ↔ j < b)
  ble : b ≤ n

theorem take_mid {hs : List Hk} {b i : Nat} {h : Hk} (hb : b ≤ i) (hi : hs[i]? = some h) (hn : ∀ (j : Nat) x, b ≤ j → j < i → hs[j]? = some x → x.isSto = false) :
    ∃ r, hs.take i = hs.take b ++ r ∧ ∀ x ∈ r, x.isSto = false := by
  refine ⟨(hs.drop b).take (i - b), ?_, fun x hx => ?_⟩
  · rw [← List.take_add]; congr 1; omega
  · obtain ⟨j, hj⟩ := List.mem_iff_getElem?.1 hx
    rw [List.getElem?_take] at hj
    split at hj
    · rw [List.getElem?_drop] at hj
      exact hn (b + j) x (by omega) (by omega) hj
    · cases hj

theorem Lat_app (L : List Ent) (r s : List Hk) : Lat L (r ++ s) = Lat (Lat L r) s := by
  induction r generalizing L with
  | nil => rfl
  | cons x r ih => cases x <;> simp only [List.cons_append, Lat] <;> exact ih _
theorem cpAt_app (j : Nat) (cp : CP) (r s : List Hk) : cpAt j cp (r ++ s) = cpAt j (cpAt j cp r) s := by
  induction r generalizing cp with
  | nil => rfl
  | cons x r ih => cases x <;> simp only [List.cons_append, cpAt] <;> exact ih _

theorem ks_perm {L R : List Ent} (h : L.Perm R) : (ks L).Perm (ks R) := by
  induction h with
  | nil => exact .nil
  | cons x _ ih => cases hk : x.key <;> simp only [ks, hk] <;> first | exact ih | exact ih.cons _
  | swap x y l =>
    cases hx : x.key <;> cases hy : y.key <;> simp only [ks, hx, hy]
    all_goals first | exact .refl _ | exact .swap _ _ _
  | trans _ _ h1 h2 => exact h1.trans h2

theorem St.perm {E L L' a W} (h : St c E L a W) (p : L.Perm L') : St c E L' a W :=
  h.sub (fun e he => p.mem_iff.2 he) ((ks_perm p).nodup_iff.1 h.nodup)

theorem cpAt_nostn {j : Nat} {cp : CP} : ∀ {r : List Hk}, (∀ q x, Hk.stn q x ∈ r → q ≠ j) → cpAt j cp r = cp
  | [], _ => rfl
  | .stn q x :: r, h => by
    have h1 := h q x (by simp)
    have e : Nat.beq q j = false := by
      cases hb : Nat.beq q j with
      | false => rfl
      | true => exact absurd (look_beq.1 hb) h1
    simp only [cpAt, e, cond_false]
    exact cpAt_nostn fun q x hm => h q x (by simp [hm])
  | .val _ :: r, h => cpAt_nostn (r := r) fun q x hm => h q x (by simp [hm])
  | .new _ :: r, h => cpAt_nostn (r := r) fun q x hm => h q x (by simp [hm])
  | .sto _ _ :: r, h => cpAt_nostn (r := r) fun q x hm => h q x (by simp [hm])

theorem nodup_of_map (f : Nat → Nat) : ∀ (l : List Nat), (l.map f).Nodup → l.Nodup
  | [], _ => by simp
  | x :: r, h => by
    simp only [List.map_cons] at h
    obtain ⟨h1, h2⟩ := List.nodup_cons.1 h
    exact List.nodup_cons.2 ⟨fun hm => h1 (List.mem_map.2 ⟨x, hm, rfl⟩), nodup_of_map f r h2⟩

theorem newL_ps {ps ps' : Nat → Nat} {all : List Hk} {b : Nat} {al : List Nat} (h : ∀ j ∈ al, ps' j = ps j) : newL ps' all b al = newL ps all b al := by
  unfold newL
  exact List.map_congr_left fun j hj => by rw [h j hj]

theorem draw_core {n : Nat} {slots : List (Option Nat)} {hs : List Hk} {deps : List (List Nat)} (hB : drawB ops n slots deps (hs.map Hk.isSto) c.n = true) (hE : disj E (slots.filterMap id) = true) (hlen : hs.length = n)
    (hh : ∀ ps, Heads c ops ps slots hs E L 0 ops.toList hs deps) (ht : ∀ ps, Sq c ops Q (ops.toList.drop n) (zipP ps E 0 slots hs) (entsP ps hs (Lat L hs) 0 hs)) :
    ∀ m (listed : Array Bool) (ps : Nat → Nat) (al : List Nat) (b : Nat) (a : Act) (W : World), ((List.range n).filter fun i => !listed.getD i true).length ≤ m → HeadInv .any ops n listed → Mid c n slots hs E L listed ps al b a W →
      wpAnyIn c.F 9 c.P .any ops Q (m + (ops.size - n)) listed a W := by
  simp only [drawB, Bool.and_eq_true, decide_eq_true_eq, Bool.or_eq_true] at hB
  obtain ⟨⟨⟨⟨⟨⟨⟨⟨hsl, hn⟩, hlt⟩, hnd⟩, hops⟩, hdeps⟩, hsts⟩, htail⟩, hseq⟩ := hB
  have hop : ∀ i, i < n → ∃ o, ops[i]? = some o ∧ slots[i]? = some o.dst ∧ ∀ e ∈ o.after, Region.binds .any e = true → e.on < i := by
    intro i hi
    have h1 := List.all_eq_true.1 hops i (List.mem_range.2 hi)
    cases ho : ops[i]? with
    | none => simp [ho] at h1
    | some o =>
      simp only [ho, Option.map_some, Option.getD_some, Bool.and_eq_true, beq_iff_eq] at h1
      refine ⟨o, rfl, h1.1.symm, fun e he hb => ?_⟩
      have := Array.all_eq_true_iff_forall_mem.1 h1.2 e he
      simp [hb] at this
      exact this
  have hslt : ∀ (i s : Nat), slots[i]? = some (some s) → s < c.n := fun i s h => by
    have : s ∈ slots.filterMap id := List.mem_filterMap.2 ⟨some s, List.mem_of_getElem? h, rfl⟩
    have := List.all_eq_true.1 hlt s this
    simpa using this
  have hsne : ∀ (i j s : Nat), slots[i]? = some (some s) → slots[j]? = some (some s) → i = j := by
    have key : ∀ (l : List (Option Nat)), (l.filterMap id).Nodup → ∀ (i j s : Nat), l[i]? = some (some s) → l[j]? = some (some s) → i = j := by
      intro l
      induction l with
      | nil => intro _ i j s h; simp at h
      | cons x r ih =>
        intro hnd i j s hi hj
        have hr : (r.filterMap id).Nodup := by
          cases x with
          | none => simpa using hnd
          | some y => simp only [List.filterMap_cons_some (f := id) (a := some y) (b := y) rfl] at hnd; exact (List.nodup_cons.1 hnd).2
        have hout : x = some s → s ∉ r.filterMap id := fun e => by
          subst e
          simp only [List.filterMap_cons_some (f := id) (a := some s) (b := s) rfl] at hnd
          exact (List.nodup_cons.1 hnd).1
        cases i with
        | zero =>
          simp only [List.getElem?_cons_zero, Option.some.injEq] at hi
          cases j with
          | zero => rfl
          | succ j =>
            simp only [List.getElem?_cons_succ] at hj
            exact absurd (List.mem_filterMap.2 ⟨some s, List.mem_of_getElem? hj, rfl⟩ : s ∈ r.filterMap id) (hout hi)
        | succ i =>
          simp only [List.getElem?_cons_succ] at hi
          cases j with
          | zero =>
            simp only [List.getElem?_cons_zero, Option.some.injEq] at hj
            exact absurd (List.mem_filterMap.2 ⟨some s, List.mem_of_getElem? hi, rfl⟩ : s ∈ r.filterMap id) (hout hj)
          | succ j =>
            simp only [List.getElem?_cons_succ] at hj
            rw [ih hr i j s hi hj]
    exact key slots hnd
  intro m
  induction m with
  | zero =>
    intro listed ps al b a W hm inv mid
    have hall : ∀ i, i < n → listed.getD i true = true := by
      intro i hi
      cases h : listed.getD i true with
      | true => rfl
      | false =>
        have : i ∈ (List.range n).filter fun i => !listed.getD i true := List.mem_filter.2 ⟨List.mem_range.2 hi, by rw [h]; rfl⟩
        rw [List.length_eq_zero_iff.1 (Nat.le_zero.1 hm)] at this
        cases this
    have hl := listed_all inv hn hall
    rw [← hl] at hseq
    have hlen2 : (ops.toList.drop n).length = ops.size - n := by simp
    rw [Nat.zero_add, ← hlen2]
    rw [← hlen2] at hseq
    refine wpAnyIn_of_seq (ops.toList.drop n) n listed a W (fun j => by simp) hseq (ht ps a W ?_)
    have hlisted : ∀ j, j < n → listed.getD j false = true := fun j hjn => by
      have h3 := hall j hjn
      have h4 : j < listed.size := by rw [inv.size]; omega
      simpa [h4] using h3
    have hjn : ∀ (j : Nat) (h : Hk), hs[j]? = some h → j < n := fun j h hj => by have := (List.getElem?_eq_some_iff.1 hj).1; omega
    have hplain : ∀ x ∈ hs.drop b, x.isSto = false := fun x hx => by
      obtain ⟨j, hj⟩ := List.mem_iff_getElem?.1 hx
      rw [List.getElem?_drop] at hj
      cases hxs : x.isSto with
      | false => rfl
      | true =>
        have := (mid.stored (b + j) x hj hxs).1 (hlisted _ (hjn _ _ hj))
        omega
    have hLat : Lat L hs = Lat L (hs.take b) := by
      conv => lhs; rw [← List.take_append_drop b hs]
      rw [Lat_app, Lat_plain hplain]
    have hcp : ∀ (j : Nat) cp, cpAt j cp hs = cpAt j cp (hs.take b) := fun j cp => by
      conv => lhs; rw [← List.take_append_drop b hs]
      rw [cpAt_app, cpAt_plain hplain]
    have hnodA : (al.map ps).Nodup := by
      have := mid.st.nodup
      rw [ks_append, ks_newL] at this
      exact (List.nodup_append.1 this).2.1
    have hinj : ∀ (j k : Nat), j ∈ al → k ∈ al → ps j = ps k → j = k := by
      have key : ∀ (l : List Nat), (l.map ps).Nodup → ∀ j k : Nat, j ∈ l → k ∈ l → ps j = ps k → j = k := by
        intro l
        induction l with
        | nil => intro _ j k h; cases h
        | cons x r ihl =>
          intro hn j k hj hk e
          simp only [List.map_cons] at hn
          obtain ⟨h1, h2⟩ := List.nodup_cons.1 hn
          rcases List.mem_cons.1 hj with h3 | hj
          · rcases List.mem_cons.1 hk with h4 | hk
            · rw [h3, h4]
            · exact absurd (List.mem_map.2 ⟨k, hk, by rw [← e, h3]⟩) h1
          · rcases List.mem_cons.1 hk with h4 | hk
            · exact absurd (List.mem_map.2 ⟨j, hj, by rw [e, h4]⟩) h1
            · exact ihl h2 j k hj hk e
      exact key al hnodA
    have hal : ∀ (j : Nat) cp, hs[j]? = some (.new cp) → j ∈ al := fun j cp hj => (mid.news j).2 ⟨hjn j _ hj, hlisted j (hjn j _ hj), cp, hj⟩
    have hment : ∀ e ∈ entsP ps hs [] 0 hs, e ∈ newL ps hs b al := fun e he => by
      obtain ⟨j, cp, h1, h2⟩ := mem_entsP he
      rw [Nat.zero_add] at h2
      refine List.mem_map.2 ⟨j, hal j cp h1, ?_⟩
      simp only [h1]
      rw [h2, hcp]
    have hs3 : St c E (entsP ps hs (Lat L hs) 0 hs) a W := by
      rw [entsP_append, hLat]
      refine mid.st.sub (fun e he => ?_) ?_
      · rcases List.mem_append.1 he with he | he
        · exact List.mem_append.2 (.inr (hment e he))
        · exact List.mem_append.2 (.inl he)
      · rw [ks_append]
        have hno := mid.st.nodup
        rw [ks_append, ks_newL] at hno
        obtain ⟨h1, h2, h3⟩ := List.nodup_append.1 hno
        refine List.nodup_append.2 ⟨ks_entsP_nodup hs 0 fun j k u v e1 e2 e3 => ?_, h1, fun x hx y hy e => ?_⟩
        · simp only [Nat.zero_add] at e3
          exact hinj j k (hal j u e1) (hal k v e2) e3
        · subst e
          obtain ⟨e, he, hek⟩ := mem_ks.1 hx
          have : x ∈ ks (newL ps hs b al) := mem_ks.2 ⟨e, hment e he, hek⟩
          rw [ks_newL] at this
          exact h3 x hy x this rfl
    have hsub : ∀ k ∈ ks (entsP ps hs (Lat L hs) 0 hs) ++ c.A0, k ∈ ks (Lat L (hs.take b) ++ newL ps hs b al) ++ c.A0 := fun k hk => by
      rw [entsP_append, ks_append, hLat] at hk
      rw [ks_append]
      simp only [List.mem_append] at hk ⊢
      rcases hk with (hk | hk) | hk
      · obtain ⟨e, he, hek⟩ := mem_ks.1 hk
        exact .inl (.inr (mem_ks.2 ⟨e, hment e he, hek⟩))
      · exact .inl (.inl hk)
      · exact .inr hk
    refine { hs3 with env := fun t τ hlk => ?_ }
    rcases look_zipP 0 hlk with ⟨j, h1, h, h2, h3⟩ | h1
    · rw [Nat.zero_add] at h3
      obtain ⟨v, h4, h5⟩ := mid.done j t h τ (hjn j h h2) (hlisted j (hjn j h h2)) h1 h2 h3
      exact ⟨v, h4, τ.mono (.drop hsub) h5⟩
    · exact hs3.env t τ h1
  | succ m ih =>
    intro listed ps al b a W hm inv mid
    by_cases hall : ∀ i, i < n → listed.getD i true = true
    · have h0 : ((List.range n).filter fun i => !listed.getD i true).length ≤ m := by
        have : ((List.range n).filter fun i => !listed.getD i true) = [] := List.filter_eq_nil_iff.2 fun i hi => by simp [hall i (List.mem_range.1 hi)]
        rw [this]; simp
      have h1 := ih listed ps al b a W h0 inv mid
      have more : ∀ f (listed : Array Bool) a W, wpAnyIn c.F 9 c.P .any ops Q f listed a W → wpAnyIn c.F 9 c.P .any ops Q (f + 1) listed a W := by
        intro f
        induction f with
        | zero => intro listed a W h; exact ⟨fun _ => h.2, fun i hi => by rw [h.1] at hi; cases hi⟩
        | succ f ihf => intro listed a W h; exact ⟨h.1, fun i hi => wpOpIn_mono (fun a' w' h' => ihf _ a' w' h') (h.2 i hi)⟩
      rw [show m + 1 + (ops.size - n) = (m + (ops.size - n)) + 1 by omega]
      exact more _ _ _ _ h1
    · rw [show m + 1 + (ops.size - n) = (m + (ops.size - n)) + 1 by omega]
      have hex : ∃ i, i < n ∧ listed.getD i true = false := by
        have h1 : ¬ ∀ i, i < n → listed.getD i true = true := hall
        false_or_by_contra
        rename_i h2
        exact h1 fun i hi => by
          cases h : listed.getD i true with
          | true => rfl
          | false => exact absurd ⟨i, hi, h⟩ h2
      have hready : ∀ t ∈ Region.ready .any ops listed, t < n := by
        intro t htm
        rcases Nat.lt_or_ge t n with h | h
        · exact h
        · obtain ⟨i, hi, hun⟩ := hex
          rcases htail with h1 | h1
          · obtain ⟨_, o, ho, _⟩ := mem_ready.1 htm
            have := (Array.getElem?_eq_some_iff.1 ho).1
            omega
          · have hnlt : n < ops.size := by
              obtain ⟨_, o, ho, _⟩ := mem_ready.1 htm
              have := (Array.getElem?_eq_some_iff.1 ho).1
              omega
            exact absurd htm (tail_waits h1.1 h1.2 hnlt inv _ i rfl hi hun t h)
      refine ⟨fun h0 => ?_, fun i hi => ?_⟩
      · exfalso
        have hleast : ∀ k, ∀ i, i ≤ k → i < n → listed.getD i true = false → ∃ i, i < n ∧ listed.getD i true = false ∧ ∀ j, j < i → listed.getD j true = true := by
          intro k
          induction k with
          | zero => intro i hik hi hu; exact ⟨i, hi, hu, fun j hj => by omega⟩
          | succ k ihk =>
            intro i hik hi hu
            by_cases hq : ∀ j, j < i → listed.getD j true = true
            · exact ⟨i, hi, hu, hq⟩
            · have : ∃ j, j < i ∧ listed.getD j true = false := by
                false_or_by_contra
                rename_i h2
                exact hq fun j hj => by
                  cases h : listed.getD j true with
                  | true => rfl
                  | false => exact absurd ⟨j, hj, h⟩ h2
              obtain ⟨j, hj, hju⟩ := this
              exact ihk j (by omega) (by omega) hju
        obtain ⟨i0, hi0, hu0⟩ := hex
        obtain ⟨i, hi, hu, hmin⟩ := hleast i0 i0 (Nat.le_refl _) hi0 hu0
        obtain ⟨o, ho, _, hedges⟩ := hop i hi
        have : i ∈ Region.ready .any ops listed := mem_ready.2 ⟨hu, o, ho, fun e he hb => by
          have h1 := hmin e.on (hedges e he hb)
          have h2 : e.on < listed.size := by rw [inv.size]; have := hedges e he hb; omega
          simpa [h2] using h1⟩
        rw [h0] at this
        cases this
      · have hin := hready i hi
        obtain ⟨o, ho, hslot, hedges⟩ := hop i hin
        obtain ⟨hun, o', ho', hlisted⟩ := mem_ready.1 hi
        have hoo : o' = o := Option.some.inj (ho'.symm.trans ho)
        subst hoo
        obtain ⟨h, hhi⟩ : ∃ h, hs[i]? = some h := ⟨hs[i]'(by omega), by simp⟩
        obtain ⟨o2, ho2, hH⟩ := heads_get (hh ps) i h hhi
        have hoo2 : o2 = o' := by
          rw [Array.getElem?_toList] at ho2
          exact Option.some.inj (ho2.symm.trans ho)
        subst hoo2
        have hcnt : ((List.range n).filter fun j => !(listed.setIfInBounds i true).getD j true).length ≤ m := by
          have : ((List.range n).filter fun j => !(listed.setIfInBounds i true).getD j true).length < ((List.range n).filter fun j => !listed.getD j true).length := by
            refine cnt_lt (fun j => !listed.getD j true) (fun j => !(listed.setIfInBounds i true).getD j true) i (by simp only [hun]; rfl) ?_ (fun j hj => ?_) n hin
            · have : i < listed.size := by rw [inv.size]; omega
              simp [this]
            · by_cases e : i = j
              · subst e; simp only [hun]; rfl
              · rw [getD_set_ne true e] at hj; exact hj
          omega
        have inv' := inv.set hi hin
        have hilt : i < listed.size := by rw [inv.size]; omega
        have hself : (listed.setIfInBounds i true).getD i false = true := by simp [hilt]
        have hunf : listed.getD i false = false := getD_both hun
        have hnal : i ∉ al := fun hm => by have := ((mid.news i).1 hm).2.1; rw [hunf] at this; cases this
        have hdep : ∀ j ∈ deps.getD i [], j < n ∧ listed.getD j false = true := fun j hj => by
          have h3 := List.all_eq_true.1 (List.all_eq_true.1 hdeps i (List.mem_range.2 hin)) j hj
          simp only [Bool.and_eq_true, decide_eq_true_eq] at h3
          obtain ⟨oj, hoj, e, he, hb, hon⟩ := Region.waitsFor_spec h3.2
          have : oj = o2 := Option.some.inj (hoj.symm.trans ho)
          subst this
          have h4 := hlisted e he hb
          rw [hon] at h4
          exact ⟨h3.1, h4⟩
        have hst : St c (he ps slots hs E (deps.getD i [])) (Lat L (hs.take b) ++ newL ps hs b al) a W := by
          refine { mid.st with env := fun t σ hlk => ?_ }
          rcases look_he hlk with ⟨j, hj, h1, x, h2, h3⟩ | h1
          · exact mid.done j t x σ (hdep j hj).1 (hdep j hj).2 h1 h2 h3
          · exact mid.st.env t σ h1
        -- the stores ahead of a store have come up
        have hstores : h.isSto = true → b ≤ i ∧ ∃ r, hs.take i = hs.take b ++ r ∧ ∀ x ∈ r, x.isSto = false := fun hsto => by
          have hbi : b ≤ i := by
            rcases Nat.lt_or_ge i b with h1 | h1
            · have := (mid.stored i h hhi hsto).2 h1
              rw [hunf] at this; cases this
            · exact h1
          refine ⟨hbi, take_mid hbi hhi fun j x hj1 hj2 hx => ?_⟩
          cases hxs : x.isSto with
          | false => rfl
          | true =>
            have h3 := List.all_eq_true.1 hsts i (List.mem_range.2 hin)
            have e1 : (hs.map Hk.isSto).getD i false = true := by simp [hhi, hsto]
            simp only [e1, Bool.not_true, Bool.false_or] at h3
            have h4 := List.all_eq_true.1 h3 j (List.mem_range.2 hj2)
            have e2 : (hs.map Hk.isSto).getD j false = true := by simp [hx, hxs]
            simp only [e2, Bool.not_true, Bool.false_or] at h4
            obtain ⟨oj, hoj, e, he, hb, hon⟩ := Region.waitsFor_spec h4
            have : oj = o2 := Option.some.inj (hoj.symm.trans ho)
            subst this
            have h5 := hlisted e he hb
            rw [hon] at h5
            have := (mid.stored j x hx hxs).1 h5
            omega
        unfold wpOpIn
        simp only [ho]
        cases h with
        | val τ =>
          simp only at hH
          have hHO := hH (Lat L (hs.take b) ++ newL ps hs b al) (fun j e hj hu => by
            have h1 : (Lat L (hs.take b))[j]? = some e := by
              rw [Lat_unsto b 0 hu (fun q hq ⟨j', cp', hx⟩ => by
                have hql := (mid.stored q _ hx rfl).2 hq
                cases hw : Region.waitsFor .any ops (0 + q) (0 + i) with
                | false => rfl
                | true =>
                  obtain ⟨oj', hoj', e', he', hb', hon'⟩ := Region.waitsFor_spec hw
                  rw [Nat.zero_add] at hoj' hon'
                  have := inv.closed q oj' hoj' hql e' he' hb'
                  rw [hon', hunf] at this
                  cases this)]
              exact hj
            rw [List.getElem?_append_left (List.getElem?_eq_some_iff.1 h1).1]; exact h1)
          obtain ⟨h1, h2⟩ := hHO a W hst
          have hnext : ∀ v W', Fr [] W W' → τ.holds (ks (Lat L (hs.take b) ++ newL ps hs b al) ++ c.A0) W' v → Mid c n slots hs E L (listed.setIfInBounds i true) ps al b (a.put o2.dst v) W' := by
            intro v W' f hv
            have hs0 := mid.st.world f
            refine ⟨?_, fun j s' x σ hj hl hs' hx hσ => ?_, fun j => ?_, fun j x hx hxs => ?_, mid.ble⟩
            · cases hd : o2.dst with
              | none => exact hs0
              | some s =>
                rw [hd] at hslot
                refine { (hs0.put (d := s) (hslt i s hslot) hv) with env := fun t σ hlk => ?_ }
                have hne : s ≠ t := fun e => disj_spec hE t σ hlk (by rw [← e]; exact List.mem_filterMap.2 ⟨some s, List.mem_of_getElem? hslot, rfl⟩)
                obtain ⟨u, h5, h6⟩ := hs0.env t σ hlk
                exact ⟨u, by simp only [Act.put]; rw [Array.getElem?_setIfInBounds_ne hne]; exact h5, h6⟩
            · by_cases e : i = j
              · subst e
                rw [hslot] at hs'
                rw [hhi] at hx
                cases hx
                simp only [Hk.vp, Option.some.injEq] at hσ
                subst hσ
                simp only [Option.some.injEq] at hs'
                rw [hs']
                exact ⟨v, by rw [hs'] at hslot; simp [Act.put, hs0.size, hslt i s' hslot], hv⟩
              · rw [getD_set_ne false e] at hl
                obtain ⟨u, h5, h6⟩ := mid.done j s' x σ hj hl hs' hx hσ
                refine ⟨u, ?_, σ.mono (.fr f) h6⟩
                cases hd : o2.dst with
                | none => exact h5
                | some s =>
                  rw [hd] at hslot
                  have hne : s ≠ s' := fun e2 => e (hsne i j s hslot (by rw [e2]; exact hs'))
                  simp only [Act.put]; rw [Array.getElem?_setIfInBounds_ne hne]; exact h5
            · rw [mid.news j]
              by_cases e : i = j
              · subst e
                constructor
                · rintro ⟨_, h5, _⟩; rw [hunf] at h5; cases h5
                · rintro ⟨_, _, cp, h5⟩; rw [hhi] at h5; cases h5
              · rw [getD_set_ne false e]
            · have e : i ≠ j := fun e => by subst e; rw [hhi] at hx; cases hx; cases hxs
              rw [getD_set_ne false e]
              exact mid.stored j x hx hxs
          split
          · rename_i hw
            exact (h1 hw).wpIn fun v W' ⟨f, hv⟩ => ih _ ps al b _ _ hcnt inv' (hnext v W' f hv)
          · rename_i hw
            have hw' : Region.wanted o2 (yielded ops a.tmps) = false := by simpa using hw
            exact ⟨fun _ _ => trivial, ih _ ps al b _ _ hcnt inv' (hnext undef W (.refl _ _) (h2 hw'))⟩
        | new cp =>
          simp only at hH
          obtain ⟨hgd, ob, hob, hrun⟩ := hH
          have hnost : ∀ q x, Hk.stn q x ∈ hs.take b → q ≠ i := fun q x hm e => by
            subst e
            obtain ⟨j, hj⟩ := List.mem_iff_getElem?.1 hm
            rw [List.getElem?_take] at hj
            split at hj
            · rename_i hjb
              have hjl := (mid.stored j _ hj rfl).2 hjb
              have hjn : j < n := by have := (List.getElem?_eq_some_iff.1 hj).1; omega
              obtain ⟨oj, hoj, hHj⟩ := heads_get (hh ps) j _ hj
              simp only at hHj
              have h3 := List.all_eq_true.1 (List.all_eq_true.1 hdeps j (List.mem_range.2 hjn)) q (by simpa using hHj.1)
              simp only [Bool.and_eq_true, decide_eq_true_eq] at h3
              obtain ⟨oj', hoj', e, he, hb, hon⟩ := Region.waitsFor_spec h3.2
              have := inv.closed j oj' hoj' hjl e he hb
              rw [hon, hunf] at this
              cases this
            · cases hj
          have hcpi : cpAt i cp (hs.take b) = cp := cpAt_nostn hnost
          let ps' : Nat → Nat := fun j => if j = i then W.heap.size else ps j
          have hps : ∀ j, j ∈ al → ps' j = ps j := fun j hj => if_neg (fun e => hnal (by rw [← e]; exact hj))
          have hpi : ps' i = W.heap.size := if_pos rfl
          have hL' : Lat L (hs.take b) ++ newL ps' hs b (i :: al) = Lat L (hs.take b) ++ (⟨some W.heap.size, cp⟩ :: newL ps hs b al) := by
            have : newL ps' hs b (i :: al) = ⟨some W.heap.size, cp⟩ :: newL ps' hs b al := by simp only [newL, List.map_cons, hhi, hpi, hcpi]
            rw [this, newL_ps hps]
          have hmid : Mid c n slots hs E L (listed.setIfInBounds i true) ps' (i :: al) b (a.put o2.dst (.pointer (some ⟨W.heap.size, 0, none⟩))) (W.alloc ob) := by
            have hs0 : St c E (Lat L (hs.take b) ++ newL ps' hs b (i :: al)) a (W.alloc ob) := by
              rw [hL']
              exact (mid.st.alloc (hob _ _)).perm List.perm_middle.symm
            have hext : Ext (ks (Lat L (hs.take b) ++ newL ps hs b al) ++ c.A0) W (ks (Lat L (hs.take b) ++ newL ps' hs b (i :: al)) ++ c.A0) (W.alloc ob) := by
              refine ⟨by simp, fun k hk _ => ha_old W ob k hk, fun k hk hlt => ?_⟩
              rw [hL'] at hk
              simp only [ks_append, ks, List.mem_append, List.mem_cons] at hk ⊢
              rcases hk with (h | h | h) | h
              · exact .inl (.inl h)
              · omega
              · exact .inl (.inr h)
              · exact .inr h
            refine ⟨?_, fun j s' x σ hj hl hs' hx hσ => ?_, fun j => ?_, fun j x hx hxs => ?_, mid.ble⟩
            · cases hd : o2.dst with
              | none => exact hs0
              | some s =>
                rw [hd] at hslot
                refine { (hs0.put (d := s) (τ := .any) (hslt i s hslot) trivial) with env := fun t σ hlk => ?_ }
                have hne : s ≠ t := fun e => disj_spec hE t σ hlk (by rw [← e]; exact List.mem_filterMap.2 ⟨some s, List.mem_of_getElem? hslot, rfl⟩)
                obtain ⟨u, h5, h6⟩ := hs0.env t σ hlk
                exact ⟨u, by simp only [Act.put]; rw [Array.getElem?_setIfInBounds_ne hne]; exact h5, h6⟩
            · by_cases e : i = j
              · subst e
                rw [hslot] at hs'
                rw [hhi] at hx
                cases hx
                simp only [Hk.vp, Option.some.injEq] at hσ
                subst hσ
                simp only [Option.some.injEq] at hs'
                rw [hs']
                exact ⟨.pointer (some ⟨W.heap.size, 0, none⟩), by rw [hs'] at hslot; simp [Act.put, hs0.size, hslt i s' hslot], by rw [hpi]; rfl⟩
              · rw [getD_set_ne false e] at hl
                have hpj : ps' j = ps j := if_neg (fun e' => e e'.symm)
                rw [hpj] at hσ
                obtain ⟨u, h5, h6⟩ := mid.done j s' x σ hj hl hs' hx hσ
                refine ⟨u, ?_, σ.mono hext h6⟩
                cases hd : o2.dst with
                | none => exact h5
                | some s =>
                  rw [hd] at hslot
                  have hne : s ≠ s' := fun e2 => e (hsne i j s hslot (by rw [e2]; exact hs'))
                  simp only [Act.put]; rw [Array.getElem?_setIfInBounds_ne hne]; exact h5
            · rw [List.mem_cons, mid.news j]
              by_cases e : i = j
              · subst e
                exact ⟨fun _ => ⟨hin, hself, cp, hhi⟩, fun _ => .inl rfl⟩
              · rw [getD_set_ne false e]
                exact ⟨fun h => h.resolve_left (fun e' => e e'.symm), .inr⟩
            · have e : i ≠ j := fun e => by subst e; rw [hhi] at hx; cases hx; cases hxs
              rw [getD_set_ne false e]
              exact mid.stored j x hx hxs
          rw [if_pos (by simp [Region.wanted, hgd])]
          refine wpIn_of_value (hrun a W) ?_
          exact ih _ ps' (i :: al) b _ _ hcnt inv' hmid
        | sto q cp =>
          simp only at hH
          obtain ⟨hbi, r, htk, hrp⟩ := hstores rfl
          have hLi : Lat L (hs.take i) = Lat L (hs.take b) := by rw [htk, Lat_app, Lat_plain hrp]
          rw [Nat.zero_add, hLi] at hH
          obtain ⟨p, cp0, hq, hSO⟩ := hH
          have hq' : (Lat L (hs.take b) ++ newL ps hs b al)[q]? = some ⟨some p, cp0⟩ := by
            rw [List.getElem?_append_left (List.getElem?_eq_some_iff.1 hq).1]; exact hq
          obtain ⟨hgd, hdst, hSO⟩ := hSO (Lat L (hs.take b) ++ newL ps hs b al) (fun j e hj => by
            rw [List.getElem?_append_left (List.getElem?_eq_some_iff.1 hj).1]; exact hj)
          obtain ⟨cs, cs', T, h1, h2, h3⟩ := hSO a W hst
          have hs1 := mid.st.store hq' h1 h3
          have htk1 : hs.take (i + 1) = hs.take i ++ [.sto q cp] := by rw [List.take_add_one, hhi]; rfl
          have hL1 : Lat L (hs.take (i + 1)) = (Lat L (hs.take b)).set q ⟨some p, cp⟩ := by
            rw [htk1, Lat_append, hLi]
            simp only [Lat]
            exact setCp_set hq
          have hN1 : newL ps hs (i + 1) al = newL ps hs b al := by
            unfold newL
            refine List.map_congr_left fun j _ => ?_
            congr 1
            split
            · rw [htk1, cpAt_append, htk, cpAt_app, cpAt_plain hrp]; rfl
            · rfl
          have hLL : Lat L (hs.take (i + 1)) ++ newL ps hs (i + 1) al = (Lat L (hs.take b) ++ newL ps hs b al).set q ⟨some p, cp⟩ := by
            rw [hL1, hN1, List.set_append_left _ _ (List.getElem?_eq_some_iff.1 hq).1]
          have hkk : ks (Lat L (hs.take (i + 1)) ++ newL ps hs (i + 1) al) = ks (Lat L (hs.take b) ++ newL ps hs b al) := by rw [hLL]; exact ks_set (cp := cp) hq'
          have hpm : p ∈ ks (Lat L (hs.take b) ++ newL ps hs b al) := mem_ks.2 ⟨_, List.mem_of_getElem? hq', rfl⟩
          have hext : Ext (ks (Lat L (hs.take b) ++ newL ps hs b al) ++ c.A0) W (ks (Lat L (hs.take b) ++ newL ps hs b al) ++ c.A0) (W.setRow p cs') :=
            ⟨by simp, fun k _ ha => setRow_other W p k cs' (fun e => ha (e ▸ List.mem_append.2 (.inl hpm))), fun _ h _ => h⟩
          have hmid : Mid c n slots hs E L (listed.setIfInBounds i true) ps al (i + 1) (a.put o2.dst undef) (W.setRow p cs') := by
            rw [hdst]
            refine ⟨by rw [hLL]; exact hs1, fun j s' x σ hj hl hs' hx hσ => ?_, fun j => ?_, fun j x hx hxs => ?_, hin⟩
            · rw [hkk]
              by_cases e : i = j
              · subst e; rw [hhi] at hx; cases hx; cases hσ
              · rw [getD_set_ne false e] at hl
                obtain ⟨u, h5, h6⟩ := mid.done j s' x σ hj hl hs' hx hσ
                exact ⟨u, h5, σ.mono hext h6⟩
            · rw [mid.news j]
              by_cases e : i = j
              · subst e
                constructor
                · rintro ⟨_, h5, _⟩; rw [hunf] at h5; cases h5
                · rintro ⟨_, _, cp, h5⟩; rw [hhi] at h5; cases h5
              · rw [getD_set_ne false e]
            · by_cases e : i = j
              · subst e; exact ⟨fun _ => by omega, fun _ => hself⟩
              · rw [getD_set_ne false e, mid.stored j x hx hxs]
                constructor
                · intro _; omega
                · intro hj
                  rcases Nat.lt_or_ge j b with h5 | h5
                  · exact h5
                  · have : x ∈ r := by
                      have h6 : (hs.take i)[j]? = some x := by rw [List.getElem?_take, if_pos (by omega)]; exact hx
                      rw [htk, List.getElem?_append_right (by rw [List.length_take]; omega)] at h6
                      exact List.mem_of_getElem? h6
                    have := hrp x this
                    rw [hxs] at this; cases this
          rw [if_pos (by simp [Region.wanted, hgd])]
          refine wpIn_of_skip h2 ?_
          exact ih _ ps al (i + 1) _ _ hcnt inv' hmid
        | stn q cp =>
          simp only at hH
          obtain ⟨hbi, r, htk, hrp⟩ := hstores rfl
          obtain ⟨hcon, cp0, hq0, hSO⟩ := hH
          rw [Nat.zero_add] at hSO
          have hcpi : ∀ (j : Nat) x, cpAt j x (hs.take i) = cpAt j x (hs.take b) := fun j x => by rw [htk, cpAt_app, cpAt_plain hrp]
          have hqal : q ∈ al := (mid.news q).2 ⟨(hdep q (by simpa using hcon)).1, (hdep q (by simpa using hcon)).2, cp0, hq0⟩
          obtain ⟨k, hk⟩ := List.mem_iff_getElem?.1 hqal
          have hent : (newL ps hs b al)[k]? = some ⟨some (ps q), cpAt q cp0 (hs.take i)⟩ := by
            simp only [newL, List.getElem?_map, hk, Option.map_some, hq0, hcpi]
          have hq' : (Lat L (hs.take b) ++ newL ps hs b al)[(Lat L (hs.take b)).length + k]? = some ⟨some (ps q), cpAt q cp0 (hs.take i)⟩ := by
            rw [List.getElem?_append_right (by omega), Nat.add_sub_cancel_left]; exact hent
          obtain ⟨hgd, hdst, hSO⟩ := hSO (Lat L (hs.take b) ++ newL ps hs b al) _ hq'
          obtain ⟨cs, cs', T, h1, h2, h3⟩ := hSO a W hst
          have hs1 := mid.st.store hq' h1 h3
          have htk1 : hs.take (i + 1) = hs.take i ++ [.stn q cp] := by rw [List.take_add_one, hhi]; rfl
          have hL1 : Lat L (hs.take (i + 1)) = Lat L (hs.take b) := by
            rw [htk1, Lat_append]
            simp only [Lat]
            rw [htk, Lat_app, Lat_plain hrp]
          have hnodA : al.Nodup := by
            have := mid.st.nodup
            rw [ks_append, ks_newL] at this
            exact nodup_of_map ps al (List.nodup_append.1 this).2.1
          have hN1 : newL ps hs (i + 1) al = (newL ps hs b al).set k ⟨some (ps q), cp⟩ := by
            apply List.ext_getElem?
            intro j
            rw [List.getElem?_set]
            by_cases e : k = j
            · subst e
              have hkl : k < (newL ps hs b al).length := (List.getElem?_eq_some_iff.1 hent).1
              rw [if_pos rfl, if_pos hkl]
              simp only [newL, List.getElem?_map, hk, Option.map_some, hq0]
              rw [htk1, cpAt_append]
              simp [cpAt]
            · rw [if_neg e]
              simp only [newL, List.getElem?_map]
              cases hj : al[j]? with
              | none => rfl
              | some x =>
                have hxq : x ≠ q := fun e2 => by
                  subst e2
                  obtain ⟨a1, a2⟩ := List.getElem?_eq_some_iff.1 hj
                  obtain ⟨b1, b2⟩ := List.getElem?_eq_some_iff.1 hk
                  exact e ((List.getElem_inj hnodA).1 (b2.trans a2.symm))
                simp only [Option.map_some]
                congr 2
                split
                · rw [htk1, cpAt_append, hcpi]
                  have : Nat.beq q x = false := by
                    cases hb : Nat.beq q x with
                    | false => rfl
                    | true => exact absurd (look_beq.1 hb).symm hxq
                  simp [cpAt, this]
                · rfl
          have hLL : Lat L (hs.take (i + 1)) ++ newL ps hs (i + 1) al = (Lat L (hs.take b) ++ newL ps hs b al).set ((Lat L (hs.take b)).length + k) ⟨some (ps q), cp⟩ := by
            rw [hL1, hN1, List.set_append_right _ _ (by omega), Nat.add_sub_cancel_left]
          have hkk : ks (Lat L (hs.take (i + 1)) ++ newL ps hs (i + 1) al) = ks (Lat L (hs.take b) ++ newL ps hs b al) := by rw [hLL]; exact ks_set (cp := cp) hq'
          have hpm : ps q ∈ ks (Lat L (hs.take b) ++ newL ps hs b al) := mem_ks.2 ⟨_, List.mem_of_getElem? hq', rfl⟩
          have hext : Ext (ks (Lat L (hs.take b) ++ newL ps hs b al) ++ c.A0) W (ks (Lat L (hs.take b) ++ newL ps hs b al) ++ c.A0) (W.setRow (ps q) cs') :=
            ⟨by simp, fun k _ ha => setRow_other W (ps q) k cs' (fun e => ha (e ▸ List.mem_append.2 (.inl hpm))), fun _ h _ => h⟩
          have hmid : Mid c n slots hs E L (listed.setIfInBounds i true) ps al (i + 1) (a.put o2.dst undef) (W.setRow (ps q) cs') := by
            rw [hdst]
            refine ⟨by rw [hLL]; exact hs1, fun j s' x σ hj hl hs' hx hσ => ?_, fun j => ?_, fun j x hx hxs => ?_, hin⟩
            · rw [hkk]
              by_cases e : i = j
              · subst e; rw [hhi] at hx; cases hx; cases hσ
              · rw [getD_set_ne false e] at hl
                obtain ⟨u, h5, h6⟩ := mid.done j s' x σ hj hl hs' hx hσ
                exact ⟨u, h5, σ.mono hext h6⟩
            · rw [mid.news j]
              by_cases e : i = j
              · subst e
                constructor
                · rintro ⟨_, h5, _⟩; rw [hunf] at h5; cases h5
                · rintro ⟨_, _, cp, h5⟩; rw [hhi] at h5; cases h5
              · rw [getD_set_ne false e]
            · by_cases e : i = j
              · subst e; exact ⟨fun _ => by omega, fun _ => hself⟩
              · rw [getD_set_ne false e, mid.stored j x hx hxs]
                constructor
                · intro _; omega
                · intro hj
                  rcases Nat.lt_or_ge j b with h5 | h5
                  · exact h5
                  · have : x ∈ r := by
                      have h6 : (hs.take i)[j]? = some x := by rw [List.getElem?_take, if_pos (by omega)]; exact hx
                      rw [htk, List.getElem?_append_right (by rw [List.length_take]; omega)] at h6
                      exact List.mem_of_getElem? h6
                    have := hrp x this
                    rw [hxs] at this; cases this
          rw [if_pos (by simp [Region.wanted, hgd])]
          refine wpIn_of_skip h2 ?_
          exact ih _ ps al (i + 1) _ _ hcnt inv' hmid

theorem Wp.draw {rid : Nat} {l : List Oper} (hm : c.P.follows .mixedOrders = true) (n : Nat) (slots : List (Option Nat)) (deps : List (List Nat)) (hs : List Hk) (sts : List Bool) (hB : drawB l.toArray n slots deps sts c.n = true) (hS : hs.map Hk.isSto = sts) (hE : disj E (slots.filterMap id) = true)
    (hlen : Nat.beq hs.length n = true) (hh : ∀ ps, Heads c l.toArray ps slots hs E L 0 l hs deps)
    (ht : ∀ ps : Nat → Nat, Sq c l.toArray Q (l.drop n) (zipP ps E 0 slots hs) (entsP ps hs (Lat L hs) 0 hs)) : Wp c Q (.region rid l.toArray true) E L := fun a W s => by
  subst hS
  refine wpIn_region_any hm ?_
  have hn : n ≤ l.toArray.size := by
    simp only [drawB, Bool.and_eq_true, decide_eq_true_eq] at hB
    exact hB.1.1.1.1.1.1.1.2
  have inv0 : HeadInv .any l.toArray n (Array.replicate l.toArray.size false) :=
    { size := by simp
      closed := fun j oj _ hl => by rw [getD_replicate_false] at hl; cases hl
      tail := fun t _ ht => by simp at ht; simp [ht] }
  have mid0 : Mid c n slots hs E L (Array.replicate l.toArray.size false) (fun _ => 0) [] 0 a W.drew :=
    { st := by simpa [Lat, newL] using s.world (Fr.drew W)
      done := fun j s h τ _ hl => by rw [getD_replicate_false] at hl; cases hl
      news := fun j => by
        constructor
        · intro h; cases h
        · rintro ⟨_, h, _⟩; rw [getD_replicate_false] at h; cases h
      stored := fun j h _ _ => by
        rw [getD_replicate_false]
        constructor
        · intro h; cases h
        · intro h; omega
      ble := Nat.zero_le _ }
  have h := draw_core (ops := l.toArray) (Q := Q) hB hE (look_beq.1 hlen) (by simpa using hh) (by simpa using ht) n (Array.replicate l.toArray.size false) (fun _ => 0) [] 0 a W.drew
    (Nat.le_trans (List.length_filter_le _ _) (by simp)) inv0 mid0
  rw [show n + (l.toArray.size - n) = l.toArray.size by omega] at h
  exact h

end
end Gv

namespace Gv
open Go
set_option linter.unusedVariables false
set_option linter.unusedSimpArgs false

/-! ### Types -/

class Ty (P : Program) (t : TypeId) (α : Type) [Rp α] : Prop where
  size : (P.info? t).map (·.size) = some (Rp.size α)
  und : ∃ d, P.underlying t = some d ∧ (match d with | .struct _ | .array _ _ => true | _ => false) = Rp.agg α

class Zr (P : Program) (t : TypeId) {α : outParam Type} [Rp α] (x : outParam α) : Prop where
  zero : ∃ i z, P.info? t = some i ∧ i.zero = some z ∧ ∀ A W, (VP.of x).holds A W z

theorem Ty.info {P t α} [Rp α] (h : Ty P t α) : ∃ i, P.info? t = some i ∧ i.size = Rp.size α := by
  have := h.size
  cases hi : P.info? t with
  | none => simp [hi] at this
  | some i => exact ⟨i, rfl, by simpa [hi] using this⟩

theorem Ty.isAgg {P t α} [Rp α] (h : Ty P t α) (W : World) : (isAgg t).run P W = .ok (Rp.agg α) W := by
  obtain ⟨d, hd, he⟩ := h.und
  unfold Go.isAgg
  rw [Sem.run_bind, run_underlying hd W]
  simp only [Result.andThen_ok]
  cases d <;> simp_all

theorem Ty.sizeOf {P t α} [Rp α] (h : Ty P t α) (W : World) : (Go.sizeOf t).run P W = .ok (Rp.size α) W := by
  obtain ⟨i, hi, hs⟩ := h.info
  simp [Go.sizeOf, typeInfo, hi, hs]

/-! ### Cells -/

theorem addr_add (b off j : Nat) : (⟨b, off, none⟩ : Addr).add j = ⟨b, off + j, none⟩ := by unfold Addr.add; split <;> simp_all

theorem run_loadVar_at {P : Program} {W : World} {b off : Nat} {cur : Array Value} {T t : TypeId} {fz : Nat × Nat} {α : Type} [Rp α] {A : List Nat} {x : α} (ty : Ty P t α)
    (hb : W.heap[b]? = some (.cells cur T fz)) (hs : off + Rp.size α ≤ cur.size) (hr : Rp.rep A W ((cur.toList.drop off).take (Rp.size α)) x) :
    ∃ v, (loadVar t ⟨b, off, none⟩).run P W = .ok v W ∧ (VP.of x).holds A W v := by
  have hl := Rp.len hr
  have hcell : ∀ j v, ((cur.toList.drop off).take (Rp.size α))[j]? = some v → W.cell? ((⟨b, off, none⟩ : Addr).add j) = some v := by
    intro j v hv
    rw [addr_add, cell_of_row W b (off + j) cur T fz hb]
    rw [List.getElem?_take] at hv
    split at hv
    · rw [List.getElem?_drop] at hv; simpa using hv
    · cases hv
  cases ha : Rp.agg α with
  | true =>
    have h1 := run_loadCells_list (P := P) W ⟨b, off, none⟩ _ hcell
    rw [hl] at h1
    refine ⟨.agg ((cur.toList.drop off).take (Rp.size α)).toArray, ?_, ?_, ?_⟩
    · simp [loadVar, Sem.run_bind, ty.isAgg, ty.sizeOf, ha, h1]
    · simp [shaped, ha]
    · simpa [Value.cells] using hr
  | false =>
    have h1 : Rp.size α = 1 := Rp.flat ha
    rw [h1] at hl
    obtain ⟨v, hv⟩ := List.length_eq_one_iff.1 hl
    have h2 := hcell 0 v (by rw [h1, hv]; rfl)
    have h3 : v.oneCell' = true := Rp.one hr v (by rw [h1, hv]; simp)
    refine ⟨v, ?_, ?_, ?_⟩
    · rw [addr_add, Nat.add_zero] at h2
      simp [loadVar, Sem.run_bind, ty.isAgg, ha, h2]
    · simp [shaped, ha, h3]
    · rw [cells_one h3]
      rw [h1, hv] at hr
      simpa using hr

def splice (cur : List Value) (off : Nat) (ds : List Value) : List Value := cur.take off ++ ds ++ cur.drop (off + ds.length)

theorem of_cells {A W v} {α : Type} [Rp α] {x : α} (h : (VP.of x).holds A W v) : v.cells.toList.length = Rp.size α ∧ ∀ u ∈ v.cells.toList, u.oneCell' = true := ⟨Rp.len h.2, Rp.one h.2⟩

theorem Mk.not {W : World} {b i : Nat} {cs : Array Value} {T : TypeId} {fz : Nat × Nat} (h : Mk fz cs.size) (hb : W.heap[b]? = some (.cells cs T fz)) (hi : i < cs.size) : W.frozen? ⟨b, i, none⟩ = false := by
  obtain ⟨lo, hi'⟩ := fz
  simp only [World.frozen?, hb, Bool.and_eq_false_iff, decide_eq_false_iff_not]
  rcases h with h | h
  · cases h; right; omega
  · left; simp only at h; omega
theorem run_storeCells_mk (P : Program) (g o : Nat) (t : TypeId) (fz : Nat × Nat) : ∀ (vs : List Value) (i : Nat) (cur : Array Value) (W : World), Mk fz cur.size → W.heap[g]? = some (.cells cur t fz) → o + i + vs.length ≤ cur.size → (∀ v ∈ vs, v.oneCell' = true) →
    (storeCells ⟨g, o, none⟩ vs i).run P W = .ok () (W.setRow g (splice cur.toList (o + i) vs).toArray)
  | [], i, cur, W, _, hg, _, _ => by
    have e : splice cur.toList (o + i) [] = cur.toList := by simp [splice]
    rw [e, Array.toArray_toList, setRow_self W g cur t fz hg]
    rfl
  | v :: r, i, cur, W, hz, hg, hl, h1 => by
    have hi : o + i < cur.size := by simp only [List.length_cons] at hl; omega
    have hst : (store ((⟨g, o, none⟩ : Addr).add i) v).run P W = .ok () (W.setRow g (cur.setIfInBounds (o + i) v)) := by
      rw [addr_add, run_store P W _ v _ (h1 v (by simp)), cell_of_row W g (o + i) cur t fz hg, Array.getElem?_eq_getElem hi]
      simp [hz.not hg hi, setCell_eq_setRow W g (o + i) cur t fz v hg]
    have ih := run_storeCells_mk P g o t fz r (i + 1) (cur.setIfInBounds (o + i) v) (W.setRow g (cur.setIfInBounds (o + i) v)) (by simpa using hz) (setRow_heap W g cur _ t _ hg) (by simp only [List.length_cons] at hl; simp; omega) fun x hx => h1 x (by simp [hx])
    have e : splice (cur.setIfInBounds (o + i) v).toList (o + (i + 1)) r = splice cur.toList (o + i) (v :: r) := by
      have hlt : o + i < cur.toList.length := by simpa using hi
      simp only [splice, Array.toList_setIfInBounds, List.length_cons, ← Nat.add_assoc]
      rw [List.take_add_one, List.getElem?_set_self hlt, List.take_set_of_le (Nat.le_refl _), List.drop_set_of_lt (by omega)]
      simp only [Option.toList_some, List.append_assoc, List.cons_append, List.nil_append]
      congr 4
      omega
    simp only [storeCells, Sem.run_bind, hst, Result.andThen_ok, ih, setRow_setRow, e]
theorem run_storeVar_mk {P : Program} {W : World} {b off : Nat} {cur : Array Value} {T t : TypeId} {fz : Nat × Nat} {α : Type} [Rp α] {A : List Nat} {x : α} {v : Value} (ty : Ty P t α) (hz : Mk fz cur.size)
    (hb : W.heap[b]? = some (.cells cur T fz)) (hs : off + Rp.size α ≤ cur.size) (hv : (VP.of x).holds A W v) :
    (storeVar t ⟨b, off, none⟩ v).run P W = .ok () (W.setRow b (splice cur.toList off v.cells.toList).toArray) := by
  obtain ⟨hl, h1⟩ := of_cells hv
  have h2 := run_storeCells_mk P b off T fz v.cells.toList 0 cur W hz hb (by rw [hl]; omega) h1
  have hsz : v.cells.size = Rp.size α := by simpa using hl
  simp only [Nat.add_zero] at h2
  simp only [storeVar, Sem.run_bind, ty.sizeOf, Result.andThen_ok, hsz]
  simp only [ne_eq, not_true_eq_false, ↓reduceIte, Sem.run_pure, Sem.run_bind, Result.andThen_ok]
  simpa [splice] using h2
theorem run_storeVar_at {P : Program} {W : World} {b off : Nat} {cur : Array Value} {T t : TypeId} {α : Type} [Rp α] {A : List Nat} {x : α} {v : Value} (ty : Ty P t α)
    (hb : W.heap[b]? = some (.cells cur T (0, 0))) (hs : off + Rp.size α ≤ cur.size) (hv : (VP.of x).holds A W v) :
    (storeVar t ⟨b, off, none⟩ v).run P W = .ok () (W.setRow b (splice cur.toList off v.cells.toList).toArray) := run_storeVar_mk ty (.inl rfl) hb hs hv

/-! ### Lenses: a part of a variable -/

structure Lens (β γ : Type) [Rp β] [Rp γ] where
  off : Nat
  get : β → γ
  set : β → γ → β
  inb : off + Rp.size γ ≤ Rp.size β
  get_rep : ∀ {A W cs b}, Rp.rep A W cs b → Rp.rep A W ((cs.drop off).take (Rp.size γ)) (get b)
  set_rep : ∀ {A W cs b ds g}, Rp.rep A W cs b → Rp.rep A W ds g → Rp.rep A W (cs.take off ++ ds ++ cs.drop (off + Rp.size γ)) (set b g)

@[reducible] def Lens.id (β : Type) [Rp β] : Lens β β where
  off := 0
  get b := b
  set _ g := g
  inb := by simp
  get_rep h := by
    have := Rp.len h
    rw [List.drop_zero, ← this, List.take_length]; exact h
  set_rep h hg := by
    have h1 := Rp.len h
    rw [List.take_zero, List.nil_append, Nat.zero_add, ← h1, List.drop_length, List.append_nil]; exact hg

theorem take_drop_in (cs : List Value) (o1 s1 o2 s2 : Nat) (h : o2 + s2 ≤ s1) : (((cs.drop o1).take s1).drop o2).take s2 = (cs.drop (o1 + o2)).take s2 := by
  apply List.ext_getElem?
  intro i
  simp only [List.getElem?_take, List.getElem?_drop]
  split
  · rw [if_pos (by omega)]; congr 1; omega
  · rfl

theorem splice_in (cs ds : List Value) (o1 s1 o2 s2 : Nat) (h : o2 + s2 ≤ s1) (hc : o1 + s1 ≤ cs.length) :
    cs.take o1 ++ (((cs.drop o1).take s1).take o2 ++ ds ++ ((cs.drop o1).take s1).drop (o2 + s2)) ++ cs.drop (o1 + s1) = cs.take (o1 + o2) ++ ds ++ cs.drop (o1 + o2 + s2) := by
  have e1 : cs.take (o1 + o2) = cs.take o1 ++ ((cs.drop o1).take s1).take o2 := by
    rw [List.take_take, Nat.min_eq_left (by omega), List.take_add]
  have e2 : cs.drop (o1 + o2 + s2) = ((cs.drop o1).take s1).drop (o2 + s2) ++ cs.drop (o1 + s1) := by
    apply List.ext_getElem?
    intro i
    simp only [List.getElem?_append, List.getElem?_drop, List.getElem?_take, List.length_drop, List.length_take]
    split
    · rw [if_pos (by omega)]; congr 1; omega
    · congr 1; omega
  rw [e1, e2]
  simp only [List.append_assoc]

@[reducible] def Lens.comp {α β γ : Type} [Rp α] [Rp β] [Rp γ] (l : Lens α β) (m : Lens β γ) : Lens α γ where
  off := l.off + m.off
  get b := m.get (l.get b)
  set b g := l.set b (m.set (l.get b) g)
  inb := by have := l.inb; have := m.inb; omega
  get_rep h := by
    have := m.get_rep (l.get_rep h)
    rwa [take_drop_in _ _ _ _ _ m.inb] at this
  set_rep h hg := by
    have h1 := l.set_rep h (m.set_rep (l.get_rep h) hg)
    have h2 := Rp.len h
    have h3 := l.inb
    rwa [splice_in _ _ _ _ _ _ m.inb (by omega)] at h1

/-! #### Arrays -/

/-- element k -/
def vget {α : Type} [Inhabited α] {n : Nat} (v : Vector α n) (k : Nat) : α := v[k]?.getD default
def vset {α : Type} {n : Nat} (v : Vector α n) (k : Nat) (x : α) : Vector α n := v.setIfInBounds k x

instance {α : Type} [Inhabited α] {n : Nat} : Inhabited (Vector α n) := ⟨Vector.replicate n default⟩

instance instRpVector {α : Type} [Rp α] [Inhabited α] {n : Nat} : Rp (Vector α n) where
  size := n * Rp.size α
  agg := true
  rep A W cs v := Reps A W cs v.toList
  len h := by rw [h.1]; simp
  one h := by
    intro u hu
    obtain ⟨j, hj⟩ := List.mem_iff_getElem?.1 hu
    have hlt := (List.getElem?_eq_some_iff.1 hj).1
    have h1 := h.1
    by_cases hs : Rp.size α = 0
    · rw [hs, Nat.mul_zero] at h1; omega
    · have hp : 0 < Rp.size α := Nat.pos_of_ne_zero hs
      have hi : j / Rp.size α < _ := (Nat.div_lt_iff_lt_mul hp).2 (by rw [h1] at hlt; exact hlt)
      refine Rp.one (h.2 _ hi) u (List.mem_iff_getElem?.2 ⟨j % Rp.size α, ?_⟩)
      rw [List.getElem?_take, if_pos (Nat.mod_lt _ hp), List.getElem?_drop, Nat.mul_comm, Nat.div_add_mod]
      exact hj
  flat h := by cases h
  mono e h := h.mono e

theorem vget_toList {α : Type} [Inhabited α] {n : Nat} (v : Vector α n) {k : Nat} (h : k < n) : vget v k = v.toList[k]'(by simpa using h) := by simp [vget, h]

theorem reps_set {α : Type} [Rp α] {A W} {cs ds : List Value} {xs : List α} {x : α} {k : Nat} (h : Reps A W cs xs) (hk : k < xs.length) (hd : Rp.rep A W ds x) :
    Reps A W (cs.take (k * Rp.size α) ++ ds ++ cs.drop (k * Rp.size α + Rp.size α)) (xs.set k x) := by
  have hl := h.1
  have hdl := Rp.len hd
  have hle : (k + 1) * Rp.size α ≤ xs.length * Rp.size α := Nat.mul_le_mul_right _ hk
  rw [Nat.succ_mul] at hle
  refine ⟨by simp only [List.length_append, List.length_take, List.length_drop, List.length_set]; omega, fun i hi => ?_⟩
  rw [List.length_set] at hi
  by_cases e : k = i
  · subst e
    have : ((cs.take (k * Rp.size α) ++ ds ++ cs.drop (k * Rp.size α + Rp.size α)).drop (k * Rp.size α)).take (Rp.size α) = ds := by
      rw [List.append_assoc, List.drop_append_of_le_length (by simp only [List.length_take]; omega), List.drop_of_length_le (by simp only [List.length_take]; omega), List.nil_append,
        List.take_append_of_le_length (by omega), List.take_of_length_le (by omega)]
    rw [this]
    simpa using hd
  · have h1 := h.2 i hi
    have : ((cs.take (k * Rp.size α) ++ ds ++ cs.drop (k * Rp.size α + Rp.size α)).drop (i * Rp.size α)).take (Rp.size α) = (cs.drop (i * Rp.size α)).take (Rp.size α) := by
      apply List.ext_getElem?
      intro j
      simp only [List.getElem?_take, List.getElem?_drop]
      split
      · rename_i hj
        simp only [List.getElem?_append, List.length_append, List.length_take, List.getElem?_take, List.getElem?_drop]
        rcases Nat.lt_or_gt_of_ne e with h2 | h2
        · have : (k + 1) * Rp.size α ≤ i * Rp.size α := Nat.mul_le_mul_right _ h2
          rw [Nat.succ_mul] at this
          rw [if_neg (by omega)]; congr 1; omega
        · have : (i + 1) * Rp.size α ≤ k * Rp.size α := Nat.mul_le_mul_right _ h2
          rw [Nat.succ_mul] at this
          rw [if_pos (by omega), if_pos (by omega), if_pos (by omega)]
      · rfl
    rw [this]
    simpa [List.getElem_set_ne e] using h1

@[reducible] def Lens.idx {α : Type} [Rp α] [Inhabited α] (n k : Nat) (hk : k < n) : Lens (Vector α n) α where
  off := k * Rp.size α
  get v := vget v k
  set v x := vset v k x
  inb := by
    show k * Rp.size α + Rp.size α ≤ n * Rp.size α
    rw [← Nat.succ_mul]; exact Nat.mul_le_mul_right _ hk
  get_rep h := by
    rename_i b
    rw [vget_toList b hk]
    exact h.2 k (by simpa using hk)
  set_rep h hd := by
    rename_i b ds g
    have := reps_set h (k := k) (by simpa using hk) hd
    show Reps _ _ _ (vset b k g).toList
    rw [show (vset b k g).toList = b.toList.set k g by simp [vset]]
    exact this

/-- an index into an array of n elements; none: out of range -/
def idx (n : Nat) (i : Int) : Option Nat := if 0 ≤ i ∧ i < n then some i.toNat else none

theorem idx_some {n : Nat} {i : Int} {k : Nat} (h : idx n i = some k) : k < n ∧ i = k := by
  unfold idx at h
  split at h
  · rename_i hi
    simp only [Option.some.injEq] at h
    omega
  · cases h

section
variable {c : Cx} {E : List (Nat × VP)} {L : List Ent} {ops : Array Oper} {Q : Exit → Act → World → Prop}
variable {d : Option Tmp} {ty : TypeId} {pos : String} {af : Array Edge} {g : Option (Nat × Bool)}

/-! ### Operations that compute -/

theorem r_move {x : Operand} {τ : VP} (h : Look c E L x τ) : HR c E L ⟨d, .move x, ty, pos, af, g⟩ τ := .pure fun a W s => ⟨_, rfl, h a W s⟩
theorem r_asg {x : Operand} {τ : VP} (h : Look c E L x τ) : HR c E L ⟨d, .assign x, ty, pos, af, g⟩ τ := .pure fun a W s => ⟨_, rfl, h a W s⟩

theorem r_or {x y : Operand} {b e : Bool} {p : Prop} (hx : Look c E L x (.of b)) (hy : Look c E L y (.cond p (.of e))) (hp : b = false → p) :
    HR c E L ⟨d, .pick x (.const (.bool true)) y, ty, pos, af, g⟩ (.of (b || e)) := .pure fun a W s => by
  have h1 := of_bool.1 (hx a W s)
  cases b with
  | true => exact ⟨.bool true, by simp only [execOp, h1, asBool]; rfl, of_bool.2 rfl⟩
  | false =>
    have h2 := of_bool.1 ((hy a W s).1 (hp rfl))
    exact ⟨.bool e, by simp [execOp, asBool, h1, h2], of_bool.2 rfl⟩

theorem r_and {x y : Operand} {b e : Bool} {p : Prop} (hx : Look c E L x (.of b)) (hy : Look c E L y (.cond p (.of e))) (hp : b = true → p) :
    HR c E L ⟨d, .pick x y (.const (.bool false)), ty, pos, af, g⟩ (.of (b && e)) := .pure fun a W s => by
  have h1 := of_bool.1 (hx a W s)
  cases b with
  | false => exact ⟨.bool false, by simp only [execOp, h1, asBool]; rfl, of_bool.2 rfl⟩
  | true =>
    have h2 := of_bool.1 ((hy a W s).1 (hp rfl))
    exact ⟨.bool e, by simp [execOp, asBool, h1, h2], of_bool.2 rfl⟩

theorem r_not {x : Operand} {b : Bool} {t : TypeId} (hx : Look c E L x (.of b)) : HR c E L ⟨d, .unOp .not t x, ty, pos, af, g⟩ (.of (!b)) := .pure fun a W s =>
  ⟨.bool (!b), by simp [execOp, Op.unary, of_bool.1 (hx a W s)], of_bool.2 rfl⟩

/-! ### Memory -/

theorem r_load {x : Operand} {t : TypeId} {i p o : Nat} {β γ : Type} [Rp β] [Rp γ] {b : β} (l : Lens β γ) {r : γ} (tt : Ty c.P t γ) (hx : Look c E L x (.eq (.pointer (some ⟨p, o, none⟩))))
    (hL : L[i]? = some ⟨some p, .var b⟩) (ho : o = l.off) (hr : l.get b = r) : HR c E L ⟨d, .load t x, ty, pos, af, g⟩ (.of r) := .pure fun a W s => by
  subst ho
  subst hr
  obtain ⟨ob, hob, cs, T, rfl, hrep⟩ := s.own _ (List.mem_of_getElem? hL)
  have h1 : cs.toList.length = Rp.size β := Rp.len hrep
  obtain ⟨v, h2, h3⟩ := run_loadVar_at (A := ks L ++ c.A0) tt hob (by have := l.inb; simp at h1; omega) (l.get_rep hrep)
  refine ⟨v, ?_, h3⟩
  have h4 : a.eval x = _ := hx a W s
  simp [execOp, Instr.loadAt, Instr.sureAddr, h4, h2]

theorem r_loadp {x : Operand} {t : TypeId} {γ : Type} [Rp γ] {r : γ} (tt : Ty c.P t γ) (hx : Look c E L x (.ptr r)) : HR c E L ⟨d, .load t x, ty, pos, af, g⟩ (.of r) := .pure fun a W s => by
  obtain ⟨b, off, cur, T, fz, h4, hb, hh, hs, hr⟩ := hx a W s
  obtain ⟨v, h2, h3⟩ := run_loadVar_at tt hh hs hr
  exact ⟨v, by simp [execOp, Instr.loadAt, Instr.sureAddr, h4, h2], h3⟩

/-- field f of struct type s lies o cells behind its head and is not empty -/
structure FdA (P : Program) (s : TypeId) (f o : Nat) : Prop where
  at_ : ∃ fs fd i, P.underlying s = some (.struct fs) ∧ fs[f]? = some fd ∧ fd.offset = o ∧ P.info? fd.type = some i ∧ i.size ≠ 0

theorem run_fieldAt {P : Program} {s : TypeId} {f o : Nat} (h : FdA P s f o) (p off : Nat) (W : World) :
    (Instr.fieldAt s (.pointer (some ⟨p, off, none⟩)) f).run P W = .ok (.pointer (some ⟨p, off + o, none⟩)) W := by
  obtain ⟨fs, fd, i, h1, h2, h3, h4, h5⟩ := h.at_
  simp [Instr.fieldAt, run_underlying h1, h2, Instr.sureAddr, fieldPlace, Go.sizeOf, typeInfo, h4, h5, addr_add, h3]

theorem r_fa {x : Operand} {s f o p off : Nat} (fd : FdA c.P s f o) (hx : Look c E L x (.eq (.pointer (some ⟨p, off, none⟩)))) :
    HR c E L ⟨d, .fieldAddr s x f, ty, pos, af, g⟩ (.eq (.pointer (some ⟨p, off + o, none⟩))) := .pure fun a W st => by
  have h4 : a.eval x = _ := hx a W st
  exact ⟨_, by simp [execOp, h4, run_fieldAt fd], rfl⟩

theorem r_fap {x : Operand} {s f o : Nat} {β γ : Type} [Rp β] [Rp γ] {b : β} (l : Lens β γ) {r : γ} (fd : FdA c.P s f o) (hx : Look c E L x (.ptr b)) (ho : l.off = o) (hr : l.get b = r) :
    HR c E L ⟨d, .fieldAddr s x f, ty, pos, af, g⟩ (.ptr r) := .pure fun a W st => by
  subst ho
  subst hr
  obtain ⟨q, off, cur, T, fz, h4, hb, hh, hs, hrep⟩ := hx a W st
  refine ⟨.pointer (some ⟨q, off + l.off, none⟩), by simp [execOp, h4, run_fieldAt fd], q, off + l.off, cur, T, fz, rfl, hb, hh, by have := l.inb; omega, ?_⟩
  have := l.get_rep hrep
  rwa [take_drop_in _ _ _ _ _ l.inb] at this

/-- an array type of n elements of s cells each -/
class Ar (P : Program) (t : TypeId) (n s : outParam Nat) : Prop where
  at_ : ∃ e i, P.underlying t = some (.array n e) ∧ P.info? e = some i ∧ i.size = s

theorem run_indexAt_arr {P : Program} {t n s : Nat} (h : Ar P t n s) (p off : Nat) (k : Nat) (hk : k < n) (W : World) :
    (Instr.indexAt t (.pointer (some ⟨p, off, none⟩)) (.int .i64 (k : Int))).run P W = .ok (.pointer (some ⟨p, off + k * s, none⟩)) W := by
  obtain ⟨e, i, h1, h2, h3⟩ := h.at_
  simp [Instr.indexAt, asIntOf, run_underlying h1, Instr.sureAddr, Go.sizeOf, typeInfo, h2, h3, hk, addr_add]

theorem r_ia {x y : Operand} {t n s p off : Nat} {i : Int} {k : Nat} (ar : Ar c.P t n s) (hx : Look c E L x (.eq (.pointer (some ⟨p, off, none⟩)))) (hy : Look c E L y (.of i)) (hk : k < n ∧ i = k) :
    HR c E L ⟨d, .indexAddr t x y, ty, pos, af, g⟩ (.eq (.pointer (some ⟨p, off + k * s, none⟩))) := .pure fun a W st => by
  have h4 : a.eval x = _ := hx a W st
  have h5 := of_int.1 (hy a W st)
  obtain ⟨h6, rfl⟩ := hk
  exact ⟨_, by simp [execOp, h4, h5, run_indexAt_arr ar p off k h6], rfl⟩

theorem r_iap {x y : Operand} {t n s : Nat} {i : Int} {k : Nat} {α : Type} [Rp α] [Inhabited α] {v : Vector α n} (ar : Ar c.P t n s) (hs : Rp.size α = s) (hx : Look c E L x (.ptr v)) (hy : Look c E L y (.of i)) (hk : k < n ∧ i = k) :
    HR c E L ⟨d, .indexAddr t x y, ty, pos, af, g⟩ (.ptr (vget v k)) := .pure fun a W st => by
  subst hs
  obtain ⟨q, off, cur, T, fz, h4, hb, hh, hsz, hrep⟩ := hx a W st
  have h5 := of_int.1 (hy a W st)
  obtain ⟨h6, rfl⟩ := hk
  have hin := (Lens.idx (α := α) n k h6).inb
  refine ⟨_, by simp [execOp, h4, h5, run_indexAt_arr ar q off k h6], q, off + k * Rp.size α, cur, T, fz, rfl, hb, hh, ?_, ?_⟩
  · have : off + n * Rp.size α ≤ cur.size := hsz
    simp only [Lens.idx] at hin
    have : k * Rp.size α + Rp.size α ≤ n * Rp.size α := hin
    omega
  · have := (Lens.idx (α := α) n k h6).get_rep hrep
    rwa [take_drop_in _ _ _ _ _ hin] at this

theorem Sq.alloc {t : TypeId} {rest : List Oper} {dd : Nat} {α : Type} [Rp α] {z : α} (zr : Zr c.P t z) (hn : Nat.blt dd c.n = true)
    (k : ∀ p, Sq c ops Q rest ((dd, .eq (.pointer (some ⟨p, 0, none⟩))) :: E) (⟨some p, .var z⟩ :: L)) : Sq c ops Q (⟨some dd, .alloc t, ty, pos, af, none⟩ :: rest) E L := fun a W s => by
  obtain ⟨i, zv, h1, h2, h3⟩ := zr.zero
  refine wpList_op rfl (R := fun v W' => v = .pointer (some ⟨W.heap.size, 0, none⟩) ∧ W' = W.alloc (.cells zv.cells t)) (.of_run ?_ ⟨rfl, rfl⟩) fun v W' ⟨hv, hw⟩ => ?_
  · simp [execOp, Instr.alloc, zeroValue, typeInfo, h1, h2, newVar, newRow]
  · subst hv
    subst hw
    exact k _ _ _ ((s.alloc (cp := .var z) ⟨zv.cells, t, rfl, (h3 _ _).2⟩).put (by simpa using hn) rfl)

theorem Sq.box {t : TypeId} {x : Operand} {rest : List Oper} {dd : Nat} {α : Type} [Rp α] {z : α} (hx : Look c E L x (.of z)) (hn : Nat.blt dd c.n = true)
    (k : ∀ p, Sq c ops Q rest ((dd, .eq (.pointer (some ⟨p, 0, none⟩))) :: E) (⟨some p, .var z⟩ :: L)) : Sq c ops Q (⟨some dd, .box t x, ty, pos, af, none⟩ :: rest) E L := fun a W s => by
  refine wpList_op rfl (R := fun v W' => v = .pointer (some ⟨W.heap.size, 0, none⟩) ∧ W' = W.alloc (.cells (a.eval x).cells t)) (.of_run ?_ ⟨rfl, rfl⟩) fun v W' ⟨hv, hw⟩ => ?_
  · simp [execOp, Instr.box, newVar, newRow]
  · subst hv
    subst hw
    exact k _ _ _ ((s.alloc (cp := .var z) ⟨_, t, rfl, (hx a W s).2⟩).put (by simpa using hn) rfl)

theorem Sq.store {x y : Operand} {t : TypeId} {rest : List Oper} {i p o : Nat} {β γ : Type} [Rp β] [Rp γ] {b b' : β} {v : γ} (l : Lens β γ) (tt : Ty c.P t γ) (hx : Look c E L x (.eq (.pointer (some ⟨p, o, none⟩))))
    (hy : Look c E L y (.of v)) (hL : L[i]? = some ⟨some p, .var b⟩) (ho : o = l.off) (hb : l.set b v = b')
    (k : Sq c ops Q rest E (L.set i ⟨some p, .var b'⟩)) : Sq c ops Q (⟨none, .store t x y, ty, pos, af, none⟩ :: rest) E L := fun a W s => by
  subst ho
  subst hb
  obtain ⟨ob, hob, cs, T, rfl, hrep⟩ := s.own _ (List.mem_of_getElem? hL)
  have h1 : cs.toList.length = Rp.size β := Rp.len hrep
  have hin := l.inb
  have hv := hy a W s
  have h2 := run_storeVar_at (A := ks L ++ c.A0) tt hob (off := l.off) (by simp at h1; omega) hv
  have h4 : a.eval x = _ := hx a W s
  refine wpList_op rfl (R := fun v W' => W' = W.setRow p (splice cs.toList l.off (a.eval y).cells.toList).toArray) (.of_skip ?_ rfl) fun v W' hw => ?_
  · simp [execOp, Instr.storeAt, Instr.sureAddr, h4, h2]
  · subst hw
    refine k _ _ (s.store hL hob ?_)
    refine ⟨_, T, rfl, ?_⟩
    have := l.set_rep hrep hv.2
    simpa [splice, Rp.len hv.2] using this

/-! ### Calls -/

def Looks (c : Cx) (E : List (Nat × VP)) (L : List Ent) : List Operand → List VP → Prop
  | [], [] => True
  | x :: xs, τ :: τs => Look c E L x τ ∧ Looks c E L xs τs
  | _, _ => False

theorem Looks.holds : ∀ {xs : List Operand} {τs : List VP}, Looks c E L xs τs → ∀ a W, St c E L a W → HoldsAll (ks L ++ c.A0) W τs (xs.map a.eval)
  | [], [], _, _, _, _ => .nil
  | x :: xs, τ :: τs, h, a, W, s => .cons (h.1 a W s) (h.2.holds a W s)
  | [], _ :: _, h, _, _, _ => h.elim
  | _ :: _, [], h, _, _, _ => h.elim

/-- the program has a function f, with a body -/
structure En (P : Program) (f : FuncId) : Prop where
  at_ : ∃ fn, P.funcs[f]? = some fn ∧ fn.body.isNone = false ∧ (fn.name == "runtime.NumGoroutine") = false

theorem En.run {P : Program} {f : FuncId} (h : En P f) (args : Array Value) (W : World) : (callFunc f args).run P W = .ok (.enter f args) W := by
  obtain ⟨fn, h1, h2, h3⟩ := h.at_
  simp only [callFunc, Sem.run_bind, run_program, Result.andThen_ok, h1, h3, h2]
  rfl

theorem r_call {f : FuncId} {xs : List Operand} {ats : Array TypeId} {τs : List VP} {ρ : VP} (en : En c.P f) (h : Meets c.P f τs ρ) (hx : Looks c E L xs τs) :
    HR c E L ⟨d, .call ⟨.value (.func f), xs.toArray, ats⟩, ty, pos, af, g⟩ ρ := fun a W s => by
  refine .of_enter (f := f) (args := (xs.map a.eval).toArray) (W' := W) ?_ (h _ W _ s.all_lt (hx.holds a W s))
  simp [execOp, resolve, Deferred.ofValue, Act.eval, invoke, en.run]

/-! ### Values of structs -/

/-- field f of struct type s has type t and lies at o -/
structure Fv (P : Program) (s f t o : Nat) : Prop where
  at_ : ∃ fs fd, P.underlying s = some (.struct fs) ∧ fs[f]? = some fd ∧ fd.offset = o ∧ fd.type = t

theorem r_ext {x : Operand} {i : Nat} {τs : List VP} {τ : VP} (hx : Look c E L x (.tup τs)) (hi : τs[i]? = some τ) : HR c E L ⟨d, .extract x i, ty, pos, af, g⟩ τ := .pure fun a W st => by
  obtain ⟨vs, h1, h2⟩ := hx a W st
  have get : ∀ {τs : List VP} {vs : List Value}, HoldsAll (ks L ++ c.A0) W τs vs → ∀ (i : Nat) (τ : VP), τs[i]? = some τ → ∃ v, vs[i]? = some v ∧ τ.holds (ks L ++ c.A0) W v := by
    intro τs vs h
    induction h with
    | nil => intro i τ h; simp at h
    | cons h1 _ ih =>
      intro i τ h
      cases i with
      | zero => simp only [List.getElem?_cons_zero, Option.some.injEq] at h; subst h; exact ⟨_, rfl, h1⟩
      | succ i => simp only [List.getElem?_cons_succ] at h ⊢; exact ih i τ h
  obtain ⟨v, h3, h4⟩ := get h2 i τ hi
  refine ⟨v, ?_, h4⟩
  have h5 : vs[i]? = some v := by simpa using h3
  simp [execOp, Instr.extract, h1, h5]

end
end Gv

namespace Gv
open Go
set_option linter.unusedVariables false
set_option linter.unusedSimpArgs false

/-- Go's int wraps -/
def w64 (x : Int) : Int := IntKind.i64.wrap x
theorem w64_in {x : Int} (h : -9223372036854775808 ≤ x) (h' : x ≤ 9223372036854775807) : w64 x = x := by
  unfold w64
  rw [IntKind.wrap_i64]
  omega
def ior (a b : Int) : Int := w64 (BitVec.ofInt 64 a ||| BitVec.ofInt 64 b).toNat
def ishl (a : Int) (n : Nat) : Int := w64 (a * 2 ^ min n 64)
/-- none: division by zero -/
def divM (a b : Int) : Option Int := if b = 0 then none else some (w64 (a.tdiv b))
def modM (a b : Int) : Option Int := if b = 0 then none else some (a.tmod b)
/-- a count of bits; none: negative -/
def cntM (b : Int) : Option Nat := if b < 0 then none else some b.toNat
theorem divM_some {a b r : Int} (h : divM a b = some r) : b ≠ 0 ∧ w64 (a.tdiv b) = r := by unfold divM at h; split at h <;> simp_all
theorem modM_some {a b r : Int} (h : modM a b = some r) : b ≠ 0 ∧ a.tmod b = r := by unfold modM at h; split at h <;> simp_all
theorem cntM_some {b : Int} {n : Nat} (h : cntM b = some n) : 0 ≤ b ∧ b.toNat = n := by unfold cntM at h; split at h <;> simp_all

theorem wrap_u8 (n : Int) : IntKind.u8.wrap n = n % 256 := by simp [IntKind.wrap, IntKind.signed, IntKind.bits]
theorem wrap_u64 (n : Int) : IntKind.u64.wrap n = n % 18446744073709551616 := by simp [IntKind.wrap, IntKind.signed, IntKind.bits]
theorem run_shl (P : Program) (W : World) (k yk : IntKind) (a b : Int) (h : 0 ≤ b) : (Op.shift .shl k a yk b).run P W = .ok (.int k (k.wrap (a * 2 ^ min b.toNat k.bits))) W := by
  unfold Op.shift
  rw [if_neg (by omega)]
  rfl
theorem run_shr (P : Program) (W : World) (k yk : IntKind) (a b : Int) (h : 0 ≤ b) : (Op.shift .shr k a yk b).run P W = .ok (.int k (a.fdiv (2 ^ min b.toNat k.bits))) W := by
  unfold Op.shift
  rw [if_neg (by omega)]
  rfl
section
variable {c : Cx} {E : List (Nat × VP)} {L : List Ent}
variable {d : Option Tmp} {ty : TypeId} {pos : String} {af : Array Edge} {g : Option (Nat × Bool)} {x y : Operand} {t t2 : TypeId}

theorem r_add {a b : Int} (hx : Look c E L x (.of a)) (hy : Look c E L y (.of b)) : HR c E L ⟨d, .binOp .add t x y t2, ty, pos, af, g⟩ (.of (w64 (a + b))) := .pure fun A W s =>
  ⟨.int .i64 (w64 (a + b)), by simp [execOp, eqGuard, binOp, Op.intArith, of_int.1 (hx A W s), of_int.1 (hy A W s), w64], of_int.2 rfl⟩
theorem r_sub {a b : Int} (hx : Look c E L x (.of a)) (hy : Look c E L y (.of b)) : HR c E L ⟨d, .binOp .sub t x y t2, ty, pos, af, g⟩ (.of (w64 (a - b))) := .pure fun A W s =>
  ⟨.int .i64 (w64 (a - b)), by simp [execOp, eqGuard, binOp, Op.intArith, of_int.1 (hx A W s), of_int.1 (hy A W s), w64], of_int.2 rfl⟩
theorem r_mul {a b : Int} (hx : Look c E L x (.of a)) (hy : Look c E L y (.of b)) : HR c E L ⟨d, .binOp .mul t x y t2, ty, pos, af, g⟩ (.of (w64 (a * b))) := .pure fun A W s =>
  ⟨.int .i64 (w64 (a * b)), by simp [execOp, eqGuard, binOp, Op.intArith, of_int.1 (hx A W s), of_int.1 (hy A W s), w64], of_int.2 rfl⟩
theorem r_neg {a : Int} (hx : Look c E L x (.of a)) : HR c E L ⟨d, .unOp .neg t x, ty, pos, af, g⟩ (.of (w64 (0 - a))) := .pure fun A W s =>
  ⟨.int .i64 (w64 (0 - a)), by simp [execOp, Op.unary, Op.intArith, of_int.1 (hx A W s), w64], of_int.2 rfl⟩
theorem r_quo {a b r : Int} (hx : Look c E L x (.of a)) (hy : Look c E L y (.of b)) (h : b ≠ 0 ∧ w64 (a.tdiv b) = r) : HR c E L ⟨d, .binOp .quo t x y t2, ty, pos, af, g⟩ (.of r) := .pure fun A W s =>
  ⟨.int .i64 r, by obtain ⟨h1, rfl⟩ := h; simp [execOp, eqGuard, binOp, Op.intDiv, of_int.1 (hx A W s), of_int.1 (hy A W s), w64, h1], of_int.2 rfl⟩
theorem r_rem {a b r : Int} (hx : Look c E L x (.of a)) (hy : Look c E L y (.of b)) (h : b ≠ 0 ∧ a.tmod b = r) : HR c E L ⟨d, .binOp .rem t x y t2, ty, pos, af, g⟩ (.of r) := .pure fun A W s =>
  ⟨.int .i64 r, by obtain ⟨h1, rfl⟩ := h; simp [execOp, eqGuard, binOp, Op.intDiv, of_int.1 (hx A W s), of_int.1 (hy A W s), h1], of_int.2 rfl⟩
theorem r_lss {a b : Int} (hx : Look c E L x (.of a)) (hy : Look c E L y (.of b)) : HR c E L ⟨d, .binOp .lss t x y t2, ty, pos, af, g⟩ (.of (decide (a < b))) := .pure fun A W s =>
  ⟨.bool (decide (a < b)), by simp only [execOp, eqGuard, binOp, of_int.1 (hx A W s), of_int.1 (hy A W s)]; rfl, of_bool.2 rfl⟩
theorem r_leq {a b : Int} (hx : Look c E L x (.of a)) (hy : Look c E L y (.of b)) : HR c E L ⟨d, .binOp .leq t x y t2, ty, pos, af, g⟩ (.of (decide (a ≤ b))) := .pure fun A W s =>
  ⟨.bool (decide (a ≤ b)), by simp only [execOp, eqGuard, binOp, of_int.1 (hx A W s), of_int.1 (hy A W s)]; rfl, of_bool.2 rfl⟩
theorem r_gtr {a b : Int} (hx : Look c E L x (.of a)) (hy : Look c E L y (.of b)) : HR c E L ⟨d, .binOp .gtr t x y t2, ty, pos, af, g⟩ (.of (decide (a > b))) := .pure fun A W s =>
  ⟨.bool (decide (a > b)), by simp only [execOp, eqGuard, binOp, of_int.1 (hx A W s), of_int.1 (hy A W s)]; rfl, of_bool.2 rfl⟩
theorem r_geq {a b : Int} (hx : Look c E L x (.of a)) (hy : Look c E L y (.of b)) : HR c E L ⟨d, .binOp .geq t x y t2, ty, pos, af, g⟩ (.of (decide (a ≥ b))) := .pure fun A W s =>
  ⟨.bool (decide (a ≥ b)), by simp only [execOp, eqGuard, binOp, of_int.1 (hx A W s), of_int.1 (hy A W s)]; rfl, of_bool.2 rfl⟩
theorem r_eql {a b : Int} (hx : Look c E L x (.of a)) (hy : Look c E L y (.of b)) : HR c E L ⟨d, .binOp .eql t x y t2, ty, pos, af, g⟩ (.of (a == b)) := .pure fun A W s =>
  ⟨.bool (a == b), by simp only [execOp, eqGuard, binOp, of_int.1 (hx A W s), of_int.1 (hy A W s)]; rfl, of_bool.2 rfl⟩
theorem r_neq {a b : Int} (hx : Look c E L x (.of a)) (hy : Look c E L y (.of b)) : HR c E L ⟨d, .binOp .neq t x y t2, ty, pos, af, g⟩ (.of (a != b)) := .pure fun A W s =>
  ⟨.bool (a != b), by simp only [execOp, eqGuard, binOp, of_int.1 (hx A W s), of_int.1 (hy A W s)]; rfl, of_bool.2 rfl⟩
theorem r_ior {a b : Int} (hx : Look c E L x (.of a)) (hy : Look c E L y (.of b)) : HR c E L ⟨d, .binOp .or t x y t2, ty, pos, af, g⟩ (.of (ior a b)) := .pure fun A W s =>
  ⟨.int .i64 (ior a b), by simp only [execOp, eqGuard, binOp, of_int.1 (hx A W s), of_int.1 (hy A W s)]; rfl, of_int.2 rfl⟩
theorem r_ishlu {a : Int} {b : BitVec 64} (hx : Look c E L x (.of a)) (hy : Look c E L y (.of b)) : HR c E L ⟨d, .binOp .shl t x y t2, ty, pos, af, g⟩ (.of (ishl a b.toNat)) := .pure fun A W s =>
  ⟨.int .i64 (ishl a b.toNat), by
    simp only [execOp, eqGuard, binOp, of_int.1 (hx A W s), of_u64.1 (hy A W s)]
    exact (congrArg (fun r : Result Value => r.andThen fun v w => .ok (Next.value v) w) (run_shl c.P W .i64 .u64 a b.toNat (by omega))), of_int.2 rfl⟩
theorem r_beq {a b : Bool} (hu : c.P.underlying t = some .bool) (hx : Look c E L x (.of a)) (hy : Look c E L y (.of b)) : HR c E L ⟨d, .binOp .eql t x y t2, ty, pos, af, g⟩ (.of (a == b)) := .pure fun A W s =>
  ⟨.bool (a == b), by
    simp only [execOp, eqGuard, binOp, of_bool.1 (hx A W s), of_bool.1 (hy A W s), Op.equal, Op.maxDepth]
    simp [run_equalIn_bool' W 9999 t a b hu], of_bool.2 rfl⟩
theorem r_bne {a b : Bool} (hu : c.P.underlying t = some .bool) (hx : Look c E L x (.of a)) (hy : Look c E L y (.of b)) : HR c E L ⟨d, .binOp .neq t x y t2, ty, pos, af, g⟩ (.of (a != b)) := .pure fun A W s =>
  ⟨.bool (a != b), by
    simp only [execOp, eqGuard, binOp, of_bool.1 (hx A W s), of_bool.1 (hy A W s), Op.equal, Op.maxDepth]
    simp [run_equalIn_bool' W 9999 t a b hu, bne], of_bool.2 rfl⟩
theorem r_min {a b : Int} {ats : Array TypeId} (hx : Look c E L x (.of a)) (hy : Look c E L y (.of b)) : HR c E L ⟨d, .call ⟨.builtin .min, #[x, y], ats⟩, ty, pos, af, g⟩ (.of (min a b)) := .pure fun A W s =>
  ⟨.int .i64 (min a b), by
    simp [execOp, resolve, invoke, builtin, Builtin.min_, Builtin.min2, of_int.1 (hx A W s), of_int.1 (hy A W s)]
    split <;> omega, of_int.2 rfl⟩
theorem r_max {a b : Int} {ats : Array TypeId} (hx : Look c E L x (.of a)) (hy : Look c E L y (.of b)) : HR c E L ⟨d, .call ⟨.builtin .max, #[x, y], ats⟩, ty, pos, af, g⟩ (.of (max a b)) := .pure fun A W s =>
  ⟨.int .i64 (max a b), by
    simp [execOp, resolve, invoke, builtin, Builtin.max_, Builtin.max2, of_int.1 (hx A W s), of_int.1 (hy A W s)]
    split <;> omega, of_int.2 rfl⟩
theorem r_cii {a : Int} {src dst : TypeId} {e : TypeDesc} (hs : c.P.underlying src = some e) (hd : c.P.underlying dst = some (.int .i64)) (hx : Look c E L x (.of a)) : HR c E L ⟨d, .convert src dst x, ty, pos, af, g⟩ (.of (w64 a)) := .pure fun A W s =>
  ⟨.int .i64 (w64 a), by simp [execOp, convert, run_underlying hs, run_underlying hd, of_int.1 (hx A W s), Conv.intToInt, w64], of_int.2 rfl⟩

/-! ### uint8 -/
theorem lt_u8 (a : BitVec 8) : (a.toNat : Int) < 256 := by have := a.isLt; omega
theorem ofInt_u8 (a : BitVec 8) : BitVec.ofInt 8 (a.toNat : Int) = a := by simp
theorem r_and8 {a b : BitVec 8} (hx : Look c E L x (.of a)) (hy : Look c E L y (.of b)) : HR c E L ⟨d, .binOp .and t x y t2, ty, pos, af, g⟩ (.of (a &&& b)) := .pure fun A W s =>
  ⟨.int .u8 (a &&& b).toNat, by
    simp only [execOp, eqGuard, binOp, of_u8.1 (hx A W s), of_u8.1 (hy A W s)]
    have h : IntKind.u8.wrap ((a &&& b).toNat : Int) = ((a &&& b).toNat : Int) := by rw [wrap_u8]; have := lt_u8 (a &&& b); omega
    rw [← h]
    conv => rhs; rw [← ofInt_u8 a, ← ofInt_u8 b]
    rfl, of_u8.2 rfl⟩
theorem shr_u8 (a : BitVec 8) (n : Nat) : (a.toNat : Int).fdiv (2 ^ min n 8) = ((a >>> n).toNat : Int) := by
  rw [BitVec.toNat_ushiftRight, Nat.shiftRight_eq_div_pow]
  have e : ∀ m : Nat, (a.toNat : Int).fdiv (2 ^ m) = ((a.toNat / 2 ^ m : Nat) : Int) := by
    intro m
    rw [show ((2 : Int) ^ m) = ((2 ^ m : Nat) : Int) by simp]
    rw [Int.fdiv_eq_ediv_of_nonneg _ (Int.natCast_nonneg _)]
    exact (Int.natCast_ediv _ _).symm
  rw [e]
  rcases Nat.lt_or_ge n 8 with h | h
  · rw [Nat.min_eq_left (by omega)]
  · rw [Nat.min_eq_right h]
    have h1 : a.toNat / 2 ^ 8 = 0 := Nat.div_eq_of_lt a.isLt
    have h2 : a.toNat / 2 ^ n = 0 := Nat.div_eq_of_lt (Nat.lt_of_lt_of_le a.isLt (Nat.pow_le_pow_right (by omega) h))
    rw [h1, h2]
theorem r_shr8 {a : BitVec 8} {b : BitVec 64} (hx : Look c E L x (.of a)) (hy : Look c E L y (.of b)) : HR c E L ⟨d, .binOp .shr t x y t2, ty, pos, af, g⟩ (.of (a >>> b.toNat)) := .pure fun A W s =>
  ⟨.int .u8 (a >>> b.toNat).toNat, by
    simp only [execOp, eqGuard, binOp, of_u8.1 (hx A W s), of_u64.1 (hy A W s)]
    have h := run_shr c.P W .u8 .u64 a.toNat b.toNat (by omega)
    simp only [Int.toNat_natCast, IntKind.bits, shr_u8] at h
    exact congrArg (fun r : Result Value => r.andThen fun v w => .ok (Next.value v) w) h, of_u8.2 rfl⟩
theorem r_ci8 {a : Int} {src dst : TypeId} {e : TypeDesc} (hs : c.P.underlying src = some e) (hd : c.P.underlying dst = some (.int .u8)) (hx : Look c E L x (.of a)) : HR c E L ⟨d, .convert src dst x, ty, pos, af, g⟩ (.of (BitVec.ofInt 8 a)) := .pure fun A W s =>
  ⟨.int .u8 (BitVec.ofInt 8 a).toNat, by
    have h : IntKind.u8.wrap a = ((BitVec.ofInt 8 a).toNat : Int) := by rw [wrap_u8, BitVec.toNat_ofInt]; omega
    simp [execOp, convert, run_underlying hs, run_underlying hd, of_int.1 (hx A W s), Conv.intToInt, h], of_u8.2 rfl⟩
theorem r_c8i {a : BitVec 8} {src dst : TypeId} {e : TypeDesc} (hs : c.P.underlying src = some e) (hd : c.P.underlying dst = some (.int .i64)) (hx : Look c E L x (.of a)) : HR c E L ⟨d, .convert src dst x, ty, pos, af, g⟩ (.of (a.toNat : Int)) := .pure fun A W s =>
  ⟨.int .i64 a.toNat, by
    have h : IntKind.i64.wrap (a.toNat : Int) = (a.toNat : Int) := w64_in (by omega) (by have := lt_u8 a; omega)
    simp only [execOp, convert, Sem.run_bind, run_underlying hs, run_underlying hd, of_u8.1 (hx A W s), Conv.intToInt, Result.andThen_ok, h]; rfl, of_int.2 rfl⟩

/-! ### uint16 -/
/-! ### uint32 -/
/-! ### uint64 -/
theorem lt_u64 (a : BitVec 64) : (a.toNat : Int) < 18446744073709551616 := by have := a.isLt; omega
theorem ofInt_u64 (a : BitVec 64) : BitVec.ofInt 64 (a.toNat : Int) = a := by simp
theorem add_u64 (a b : BitVec 64) : IntKind.u64.wrap ((a.toNat : Int) + (b.toNat : Int)) = ((a + b).toNat : Int) := by rw [wrap_u64, BitVec.toNat_add]; omega
theorem r_add64 {a b : BitVec 64} (hx : Look c E L x (.of a)) (hy : Look c E L y (.of b)) : HR c E L ⟨d, .binOp .add t x y t2, ty, pos, af, g⟩ (.of (a + b)) := .pure fun A W s =>
  ⟨.int .u64 (a + b).toNat, by simp [execOp, eqGuard, binOp, Op.intArith, of_u64.1 (hx A W s), of_u64.1 (hy A W s), add_u64], of_u64.2 rfl⟩
theorem sub_u64 (a b : BitVec 64) : IntKind.u64.wrap ((a.toNat : Int) - (b.toNat : Int)) = ((a - b).toNat : Int) := by rw [wrap_u64, BitVec.toNat_sub]; have := lt_u64 a; have := lt_u64 b; omega
theorem r_sub64 {a b : BitVec 64} (hx : Look c E L x (.of a)) (hy : Look c E L y (.of b)) : HR c E L ⟨d, .binOp .sub t x y t2, ty, pos, af, g⟩ (.of (a - b)) := .pure fun A W s =>
  ⟨.int .u64 (a - b).toNat, by simp [execOp, eqGuard, binOp, Op.intArith, of_u64.1 (hx A W s), of_u64.1 (hy A W s), sub_u64], of_u64.2 rfl⟩
theorem r_and64 {a b : BitVec 64} (hx : Look c E L x (.of a)) (hy : Look c E L y (.of b)) : HR c E L ⟨d, .binOp .and t x y t2, ty, pos, af, g⟩ (.of (a &&& b)) := .pure fun A W s =>
  ⟨.int .u64 (a &&& b).toNat, by
    simp only [execOp, eqGuard, binOp, of_u64.1 (hx A W s), of_u64.1 (hy A W s)]
    have h : IntKind.u64.wrap ((a &&& b).toNat : Int) = ((a &&& b).toNat : Int) := by rw [wrap_u64]; have := lt_u64 (a &&& b); omega
    rw [← h]
    conv => rhs; rw [← ofInt_u64 a, ← ofInt_u64 b]
    rfl, of_u64.2 rfl⟩
theorem r_or64 {a b : BitVec 64} (hx : Look c E L x (.of a)) (hy : Look c E L y (.of b)) : HR c E L ⟨d, .binOp .or t x y t2, ty, pos, af, g⟩ (.of (a ||| b)) := .pure fun A W s =>
  ⟨.int .u64 (a ||| b).toNat, by
    simp only [execOp, eqGuard, binOp, of_u64.1 (hx A W s), of_u64.1 (hy A W s)]
    have h : IntKind.u64.wrap ((a ||| b).toNat : Int) = ((a ||| b).toNat : Int) := by rw [wrap_u64]; have := lt_u64 (a ||| b); omega
    rw [← h]
    conv => rhs; rw [← ofInt_u64 a, ← ofInt_u64 b]
    rfl, of_u64.2 rfl⟩
theorem r_xor64 {a b : BitVec 64} (hx : Look c E L x (.of a)) (hy : Look c E L y (.of b)) : HR c E L ⟨d, .binOp .xor t x y t2, ty, pos, af, g⟩ (.of (a ^^^ b)) := .pure fun A W s =>
  ⟨.int .u64 (a ^^^ b).toNat, by
    simp only [execOp, eqGuard, binOp, of_u64.1 (hx A W s), of_u64.1 (hy A W s)]
    have h : IntKind.u64.wrap ((a ^^^ b).toNat : Int) = ((a ^^^ b).toNat : Int) := by rw [wrap_u64]; have := lt_u64 (a ^^^ b); omega
    rw [← h]
    conv => rhs; rw [← ofInt_u64 a, ← ofInt_u64 b]
    rfl, of_u64.2 rfl⟩
theorem r_andNot64 {a b : BitVec 64} (hx : Look c E L x (.of a)) (hy : Look c E L y (.of b)) : HR c E L ⟨d, .binOp .andNot t x y t2, ty, pos, af, g⟩ (.of (a &&& ~~~b)) := .pure fun A W s =>
  ⟨.int .u64 (a &&& ~~~b).toNat, by
    simp only [execOp, eqGuard, binOp, of_u64.1 (hx A W s), of_u64.1 (hy A W s)]
    have h : IntKind.u64.wrap ((a &&& ~~~b).toNat : Int) = ((a &&& ~~~b).toNat : Int) := by rw [wrap_u64]; have := lt_u64 (a &&& ~~~b); omega
    rw [← h]
    conv => rhs; rw [← ofInt_u64 a, ← ofInt_u64 b]
    rfl, of_u64.2 rfl⟩
theorem shl_u64 (a : BitVec 64) (n : Nat) : IntKind.u64.wrap ((a.toNat : Int) * 2 ^ min n 64) = ((a <<< n).toNat : Int) := by
  rw [wrap_u64, BitVec.toNat_shiftLeft, Nat.shiftLeft_eq]
  rcases Nat.lt_or_ge n 64 with h | h
  · rw [Nat.min_eq_left (by omega)]; simp
  · rw [Nat.min_eq_right h]
    have e : (a.toNat * 2 ^ n) % 2 ^ 64 = 0 := by
      rw [show n = 64 + (n - 64) by omega, Nat.pow_add]
      exact Nat.mod_eq_zero_of_dvd ⟨a.toNat * 2 ^ (n - 64), by rw [← Nat.mul_assoc, Nat.mul_comm a.toNat, Nat.mul_assoc]⟩
    rw [e]
    have e2 : (2 : Int) ^ 64 = 18446744073709551616 := by decide
    rw [e2]; omega
theorem shr_u64 (a : BitVec 64) (n : Nat) : (a.toNat : Int).fdiv (2 ^ min n 64) = ((a >>> n).toNat : Int) := by
  rw [BitVec.toNat_ushiftRight, Nat.shiftRight_eq_div_pow]
  have e : ∀ m : Nat, (a.toNat : Int).fdiv (2 ^ m) = ((a.toNat / 2 ^ m : Nat) : Int) := by
    intro m
    rw [show ((2 : Int) ^ m) = ((2 ^ m : Nat) : Int) by simp]
    rw [Int.fdiv_eq_ediv_of_nonneg _ (Int.natCast_nonneg _)]
    exact (Int.natCast_ediv _ _).symm
  rw [e]
  rcases Nat.lt_or_ge n 64 with h | h
  · rw [Nat.min_eq_left (by omega)]
  · rw [Nat.min_eq_right h]
    have h1 : a.toNat / 2 ^ 64 = 0 := Nat.div_eq_of_lt a.isLt
    have h2 : a.toNat / 2 ^ n = 0 := Nat.div_eq_of_lt (Nat.lt_of_lt_of_le a.isLt (Nat.pow_le_pow_right (by omega) h))
    rw [h1, h2]
theorem r_shl64 {a : BitVec 64} {b : BitVec 64} (hx : Look c E L x (.of a)) (hy : Look c E L y (.of b)) : HR c E L ⟨d, .binOp .shl t x y t2, ty, pos, af, g⟩ (.of (a <<< b.toNat)) := .pure fun A W s =>
  ⟨.int .u64 (a <<< b.toNat).toNat, by
    simp only [execOp, eqGuard, binOp, of_u64.1 (hx A W s), of_u64.1 (hy A W s)]
    have h := run_shl c.P W .u64 .u64 a.toNat b.toNat (by omega)
    simp only [Int.toNat_natCast, IntKind.bits, shl_u64] at h
    exact congrArg (fun r : Result Value => r.andThen fun v w => .ok (Next.value v) w) h, of_u64.2 rfl⟩
theorem r_shl64i {a : BitVec 64} {b : Int} {n : Nat} (hx : Look c E L x (.of a)) (hy : Look c E L y (.of b)) (h : 0 ≤ b ∧ b.toNat = n) : HR c E L ⟨d, .binOp .shl t x y t2, ty, pos, af, g⟩ (.of (a <<< n)) := .pure fun A W s =>
  ⟨.int .u64 (a <<< n).toNat, by
    obtain ⟨h1, rfl⟩ := h
    simp only [execOp, eqGuard, binOp, of_u64.1 (hx A W s), of_int.1 (hy A W s)]
    have h := run_shl c.P W .u64 .i64 a.toNat b h1
    simp only [IntKind.bits, shl_u64] at h
    simp only [Sem.run_bind, Sem.run_ite, Sem.run_pure, Bool.not_false, if_true, Result.andThen_ok, h], of_u64.2 rfl⟩
theorem r_shr64 {a : BitVec 64} {b : BitVec 64} (hx : Look c E L x (.of a)) (hy : Look c E L y (.of b)) : HR c E L ⟨d, .binOp .shr t x y t2, ty, pos, af, g⟩ (.of (a >>> b.toNat)) := .pure fun A W s =>
  ⟨.int .u64 (a >>> b.toNat).toNat, by
    simp only [execOp, eqGuard, binOp, of_u64.1 (hx A W s), of_u64.1 (hy A W s)]
    have h := run_shr c.P W .u64 .u64 a.toNat b.toNat (by omega)
    simp only [Int.toNat_natCast, IntKind.bits, shr_u64] at h
    exact congrArg (fun r : Result Value => r.andThen fun v w => .ok (Next.value v) w) h, of_u64.2 rfl⟩
theorem r_shr64i {a : BitVec 64} {b : Int} {n : Nat} (hx : Look c E L x (.of a)) (hy : Look c E L y (.of b)) (h : 0 ≤ b ∧ b.toNat = n) : HR c E L ⟨d, .binOp .shr t x y t2, ty, pos, af, g⟩ (.of (a >>> n)) := .pure fun A W s =>
  ⟨.int .u64 (a >>> n).toNat, by
    obtain ⟨h1, rfl⟩ := h
    simp only [execOp, eqGuard, binOp, of_u64.1 (hx A W s), of_int.1 (hy A W s)]
    have h := run_shr c.P W .u64 .i64 a.toNat b h1
    simp only [IntKind.bits, shr_u64] at h
    simp only [Sem.run_bind, Sem.run_ite, Sem.run_pure, Bool.not_false, if_true, Result.andThen_ok, h], of_u64.2 rfl⟩
theorem r_lss64 {a b : BitVec 64} (hx : Look c E L x (.of a)) (hy : Look c E L y (.of b)) : HR c E L ⟨d, .binOp .lss t x y t2, ty, pos, af, g⟩ (.of (decide (a < b))) := .pure fun A W s =>
  ⟨.bool (decide (a < b)), by
    simp only [execOp, eqGuard, binOp, of_u64.1 (hx A W s), of_u64.1 (hy A W s)]
    have h : decide ((a.toNat : Int) < (b.toNat : Int)) = decide (a < b) := by simp [BitVec.lt_def, BitVec.le_def]
    rw [← h]; rfl, of_bool.2 rfl⟩
theorem r_leq64 {a b : BitVec 64} (hx : Look c E L x (.of a)) (hy : Look c E L y (.of b)) : HR c E L ⟨d, .binOp .leq t x y t2, ty, pos, af, g⟩ (.of (decide (a ≤ b))) := .pure fun A W s =>
  ⟨.bool (decide (a ≤ b)), by
    simp only [execOp, eqGuard, binOp, of_u64.1 (hx A W s), of_u64.1 (hy A W s)]
    have h : decide ((a.toNat : Int) ≤ (b.toNat : Int)) = decide (a ≤ b) := by simp [BitVec.lt_def, BitVec.le_def]
    rw [← h]; rfl, of_bool.2 rfl⟩
theorem r_gtr64 {a b : BitVec 64} (hx : Look c E L x (.of a)) (hy : Look c E L y (.of b)) : HR c E L ⟨d, .binOp .gtr t x y t2, ty, pos, af, g⟩ (.of (decide (a > b))) := .pure fun A W s =>
  ⟨.bool (decide (a > b)), by
    simp only [execOp, eqGuard, binOp, of_u64.1 (hx A W s), of_u64.1 (hy A W s)]
    have h : decide ((a.toNat : Int) > (b.toNat : Int)) = decide (a > b) := by simp [BitVec.lt_def, BitVec.le_def]
    rw [← h]; rfl, of_bool.2 rfl⟩
theorem r_geq64 {a b : BitVec 64} (hx : Look c E L x (.of a)) (hy : Look c E L y (.of b)) : HR c E L ⟨d, .binOp .geq t x y t2, ty, pos, af, g⟩ (.of (decide (a ≥ b))) := .pure fun A W s =>
  ⟨.bool (decide (a ≥ b)), by
    simp only [execOp, eqGuard, binOp, of_u64.1 (hx A W s), of_u64.1 (hy A W s)]
    have h : decide ((a.toNat : Int) ≥ (b.toNat : Int)) = decide (a ≥ b) := by simp [BitVec.lt_def, BitVec.le_def]
    rw [← h]; rfl, of_bool.2 rfl⟩
theorem r_eql64 {a b : BitVec 64} (hx : Look c E L x (.of a)) (hy : Look c E L y (.of b)) : HR c E L ⟨d, .binOp .eql t x y t2, ty, pos, af, g⟩ (.of (a == b)) := .pure fun A W s =>
  ⟨.bool (a == b), by
    simp only [execOp, eqGuard, binOp, of_u64.1 (hx A W s), of_u64.1 (hy A W s)]
    have h : ((a.toNat : Int) == (b.toNat : Int)) = (a == b) := by
      rw [Bool.eq_iff_iff]; simp [bne]; exact ⟨fun h => BitVec.eq_of_toNat_eq (by omega), fun h => by rw [h]⟩
    rw [← h]; rfl, of_bool.2 rfl⟩
theorem r_neq64 {a b : BitVec 64} (hx : Look c E L x (.of a)) (hy : Look c E L y (.of b)) : HR c E L ⟨d, .binOp .neq t x y t2, ty, pos, af, g⟩ (.of (a != b)) := .pure fun A W s =>
  ⟨.bool (a != b), by
    simp only [execOp, eqGuard, binOp, of_u64.1 (hx A W s), of_u64.1 (hy A W s)]
    have h : ((a.toNat : Int) != (b.toNat : Int)) = (a != b) := by
      rw [Bool.eq_iff_iff]; simp [bne]; exact ⟨fun h => fun e => h (by rw [e]), fun h => by intro e; exact h (BitVec.eq_of_toNat_eq (by omega))⟩
    rw [← h]; rfl, of_bool.2 rfl⟩
theorem r_ci64 {a : Int} {src dst : TypeId} {e : TypeDesc} (hs : c.P.underlying src = some e) (hd : c.P.underlying dst = some (.int .u64)) (hx : Look c E L x (.of a)) : HR c E L ⟨d, .convert src dst x, ty, pos, af, g⟩ (.of (BitVec.ofInt 64 a)) := .pure fun A W s =>
  ⟨.int .u64 (BitVec.ofInt 64 a).toNat, by
    have h : IntKind.u64.wrap a = ((BitVec.ofInt 64 a).toNat : Int) := by rw [wrap_u64, BitVec.toNat_ofInt]; omega
    simp [execOp, convert, run_underlying hs, run_underlying hd, of_int.1 (hx A W s), Conv.intToInt, h], of_u64.2 rfl⟩
theorem r_c64_64 {a : BitVec 64} {src dst : TypeId} {e : TypeDesc} (hs : c.P.underlying src = some e) (hd : c.P.underlying dst = some (.int .u64)) (hx : Look c E L x (.of a)) : HR c E L ⟨d, .convert src dst x, ty, pos, af, g⟩ (.of (a.setWidth 64)) := .pure fun A W s =>
  ⟨.int .u64 (a.setWidth 64).toNat, by
    have h : IntKind.u64.wrap (a.toNat : Int) = ((a.setWidth 64).toNat : Int) := by rw [wrap_u64, BitVec.toNat_setWidth]; have := a.isLt; omega
    simp only [execOp, convert, Sem.run_bind, run_underlying hs, run_underlying hd, of_u64.1 (hx A W s), Conv.intToInt, Result.andThen_ok, h]; rfl, of_u64.2 rfl⟩
theorem r_c64i {a : BitVec 64} {src dst : TypeId} {e : TypeDesc} (hs : c.P.underlying src = some e) (hd : c.P.underlying dst = some (.int .i64)) (hx : Look c E L x (.of a)) : HR c E L ⟨d, .convert src dst x, ty, pos, af, g⟩ (.of (w64 a.toNat)) := .pure fun A W s =>
  ⟨.int .i64 (w64 a.toNat), by
    simp only [execOp, convert, Sem.run_bind, run_underlying hs, run_underlying hd, of_u64.1 (hx A W s), Conv.intToInt, Result.andThen_ok]; rfl, of_int.2 rfl⟩

end
end Gv

namespace Gv
open Go
set_option linter.unusedVariables false
set_option linter.unusedSimpArgs false

/-! ### What a call hands back -/

def resOne (tmps : Array Value) : ResultVar → Sem Value
  | .tmp t => pure (tmps.getD t undef)
  | .cell a t => do loadVar t (← asAddr (tmps.getD a undef))

theorem results_eq (fn : Func) (tmps : Array Value) : results fn tmps = (do
    let vs ← fn.results.mapM (resOne tmps)
    pure (if h : vs.size = 1 then vs[0] else .tuple vs)) := by
  unfold results
  congr 1

section
variable {c : Cx} {E : List (Nat × VP)} {L : List Ent} {ops : Array Oper} {Q : Exit → Act → World → Prop}

def RV (c : Cx) (E : List (Nat × VP)) (L : List Ent) (r : ResultVar) (τ : VP) : Prop :=
  ∀ a W, St c E L a W → ∃ v, (resOne a.tmps r).run c.P W = .ok v W ∧ τ.holds c.A0 W v

theorem rv_t {t : Nat} {τ : VP} (h : look E t = some τ) : RV c E L (.tmp t) τ := fun a W s => by
  obtain ⟨v, h1, h2⟩ := s.env t τ h
  exact ⟨v, by simp [resOne, h1], holds_drop h2⟩

theorem rv_c {t : Nat} {ty : TypeId} {i p : Nat} {α : Type} [Rp α] {x : α} (tt : Ty c.P ty α) (h : look E t = some (.eq (.pointer (some ⟨p, 0, none⟩)))) (hL : L[i]? = some ⟨some p, .var x⟩) : RV c E L (.cell t ty) (.of x) := fun a W s => by
  obtain ⟨v, h1, h2⟩ := s.env t _ h
  subst h2
  obtain ⟨ob, hob, cs, T, rfl, hrep⟩ := s.own _ (List.mem_of_getElem? hL)
  have hl : cs.toList.length = Rp.size α := Rp.len hrep
  have hsz : cs.size = Rp.size α := by simpa using hl
  obtain ⟨v, h3, h4⟩ := run_loadVar_at (A := ks L ++ c.A0) (off := 0) tt hob (by omega) (by rw [List.drop_zero, ← hl, List.take_length]; exact hrep)
  exact ⟨v, by simp [resOne, h1, asAddr, h3], holds_drop h4⟩

def Post (c : Cx) (ρ : VP) : Ending → World → Prop := fun e W' => ∃ v, e = .returned v ∧ Fr c.X c.W0 W' ∧ ρ.holds c.A0 W' v

theorem To.end0 {fn : Func} (hr : fn.results = #[]) (hds : c.ds = [] := by rfl) : To c (bodyPost c.P fn (Post c (.tup []))) .ret E L := fun a W s =>
  ⟨s.nodefers hds, .tuple #[], by simp [results_eq, hr], _, rfl, s.fr, #[], rfl, .nil⟩

theorem To.end1 {fn : Func} {r : ResultVar} {τ : VP} (hr : fn.results = #[r]) (h : RV c E L r τ) (hds : c.ds = [] := by rfl) : To c (bodyPost c.P fn (Post c τ)) .ret E L := fun a W s => by
  obtain ⟨v, h1, h2⟩ := h a W s
  exact ⟨s.nodefers hds, v, by simp [results_eq, hr, h1], v, rfl, s.fr, h2⟩

theorem To.end2 {fn : Func} {r r2 : ResultVar} {τ τ2 : VP} (hr : fn.results = #[r, r2]) (h : RV c E L r τ) (h2 : RV c E L r2 τ2) (hds : c.ds = [] := by rfl) : To c (bodyPost c.P fn (Post c (.tup [τ, τ2]))) .ret E L := fun a W s => by
  obtain ⟨v, h3, h4⟩ := h a W s
  obtain ⟨v2, h5, h6⟩ := h2 a W s
  exact ⟨s.nodefers hds, .tuple #[v, v2], by simp [results_eq, hr, h3, h5], _, rfl, s.fr, _, rfl, .cons h4 (.cons h6 .nil)⟩

theorem To.end3 {fn : Func} {r r2 r3 : ResultVar} {τ τ2 τ3 : VP} (hr : fn.results = #[r, r2, r3]) (h : RV c E L r τ) (h2 : RV c E L r2 τ2) (h3 : RV c E L r3 τ3) (hds : c.ds = [] := by rfl) : To c (bodyPost c.P fn (Post c (.tup [τ, τ2, τ3]))) .ret E L := fun a W s => by
  obtain ⟨v, h4, h5⟩ := h a W s
  obtain ⟨v2, h6, h7⟩ := h2 a W s
  obtain ⟨v3, h8, h9⟩ := h3 a W s
  exact ⟨s.nodefers hds, .tuple #[v, v2, v3], by simp [results_eq, hr, h4, h6, h8], _, rfl, s.fr, _, rfl, .cons h5 (.cons h7 (.cons h9 .nil))⟩

theorem Meets.of {P : Program} {f : FuncId} {fn : Func} {code : Code} {n : Nat} {τs : List VP} {ρ : VP} (hf : P.funcs[f]? = some fn) (hb : fn.body = some code) (hn : fn.ntmps = n) (hlen : Nat.ble τs.length n = true)
    (h : ∀ W A, Wp ⟨P, n, W, [], A, none, []⟩ (bodyPost P fn (Post ⟨P, n, W, [], A, none, []⟩ ρ)) code (params 0 τs) []) : Meets P f τs ρ := Meets.enter hf hb hn hlen h
end

/-! ### Tests of equality -/

/-- two values of this type are compared in less than k levels -/
structure Eqv (P : Program) (t : TypeId) (α : Type) [Rp α] [DecidableEq α] (k : Nat) : Prop where
  run : ∀ d, k ≤ d → ∀ A W u v (x y : α), (VP.of x).holds A W u → (VP.of y).holds A W v → (Op.equalIn d t u v).run P W = .ok (decide (x = y)) W

end Gv

namespace Gv
open Go
set_option linter.unusedVariables false
set_option linter.unusedSimpArgs false

/-! ### Tests of equality -/
section
variable {c : Cx} {E : List (Nat × VP)} {L : List Ent} {ops : Array Oper} {Q : Exit → Act → World → Prop}
variable {d : Option Tmp} {ty : TypeId} {pos : String} {af : Array Edge} {g : Option (Nat × Bool)} {x y : Operand} {t t2 : TypeId}

theorem r_eqA {α : Type} [Rp α] [DecidableEq α] {k : Nat} {a b : α} (ev : Eqv c.P t α k) (hk : Nat.ble k 10000 = true) (hg : c.P.eqGuardType c.P.depth t = false) (ha : Rp.agg α = true) (hx : Look c E L x (.of a)) (hy : Look c E L y (.of b)) :
    HR c E L ⟨d, .binOp .eql t x y t2, ty, pos, af, g⟩ (.of (decide (a = b))) := .pure fun A W s => by
  have h1 := hx A W s
  have h2 := hy A W s
  obtain ⟨xs, hxs⟩ : ∃ cs, A.eval x = .agg cs := by simpa [shaped, ha] using h1.1
  obtain ⟨ys, hys⟩ : ∃ cs, A.eval y = .agg cs := by simpa [shaped, ha] using h2.1
  have h3 := ev.run 10000 (Nat.le_of_ble_eq_true hk) _ W _ _ a b h1 h2
  rw [hxs, hys] at h3
  refine ⟨.bool (decide (a = b)), ?_, of_bool.2 rfl⟩
  simp only [execOp, hxs, hys, Sem.run_bind, run_eqGuard_agg W .eql t x y xs ys hg, Result.andThen_ok, run_eql_struct, h3, Sem.run_pure]

theorem r_neA {α : Type} [Rp α] [DecidableEq α] {k : Nat} {a b : α} (ev : Eqv c.P t α k) (hk : Nat.ble k 10000 = true) (hg : c.P.eqGuardType c.P.depth t = false) (ha : Rp.agg α = true) (hx : Look c E L x (.of a)) (hy : Look c E L y (.of b)) :
    HR c E L ⟨d, .binOp .neq t x y t2, ty, pos, af, g⟩ (.of (!decide (a = b))) := .pure fun A W s => by
  have h1 := hx A W s
  have h2 := hy A W s
  obtain ⟨xs, hxs⟩ : ∃ cs, A.eval x = .agg cs := by simpa [shaped, ha] using h1.1
  obtain ⟨ys, hys⟩ : ∃ cs, A.eval y = .agg cs := by simpa [shaped, ha] using h2.1
  have h3 := ev.run 10000 (Nat.le_of_ble_eq_true hk) _ W _ _ a b h1 h2
  rw [hxs, hys] at h3
  refine ⟨.bool (!decide (a = b)), ?_, of_bool.2 rfl⟩
  simp only [execOp, hxs, hys, Sem.run_bind, run_eqGuard_agg W .neq t x y xs ys hg, Result.andThen_ok, run_neq_struct, h3, Sem.run_pure]

end

/-! ### Values put together -/

theorem run_fieldSizes {P : Program} {W : World} (fs : Array Field) (h : fs.all (fun f => (P.info? f.type).isSome) = true) :
    (fs.mapM (m := Sem) fun f => do pure (f.offset, ← Go.sizeOf f.type)).run P W = .ok (fs.map fun f => (f.offset, P.cellsOf f.type)) W := by
  obtain ⟨l⟩ := fs
  have key : ∀ (l : List Field), l.all (fun f => (P.info? f.type).isSome) = true → (l.mapM (m := Sem) fun f => do pure (f.offset, ← Go.sizeOf f.type)).run P W = .ok (l.map fun f => (f.offset, P.cellsOf f.type)) W := by
    intro l
    induction l with
    | nil => intro _; rfl
    | cons f r ih =>
      intro h
      simp only [List.all_cons, Bool.and_eq_true] at h
      obtain ⟨i, hi⟩ := Option.isSome_iff_exists.1 h.1
      rw [List.mapM_cons]
      simp only [Sem.run_bind, Go.sizeOf, typeInfo, run_program, Result.andThen_ok, hi, Sem.run_pure]
      have := ih h.2
      simp only [Sem.run_bind, Go.sizeOf, typeInfo] at this
      rw [this]
      simp [Program.cellsOf, hi]
  have h' : l.all (fun f => (P.info? f.type).isSome) = true := by simpa using h
  rw [List.mapM_toArray]
  simp only [Sem.run_map, key l h', Result.andThen_ok]
  simp

theorem fold_splice (ds : List Value) (off : Nat) : ∀ (j : Nat) (cs : Array Value), off + j + ds.length ≤ cs.size →
    (ds.zipIdx j).foldl (fun cs (c, j) => cs.setIfInBounds (off + j) c) cs = (cs.toList.take (off + j) ++ ds ++ cs.toList.drop (off + j + ds.length)).toArray := by
  induction ds with
  | nil => intro j cs _; simp
  | cons v r ih =>
    intro j cs h
    simp only [List.length_cons] at h
    rw [List.zipIdx_cons, List.foldl_cons, ih (j + 1) _ (by simp; omega)]
    simp only [Array.toList_setIfInBounds]
    have := list_seg_step cs.toList (off + j) v r (by simp; omega)
    rw [show off + (j + 1) = off + j + 1 by omega]
    simp only [List.length_cons]
    rw [this]

theorem run_fill {place : Nat → Option (Nat × Nat)} {cs : Array Value} {i off sz : Nat} {v : Value} {rest : List (Nat × Value)} (hp : place i = some (off, sz)) (hv : v.cells.size = sz) (hle : off + sz ≤ cs.size) :
    Instr.fill place cs ((i, v) :: rest) = Instr.fill place (splice cs.toList off v.cells.toList).toArray rest := by
  simp only [Instr.fill, hp]
  rw [if_neg (by simp [hv]; omega)]
  have := fold_splice v.cells.toList off 0 cs (by simp [hv]; omega)
  simp only [Nat.add_zero] at this
  congr 1
  rw [← Array.foldl_toList]
  have hz : (v.cells.zipIdx).toList = v.cells.toList.zipIdx := by simp
  rw [hz, this]
  simp [splice]

section
variable {c : Cx} {E : List (Nat × VP)} {L : List Ent} {ops : Array Oper} {Q : Exit → Act → World → Prop}
variable {d : Option Tmp} {ty : TypeId} {pos : String} {af : Array Edge} {g : Option (Nat × Bool)} {x y : Operand} {t t2 : TypeId}

/-- the parts of a value, one behind the other -/
inductive Fills (c : Cx) (E : List (Nat × VP)) (L : List Ent) (place : Nat → Option (Nat × Nat)) {β : Type} [Rp β] : β → List (Nat × Operand) → β → Prop
  | nil {b} : Fills c E L place b [] b
  | cons {b b1 b' : β} {γ : Type} [Rp γ] {v : γ} {i : Nat} {x : Operand} {r : List (Nat × Operand)} (l : Lens β γ) : place i = some (l.off, Rp.size γ) → Look c E L x (.of v) → l.set b v = b1 → Fills c E L place b1 r b' → Fills c E L place b ((i, x) :: r) b'

theorem Fills.run {place : Nat → Option (Nat × Nat)} {β : Type} [Rp β] {b b' : β} {ps : List (Nat × Operand)} (h : Fills c E L place b ps b') : ∀ a W, St c E L a W → ∀ cs : Array Value, Rp.rep (ks L ++ c.A0) W cs.toList b →
    ∃ cs', Instr.fill place cs (ps.map fun (i, x) => (i, a.eval x)) = some cs' ∧ Rp.rep (ks L ++ c.A0) W cs'.toList b' := by
  induction h with
  | nil => intro a W s cs hr; exact ⟨cs, rfl, hr⟩
  | @cons b b1 b' γ _ v i x r l h1 h2 h3 _ ih =>
    intro a W s cs hr
    subst h3
    have hv := h2 a W s
    have hsz : (a.eval x).cells.size = Rp.size γ := by have := Rp.len hv.2; simpa using this
    have hl : cs.toList.length = Rp.size β := Rp.len hr
    have hin := l.inb
    rw [List.map_cons, run_fill h1 hsz (by simp at hl; omega)]
    refine ih a W s _ ?_
    have := l.set_rep hr hv.2
    simpa [splice, Rp.len hv.2] using this

/-- where the fields of struct type t lie, and their sizes -/
class Bu (P : Program) (t : TypeId) (pl : outParam (Array (Nat × Nat))) : Prop where
  at_ : ∃ fs, P.underlying t = some (.struct fs) ∧ fs.all (fun f => (P.info? f.type).isSome) = true ∧ (fs.map fun f => (f.offset, P.cellsOf f.type)) = pl

theorem r_build {β : Type} [Rp β] {z b : β} {ps : List (Nat × Operand)} {pl : Array (Nat × Nat)} (ha : Rp.agg β = true) (bu : Bu c.P t pl) (zr : Zr c.P t z)
    (hf : Fills c E L (pl[·]?) z ps b) : HR c E L ⟨d, .build t ps.toArray, ty, pos, af, g⟩ (.of b) := .pure fun a W s => by
  obtain ⟨fs, hu, hs, rfl⟩ := bu.at_
  obtain ⟨i, zv, h1, h2, h3⟩ := zr.zero
  obtain ⟨cs', h4, h5⟩ := hf.run a W s zv.cells (h3 _ _).2
  refine ⟨.agg cs', ?_, by simp [shaped, ha], by simpa [Value.cells] using h5⟩
  have hm : (ps.toArray.map fun (x : Nat × Operand) => (x.1, a.eval x.2)).toList = ps.map fun (i, x) => (i, a.eval x) := by simp
  simp only [execOp, Instr.build, Sem.run_bind, zeroValue, typeInfo, run_program, Result.andThen_ok, h1, h2, Sem.run_pure, run_underlying hu, run_fieldSizes fs hs]
  rw [hm, h4]
  rfl

end

/-! ### Lists -/

/-- a slice that nobody writes any more -/
def E0 (v : Value) : Prop := ∃ a, v = .slice a 0 0
def Sl {α : Type} [Rp α] (A : List Nat) (W : World) (v : Value) (xs : List α) : Prop :=
  (E0 v ∧ xs = []) ∨
  ∃ b off cap cur T fz, v = .slice (some ⟨b, off, none⟩) xs.length cap ∧ b ∉ A ∧ W.heap[b]? = some (.cells cur T fz) ∧ xs.length ≤ cap ∧ xs.length ≤ maxLen ∧ off + xs.length * Rp.size α ≤ cur.size ∧
    Reps A W ((cur.toList.drop off).take (xs.length * Rp.size α)) xs

theorem Sl.mono {α : Type} [Rp α] {A W A' W' v} {xs : List α} (e : Ext A W A' W') (h : Sl A W v xs) : Sl A' W' v xs := by
  rcases h with h | ⟨b, off, cap, cur, T, fz, h1, h2, h3, h4, h5, h6, h7⟩
  · exact .inl h
  · have hlt : b < W.heap.size := (Array.getElem?_eq_some_iff.1 h3).1
    exact .inr ⟨b, off, cap, cur, T, fz, h1, fun hm => h2 (e.new b hm hlt), by rw [e.block b hlt h2]; exact h3, h4, h5, h6, h7.mono e⟩

instance instRpList {α : Type} [Rp α] : Rp (List α) where
  size := 1
  agg := false
  rep A W cs xs := ∃ v, cs = [v] ∧ Sl A W v xs
  len h := by obtain ⟨v, rfl, _⟩ := h; rfl
  one h := by
    obtain ⟨v, rfl, h⟩ := h
    intro u hu
    rw [List.mem_singleton.1 hu]
    rcases h with ⟨⟨a0, rfl⟩, _⟩ | ⟨b, off, cap, cur, T, fz, rfl, _⟩ <;> rfl
  flat _ := rfl
  mono e h := let ⟨v, h1, h2⟩ := h; ⟨v, h1, h2.mono e⟩

theorem Sl.one {α : Type} [Rp α] {A W v} {xs : List α} (h : Sl A W v xs) : v.oneCell' = true := by
  rcases h with ⟨⟨a0, rfl⟩, _⟩ | ⟨b, off, cap, cur, T, fz, rfl, _⟩ <;> rfl

theorem of_list {α : Type} [Rp α] {A W v} {xs : List α} : (VP.of xs).holds A W v ↔ Sl A W v xs := by
  constructor
  · rintro ⟨h1, u, h2, h3⟩
    have : v = u := toList_one h1 h2
    rw [this]; exact h3
  · intro h
    exact ⟨h.one, v, by rw [cells_one h.one], h⟩

/-- element k -/
def lget {α : Type} [Inhabited α] (xs : List α) (k : Nat) : α := xs[k]?.getD default
theorem lget_eq {α : Type} [Inhabited α] (xs : List α) {k : Nat} (h : k < xs.length) : lget xs k = xs[k] := by simp [lget, h]

/-- a part of a list; none: out of range -/
def sliceM {α : Type} (xs : List α) (lo hi : Int) : Option (List α) := if 0 ≤ lo ∧ lo ≤ hi ∧ hi ≤ xs.length then some ((xs.drop lo.toNat).take (hi.toNat - lo.toNat)) else none
theorem sliceM_some {α : Type} {xs r : List α} {lo hi : Int} (h : sliceM xs lo hi = some r) : ∃ a b : Nat, lo = a ∧ hi = b ∧ a ≤ b ∧ b ≤ xs.length ∧ r = (xs.drop a).take (b - a) := by
  unfold sliceM at h
  split at h
  · rename_i hc
    simp only [Option.some.injEq] at h
    exact ⟨lo.toNat, hi.toNat, by omega, by omega, by omega, by omega, h.symm⟩
  · cases h

/-- appended; none: more than memory bears -/
def appM {α : Type} (bytes : Nat) (xs ys : List α) : Option (List α) := if (xs.length + ys.length) * bytes ≤ 140737488355328 ∧ xs.length + ys.length ≤ maxLen then some (xs ++ ys) else none
theorem appM_some {α : Type} {bytes : Nat} {xs ys r : List α} (h : appM bytes xs ys = some r) : (xs.length + ys.length) * bytes ≤ 140737488355328 ∧ xs.length + ys.length ≤ maxLen ∧ r = xs ++ ys := by
  unfold appM at h
  split at h
  · rename_i hc; simp only [Option.some.injEq] at h; exact ⟨hc.1, hc.2, h.symm⟩
  · cases h

section
variable {c : Cx} {E : List (Nat × VP)} {L : List Ent} {ops : Array Oper} {Q : Exit → Act → World → Prop}
variable {d : Option Tmp} {ty : TypeId} {pos : String} {af : Array Edge} {g : Option (Nat × Bool)} {x y : Operand} {t t2 : TypeId}

theorem look_nil {α : Type} [Rp α] : Look c E L (.const (.slice none 0 0)) (.of ([] : List α)) := fun _ _ _ => of_list.2 (.inl ⟨⟨_, rfl⟩, rfl⟩)

theorem Sl.len {α : Type} [Rp α] {A W v} {xs : List α} (h : Sl A W v xs) : ∃ a cap, v = .slice a xs.length cap := by
  rcases h with ⟨⟨a0, rfl⟩, rfl⟩ | ⟨b, off, cap, cur, T, fz, rfl, _⟩
  · exact ⟨a0, 0, rfl⟩
  · exact ⟨_, _, rfl⟩

theorem r_len {α : Type} [Rp α] {xs : List α} {e : TypeId} (hu : c.P.underlying t = some (.slice e)) (hx : Look c E L x (.of xs)) : HR c E L ⟨d, .call ⟨.builtin .len, #[x], #[t]⟩, ty, pos, af, g⟩ (.of (xs.length : Int)) := .pure fun a W s => by
  obtain ⟨b, cap, h1⟩ := (of_list.1 (hx a W s)).len
  exact ⟨.int .i64 xs.length, by simp [execOp, resolve, invoke, builtin, Builtin.len_, h1, run_underlying hu, goInt], of_int.2 rfl⟩

theorem r_lens {s0 : ByteArray} (hu : c.P.underlying t = some .string) (hx : Look c E L x (.of s0)) : HR c E L ⟨d, .call ⟨.builtin .len, #[x], #[t]⟩, ty, pos, af, g⟩ (.of (s0.size : Int)) := .pure fun a W s =>
  ⟨.int .i64 s0.size, by simp [execOp, resolve, invoke, builtin, Builtin.len_, of_str.1 (hx a W s), run_underlying hu, goInt], of_int.2 rfl⟩

theorem r_ias {α : Type} [Rp α] [Inhabited α] {xs : List α} {e : TypeId} {i : Int} {k : Nat} (hu : c.P.underlying t = some (.slice e)) (te : Ty c.P e α) (hx : Look c E L x (.of xs)) (hy : Look c E L y (.of i)) (hk : k < xs.length ∧ i = k) :
    HR c E L ⟨d, .indexAddr t x y, ty, pos, af, g⟩ (.ptr (lget xs k)) := .pure fun a W s => by
  obtain ⟨h6, rfl⟩ := hk
  have h5 := of_int.1 (hy a W s)
  rcases of_list.1 (hx a W s) with ⟨_, rfl⟩ | ⟨b, off, cap, cur, T, fz, h1, h2, h3, h4, h7, h8, h9⟩
  · simp at h6
  · obtain ⟨ie, hie, hsz⟩ := te.info
    have hle : (k + 1) * Rp.size α ≤ xs.length * Rp.size α := Nat.mul_le_mul_right _ h6
    rw [Nat.succ_mul] at hle
    refine ⟨.pointer (some ⟨b, off + k * Rp.size α, none⟩), ?_, b, off + k * Rp.size α, cur, T, fz, rfl, h2, h3, by omega, ?_⟩
    · simp [execOp, Instr.indexAt, asIntOf, run_underlying hu, h1, h5, h6, Go.sizeOf, typeInfo, hie, hsz, addr_add]
    · have := h9.2 k h6
      rw [take_drop_in _ _ _ _ _ hle] at this
      rw [lget_eq xs h6]
      exact this

/-- 's[lo:hi]' -/
theorem run_sliceB {P : Program} {W : World} {v : Value} {k : IntKind} {n m : Nat} {code : BoundsCode} (h : n ≤ m) (hv : v = .int k n) : (Instr.sliceBound v m code).run P W = .ok n W := by
  subst hv
  have h0 : (n : Int) ≤ (m : Int) := by omega
  simp [Instr.sliceBound, asIntOf, h]

theorem sl_part {α : Type} [Rp α] {A W} {xs : List α} {b off cap : Nat} {cur : Array Value} {T : TypeId} {fz : Nat × Nat} {lo hi : Nat} (h2 : b ∉ A) (h3 : W.heap[b]? = some (.cells cur T fz)) (h4 : xs.length ≤ cap) (h7 : xs.length ≤ maxLen)
    (h8 : off + xs.length * Rp.size α ≤ cur.size) (h9 : Reps A W ((cur.toList.drop off).take (xs.length * Rp.size α)) xs) (h : lo ≤ hi) (h' : hi ≤ xs.length) :
    Sl A W (.slice (some (if cap = lo then ⟨b, off, none⟩ else ⟨b, off + lo * Rp.size α, none⟩)) (hi - lo) (cap - lo)) ((xs.drop lo).take (hi - lo)) := by
  have hl : ((xs.drop lo).take (hi - lo)).length = hi - lo := by simp; omega
  have hm : hi * Rp.size α ≤ xs.length * Rp.size α := Nat.mul_le_mul_right _ h'
  have hml : lo * Rp.size α ≤ hi * Rp.size α := Nat.mul_le_mul_right _ h
  have hd : (hi - lo) * Rp.size α = hi * Rp.size α - lo * Rp.size α := Nat.sub_mul _ _ _
  by_cases e : cap = lo
  · subst e
    have h0 : hi = cap := by omega
    subst h0
    refine .inr ⟨b, off, hi - hi, cur, T, fz, by simp, h2, h3, by simp, by simp, by simp; omega, ?_⟩
    simp only [Nat.sub_self, List.take_zero, List.length_nil, Nat.zero_mul]
    exact ⟨by simp, fun i hi => by simp at hi⟩
  · rw [if_neg e]
    refine .inr ⟨b, off + lo * Rp.size α, cap - lo, cur, T, fz, by rw [hl], h2, h3, by omega, by omega, by rw [hl]; omega, ?_⟩
    rw [hl]
    refine ⟨by simp only [hl, List.length_take, List.length_drop]; simp; omega, fun i hi' => ?_⟩
    rw [hl] at hi'
    have h10 := h9.2 (lo + i) (by omega)
    have hle : (lo + i + 1) * Rp.size α ≤ xs.length * Rp.size α := Nat.mul_le_mul_right _ (by omega)
    have hle2 : (i + 1) * Rp.size α ≤ (hi - lo) * Rp.size α := Nat.mul_le_mul_right _ (by omega)
    rw [Nat.succ_mul] at hle hle2
    rw [take_drop_in _ _ _ _ _ hle] at h10
    rw [take_drop_in _ _ _ _ _ hle2]
    have : ((xs.drop lo).take (hi - lo))[i]'(by rw [hl]; exact hi') = xs[lo + i] := by simp
    rw [this]
    rw [show off + lo * Rp.size α + i * Rp.size α = off + (lo + i) * Rp.size α by rw [Nat.add_mul]; omega]
    exact h10

/-- the bounds of a slice expression, as they are or left out -/
inductive Bd (c : Cx) (E : List (Nat × VP)) (L : List Ent) : Option Operand → Int → Int → Prop
  | none {n} : Bd c E L .none n n
  | some {x i n} : Look c E L x (.of (i : Int)) → Bd c E L (.some x) i n

theorem r_slice {α : Type} [Rp α] {xs r : List α} {e : TypeId} {lo hi : Option Operand} {i j : Int} (hu : c.P.underlying t = some (.slice e)) (te : Ty c.P e α) (hx : Look c E L x (.of xs)) (hlo : Bd c E L lo i 0) (hhi : Bd c E L hi j xs.length)
    (h : sliceM xs i j = some r) : HR c E L ⟨d, .slice t x lo hi none, ty, pos, af, g⟩ (.of r) := .pure fun a W s => by
  obtain ⟨m, n, rfl, rfl, hmn, hn, rfl⟩ := sliceM_some h
  obtain ⟨ie, hie, hsz⟩ := te.info
  rcases of_list.1 (hx a W s) with ⟨⟨a0, h1⟩, rfl⟩ | ⟨b, off, cap, cur, T, fz, h1, h2, h3, h4, h7, h8, h9⟩
  · have hn0 : n = 0 := by simpa using hn
    have hm0 : m = 0 := by omega
    subst hn0
    subst hm0
    refine ⟨.slice a0 0 0, ?_, of_list.2 (.inl ⟨⟨a0, rfl⟩, by simp⟩)⟩
    have hL : (match lo.map a.eval with | some v => Instr.sliceBound v 0 .sliceB | none => pure 0 : Sem Nat).run c.P W = .ok 0 W := by
      cases hlo with
      | none => rfl
      | some hl => exact run_sliceB (Nat.le_refl _) (of_int.1 (hl a W s))
    have hH : (match hi.map a.eval, (none : Option Value) with | some v, some _ => Instr.sliceBound v 0 .slice3B | some v, none => Instr.sliceBound v 0 .sliceAcap | none, none => pure 0 | none, some _ => stuck "Slice: max without high" : Sem Nat).run c.P W = .ok 0 W := by
      cases hhi with
      | none => rfl
      | some hl => exact run_sliceB (Nat.le_refl _) (of_int.1 (hl a W s))
    cases a0 <;> cases hlo <;> cases hhi
    all_goals
      simp only [execOp, Instr.sliceAt, Instr.slice, Instr.sliceBounds, h1, Sem.run_bind, run_underlying hu, Result.andThen_ok, Option.map_none, Option.map_some, Option.isSome_none, Bool.false_eq_true, if_false, if_true, Sem.run_pure] at hL hH ⊢
      try simp only [hL, hH, Result.andThen_ok, Go.sizeOf, typeInfo, Sem.run_bind, run_program, hie, Sem.run_pure]
      try simp [hie]
  · refine ⟨.slice (some (if cap = m then ⟨b, off, none⟩ else ⟨b, off + m * Rp.size α, none⟩)) (n - m) (cap - m), ?_, of_list.2 (sl_part h2 h3 h4 h7 h8 h9 hmn hn)⟩
    have hL : ∀ v, v = Value.int .i64 m → (Instr.sliceBound v n .sliceB).run c.P W = .ok m W := fun v hv => run_sliceB hmn hv
    have hH : ∀ v, v = Value.int .i64 n → (Instr.sliceBound v cap .sliceAcap).run c.P W = .ok n W := fun v hv => run_sliceB (by omega) hv
    have hfin : (if cap = m then (some ⟨b, off, none⟩ : Option Addr) else (some (Addr.add ⟨b, off, none⟩ (m * Rp.size α)))) = some (if cap = m then ⟨b, off, none⟩ else ⟨b, off + m * Rp.size α, none⟩) := by
      split <;> simp [addr_add]
    generalize hin : (n : Int) = nI at hhi
    generalize him : (m : Int) = mI at hlo
    generalize hxl : (xs.length : Int) = xl at hhi
    generalize hzz : (0 : Int) = zz at hlo
    cases hlo with
    | none =>
      have hm0 : m = 0 := by omega
      cases hhi with
      | none =>
        have hnx : n = xs.length := by omega
        subst hnx
        subst hm0
        simp [execOp, Instr.sliceAt, Instr.slice, Instr.sliceBounds, h1, run_underlying hu, Go.sizeOf, typeInfo, hie, hsz, addr_add]
      | some hl =>
        have h5 := of_int.1 (hl a W s)
        rw [← hin] at h5
        have h6 := hH _ h5
        subst hm0
        simp [execOp, Instr.sliceAt, Instr.slice, Instr.sliceBounds, h1, run_underlying hu, Go.sizeOf, typeInfo, hie, hsz, addr_add, h6]
    | some hl =>
      have h5 := of_int.1 (hl a W s)
      rw [← him] at h5
      have h6 := hL _ h5
      cases hhi with
      | none =>
        have hnx : n = xs.length := by omega
        subst hnx
        simp only [execOp, Instr.sliceAt, Instr.slice, Instr.sliceBounds, h1, Sem.run_bind, run_underlying hu, Result.andThen_ok, Option.map_none, Option.map_some, Option.isSome_none, Bool.false_eq_true, if_false, if_true, Sem.run_pure, h6, Go.sizeOf, typeInfo, run_program, hie, hsz]
        rw [← hfin]
      | some hl' =>
        have h5' := of_int.1 (hl' a W s)
        rw [← hin] at h5'
        have h6' := hH _ h5'
        simp only [execOp, Instr.sliceAt, Instr.slice, Instr.sliceBounds, h1, Sem.run_bind, run_underlying hu, Result.andThen_ok, Option.map_none, Option.map_some, Option.isSome_none, Bool.false_eq_true, if_false, if_true, Sem.run_pure, h6, h6', Go.sizeOf, typeInfo, run_program, hie, hsz]
        rw [← hfin]
end
end Gv

namespace Gv
open Go
set_option linter.unusedVariables false
set_option linter.unusedSimpArgs false

/-- the slice value at the head of a block of the call's own, or nil -/
def slv : Option Nat → Nat → Nat → Value
  | some p, n, cap => .slice (some ⟨p, 0, none⟩) n cap
  | none, _, _ => .slice none 0 0

theorem set_ks_none {L : List Ent} {i : Nat} {cp : CP} : ∀ k ∈ ks (L.set i ⟨none, cp⟩), ∃ j e, j ≠ i ∧ L[j]? = some e ∧ e.key = some k := by
  intro k hk
  obtain ⟨e, he, hek⟩ := mem_ks.1 hk
  obtain ⟨j, hj⟩ := List.mem_iff_getElem?.1 he
  rw [List.getElem?_set] at hj
  split at hj
  · split at hj
    · simp only [Option.some.injEq] at hj; subst hj; cases hek
    · cases hj
  · rename_i hne
    exact ⟨j, e, fun h => hne h.symm, hj, hek⟩

theorem ks_set_none_sub {L : List Ent} {i : Nat} {cp : CP} : ks (L.set i ⟨none, cp⟩) |>.Sublist (ks L) := by
  induction L generalizing i with
  | nil => simp [ks]
  | cons x r ih =>
    cases i with
    | zero =>
      cases hk : x.key with
      | none => simp [ks, hk]
      | some p => simp [ks, hk]
    | succ i =>
      cases hk : x.key with
      | none => simpa [ks, hk] using ih
      | some p => simpa [ks, hk] using ih

/-- an entry is struck out -/
theorem St.kill {c E L a W} (h : St c E L a W) (i : Nat) : St c E (L.set i ⟨none, .dead⟩) a W := by
  have hsub := ks_set_none_sub (L := L) (i := i) (cp := .dead)
  have hk : ∀ k ∈ ks (L.set i ⟨none, .dead⟩), k ∈ ks L := fun k hk => hsub.subset hk
  have hext : Ext (ks L ++ c.A0) W (ks (L.set i ⟨none, .dead⟩) ++ c.A0) W := .drop fun k hm => by
    rcases List.mem_append.1 hm with hm | hm
    · exact List.mem_append.2 (.inl (hk k hm))
    · exact List.mem_append.2 (.inr hm)
  exact
  { defers := h.defers
    size := h.size
    env := fun t τ hl => let ⟨v, h1, h2⟩ := h.env t τ hl; ⟨v, h1, τ.mono hext h2⟩
    fr := h.fr
    own := fun e he => by
      obtain ⟨j, hj⟩ := List.mem_iff_getElem?.1 he
      rw [List.getElem?_set] at hj
      split at hj
      · split at hj
        · simp only [Option.some.injEq] at hj; subst hj; trivial
        · cases hj
      · have h1 := h.own e (List.mem_of_getElem? hj)
        unfold Ent.ok at *
        split at h1
        · obtain ⟨o', ho, hh⟩ := h1
          exact ⟨o', ho, CP.mono _ hext hh⟩
        · exact h1
    nodup := h.nodup.sublist hsub
    lt := fun k hm => h.lt k (hk k hm)
    mine := fun k hm => h.mine k (hk k hm)
    old := fun k hm => ⟨(h.old k hm).1, fun h2 => (h.old k hm).2 (hk k h2)⟩ }

theorem St.not_left {c E L a W} (h : St c E L a W) {i p : Nat} {cp : CP} (hi : L[i]? = some ⟨some p, cp⟩) : p ∉ ks (L.set i ⟨none, .dead⟩) ++ c.A0 := by
  intro hm
  rcases List.mem_append.1 hm with hm | hm
  · obtain ⟨j, e, hne, hj, hek⟩ := set_ks_none p hm
    exact hne (ks_inj h.nodup hj hi hek rfl)
  · exact (h.old p hm).2 (mem_ks.2 ⟨_, List.mem_of_getElem? hi, rfl⟩)

theorem reps_prefix {α : Type} [Rp α] {A W} {cs : Array Value} {xs : List α} {cap : Nat} (h : cs.size = cap * Rp.size α) (hn : xs.length ≤ cap) (hr : Reps A W (cs.toList.take (xs.length * Rp.size α)) xs) :
    0 + xs.length * Rp.size α ≤ cs.size ∧ Reps A W ((cs.toList.drop 0).take (xs.length * Rp.size α)) xs := by
  refine ⟨?_, by simpa using hr⟩
  rw [h, Nat.zero_add]; exact Nat.mul_le_mul_right _ hn

section
variable {c : Cx} {E : List (Nat × VP)} {L : List Ent} {ops : Array Oper} {Q : Exit → Act → World → Prop}
variable {d : Option Tmp} {ty : TypeId} {pos : String} {af : Array Edge} {g : Option (Nat × Bool)} {x y : Operand} {t t2 : TypeId}

/-- a slice of the call's own is let go: it reads as a list from here on -/
theorem St.freeze {a : Act} {W : World} {α : Type} [Rp α] {i s cap T : Nat} {key : Option Nat} {xs : List α} (h : St c E L a W) (hl : look E s = some (.eq (slv key xs.length cap))) (hL : L[i]? = some ⟨key, .row T xs cap⟩) :
    St c ((s, .of xs) :: E) (L.set i ⟨none, .dead⟩) a W := by
  have hk := h.kill i
  refine { hk with env := fun t τ hlk => ?_ }
  simp only [look] at hlk
  by_cases e : Nat.beq s t = true
  · rw [e] at hlk
    simp only [cond_true, Option.some.injEq] at hlk
    subst hlk
    have := look_beq.1 e
    subst this
    obtain ⟨v, h1, h2⟩ := h.env s _ hl
    refine ⟨v, h1, of_list.2 ?_⟩
    have h2' : v = slv key xs.length cap := h2
    subst h2'
    have ho := h.own _ (List.mem_of_getElem? hL)
    cases key with
    | none => exact .inl ⟨⟨_, rfl⟩, ho.1⟩
    | some p =>
      obtain ⟨o, hob, cs, ⟨fz, hmk, rfl⟩, hsz, hn, hcm, hr⟩ := ho
      obtain ⟨h3, h4⟩ := reps_prefix hsz hn hr
      refine .inr ⟨p, 0, cap, cs, T, fz, rfl, h.not_left hL, hob, hn, by omega, h3, ?_⟩
      have hsub := ks_set_none_sub (L := L) (i := i) (cp := .dead)
      exact h4.mono (.drop fun k hm => by
        rcases List.mem_append.1 hm with hm | hm
        · exact List.mem_append.2 (.inl (hsub.subset hm))
        · exact List.mem_append.2 (.inr hm))
  · simp only [Bool.not_eq_true] at e
    rw [e] at hlk
    exact hk.env t τ hlk

theorem Sq.freeze {l : List Oper} {α : Type} [Rp α] {key : Option Nat} {xs : List α} {cap T : Nat} (i s : Nat) (hl : look E s = some (.eq (slv key xs.length cap))) (hL : L[i]? = some ⟨key, .row T xs cap⟩)
    (k : Sq c ops Q l ((s, .of xs) :: E) (L.set i ⟨none, .dead⟩)) : Sq c ops Q l E L := fun a W st => k a W (st.freeze hl hL)
theorem To.freeze {x : Exit} {α : Type} [Rp α] {key : Option Nat} {xs : List α} {cap T : Nat} (i s : Nat) (hl : look E s = some (.eq (slv key xs.length cap))) (hL : L[i]? = some ⟨key, .row T xs cap⟩)
    (k : To c Q x ((s, .of xs) :: E) (L.set i ⟨none, .dead⟩)) : To c Q x E L := fun a W st => k a W (st.freeze hl hL)
theorem Wp.freeze {code : Code} {α : Type} [Rp α] {key : Option Nat} {xs : List α} {cap T : Nat} (i s : Nat) (hl : look E s = some (.eq (slv key xs.length cap))) (hL : L[i]? = some ⟨key, .row T xs cap⟩)
    (k : Wp c Q code ((s, .of xs) :: E) (L.set i ⟨none, .dead⟩)) : Wp c Q code E L := fun a W st => k a W (st.freeze hl hL)

/-- a nil slice begins a slice of the call's own -/
theorem St.ownNil {a : Act} {W : World} {α : Type} [Rp α] (T : TypeId) (h : St c E L a W) : St c E (⟨none, .row T ([] : List α) 0⟩ :: L) a W :=
  { h with
    own := fun e he => by
      rcases List.mem_cons.1 he with rfl | he
      · exact ⟨rfl, rfl⟩
      · exact h.own e he }
theorem Sq.own {l : List Oper} {α : Type} [Rp α] (T : TypeId) (k : Sq c ops Q l E (⟨none, .row T ([] : List α) 0⟩ :: L)) : Sq c ops Q l E L := fun a W st => k a W (st.ownNil T)

theorem look_own : Look c E L (.const (.slice none 0 0)) (.eq (slv none 0 0)) := fun _ _ _ => rfl

theorem r_lenO {key : Option Nat} {n cap : Nat} {e i T : Nat} {α : Type} [Rp α] {xs : List α} (hu : c.P.underlying t = some (.slice e)) (hx : Look c E L x (.eq (slv key n cap))) (hn : n = xs.length) (hL : L[i]? = some ⟨key, .row T xs cap⟩) : HR c E L ⟨d, .call ⟨.builtin .len, #[x], #[t]⟩, ty, pos, af, g⟩ (.of (n : Int)) := .pure fun a W s => by
  subst hn
  have h1 : a.eval x = _ := hx a W s
  have ho := s.own _ (List.mem_of_getElem? hL)
  cases key with
  | none =>
    have : xs = [] := ho.1
    subst this
    exact ⟨.int .i64 0, by simp [execOp, resolve, invoke, builtin, Builtin.len_, h1, slv, run_underlying hu, goInt], of_int.2 rfl⟩
  | some p => exact ⟨.int .i64 xs.length, by simp [execOp, resolve, invoke, builtin, Builtin.len_, h1, slv, run_underlying hu, goInt], of_int.2 rfl⟩

/-! ### append -/

theorem Reps.one {α : Type} [Rp α] {A W} {cs : List Value} {xs : List α} (h : Reps A W cs xs) : ∀ u ∈ cs, u.oneCell' = true := by
  intro u hu
  obtain ⟨j, hj⟩ := List.mem_iff_getElem?.1 hu
  have hlt := (List.getElem?_eq_some_iff.1 hj).1
  have h1 := h.1
  by_cases hs : Rp.size α = 0
  · rw [hs, Nat.mul_zero] at h1; omega
  · have hp : 0 < Rp.size α := Nat.pos_of_ne_zero hs
    have hi : j / Rp.size α < _ := (Nat.div_lt_iff_lt_mul hp).2 (by rw [h1] at hlt; exact hlt)
    refine Rp.one (h.2 _ hi) u (List.mem_iff_getElem?.2 ⟨j % Rp.size α, ?_⟩)
    rw [List.getElem?_take, if_pos (Nat.mod_lt _ hp), List.getElem?_drop, Nat.mul_comm, Nat.div_add_mod]
    exact hj

theorem reps_append {α : Type} [Rp α] {A W} {cs ds : List Value} {xs ys : List α} (h : Reps A W cs xs) (h' : Reps A W ds ys) : Reps A W (cs ++ ds) (xs ++ ys) := by
  refine ⟨by rw [List.length_append, h.1, h'.1, List.length_append, Nat.add_mul], fun i hi => ?_⟩
  rw [List.length_append] at hi
  by_cases hlt : i < xs.length
  · have h1 := h.2 i hlt
    have hle : (i + 1) * Rp.size α ≤ xs.length * Rp.size α := Nat.mul_le_mul_right _ hlt
    rw [Nat.succ_mul] at hle
    have hcl := h.1
    rw [List.drop_append_of_le_length (by omega), List.take_append_of_le_length (by simp; omega)]
    rw [List.getElem_append_left hlt]
    exact h1
  · have h1 := h'.2 (i - xs.length) (by omega)
    have e : i * Rp.size α = cs.length + (i - xs.length) * Rp.size α := by
      rw [h.1, ← Nat.add_mul]; congr 1; omega
    rw [e, List.drop_append, List.drop_of_length_le (by omega), List.nil_append, show cs.length + (i - xs.length) * Rp.size α - cs.length = (i - xs.length) * Rp.size α by omega]
    rw [List.getElem_append_right (by omega)]
    exact h1

/-- the cells of a list that is read, as an append takes them -/
theorem Sl.cells {α : Type} [Rp α] {A W v} {ys : List α} (h : Sl A W v ys) :
    (E0 v ∧ ys = []) ∨ ∃ (b off cap : Nat) (news : List Value), v = .slice (some ⟨b, off, none⟩) ys.length cap ∧ news.length = ys.length * Rp.size α ∧ (∀ (j : Nat) (u : Value), news[j]? = some u → W.cell? ((⟨b, off, none⟩ : Addr).add j) = some u) ∧
      (∀ u ∈ news, u.oneCell' = true) ∧ Reps A W news ys := by
  rcases h with h | ⟨b, off, cap, cur, T, fz, h1, h2, h3, h4, h5, h6, h7⟩
  · exact .inl h
  · refine .inr ⟨b, off, cap, _, h1, h7.1, fun j u hu => ?_, fun u hu => ?_, h7⟩
    · rw [List.getElem?_take] at hu
      split at hu
      · rw [addr_add, cell_of_row W b (off + j) cur T fz h3]
        rw [List.getElem?_drop] at hu
        simpa using hu
      · cases hu
    · exact h7.one u hu

theorem St.grow {a : Act} {W : World} (h : St c E L a W) {i : Nat} {e0 : Ent} (hi : L[i]? = some e0) {o : Obj} {cp : CP} (hc : cp.holds (ks L ++ c.A0) W o) :
    St c E (L.set i ⟨some W.heap.size, cp⟩) a (W.alloc o) := by
  have h1 := h.alloc hc
  refine h1.sub (fun e he => ?_) ?_
  · obtain ⟨j, hj⟩ := List.mem_iff_getElem?.1 he
    rw [List.getElem?_set] at hj
    split at hj
    · split at hj
      · simp only [Option.some.injEq] at hj; subst hj; simp
      · cases hj
    · exact List.mem_cons_of_mem _ (List.mem_of_getElem? hj)
  · have hnew : W.heap.size ∉ ks L := fun hm => Nat.lt_irrefl _ (h.lt _ hm)
    have key : ∀ (L : List Ent) (i : Nat) (q : Nat), q ∉ ks L → (ks L).Nodup → (ks (L.set i ⟨some q, cp⟩)).Nodup ∧ ∀ k ∈ ks (L.set i ⟨some q, cp⟩), k = q ∨ k ∈ ks L := by
      intro L
      induction L with
      | nil => intro i q _ hn; exact ⟨by simpa using hn, by simp [ks]⟩
      | cons x r ih =>
        intro i q hq hn
        cases hx : x.key with
        | none =>
          have hq' : q ∉ ks r := by simpa [ks, hx] using hq
          have hn' : (ks r).Nodup := by simpa [ks, hx] using hn
          cases i with
          | zero => exact ⟨by simp only [List.set_cons_zero, ks]; exact List.nodup_cons.2 ⟨hq', hn'⟩, fun k hk => by
              simp only [List.set_cons_zero, ks, List.mem_cons] at hk; rcases hk with rfl | hk
              · exact .inl rfl
              · exact .inr (by simpa [ks, hx] using hk)⟩
          | succ i =>
            obtain ⟨h1, h2⟩ := ih i q hq' hn'
            exact ⟨by simpa [ks, hx] using h1, fun k hk => by have := h2 k (by simpa [ks, hx] using hk); simpa [ks, hx] using this⟩
        | some p =>
          simp only [ks, hx, List.mem_cons, not_or] at hq
          simp only [ks, hx] at hn
          obtain ⟨hp, hn'⟩ := List.nodup_cons.1 hn
          cases i with
          | zero => exact ⟨by simp only [List.set_cons_zero, ks]; exact List.nodup_cons.2 ⟨hq.2, hn'⟩, fun k hk => by
              simp only [List.set_cons_zero, ks, List.mem_cons] at hk; rcases hk with rfl | hk
              · exact .inl rfl
              · exact .inr (by simp [ks, hx, hk])⟩
          | succ i =>
            obtain ⟨h1, h2⟩ := ih i q hq.2 hn'
            refine ⟨?_, fun k hk => ?_⟩
            · simp only [List.set_cons_succ, ks, hx]
              refine List.nodup_cons.2 ⟨fun hm => ?_, h1⟩
              rcases h2 p hm with e | hm'
              · exact hq.1 e.symm
              · exact hp hm'
            · simp only [List.set_cons_succ, ks, hx, List.mem_cons] at hk
              rcases hk with rfl | hk
              · exact .inr (by simp [ks, hx])
              · rcases h2 k hk with e | hm'
                · exact .inl e
                · exact .inr (by simp [ks, hx, hm'])
    exact (key L i _ hnew h.nodup).1

theorem row_new {α : Type} [Rp α] {A W} {cs ds : List Value} {xs : List α} {T cap : Nat} (h : Reps A W cs xs) (hz : ds.length = (cap - xs.length) * Rp.size α) (hn : xs.length ≤ cap) (hm : cap ≤ maxLen) {arr : Array Value} (ha : arr.toList = cs ++ ds) :
    (CP.row T xs cap).holds A W (.cells arr T (0, 0)) := by
  refine ⟨arr, ⟨_, .inl rfl, rfl⟩, ?_, hn, hm, ?_⟩
  · have : arr.size = (cs ++ ds).length := by rw [← ha]; simp
    rw [this, List.length_append, h.1, hz, ← Nat.add_mul]; congr 1; omega
  · rw [ha, ← h.1, List.take_left]; exact h

/-- append where there is room -/
theorem run_append_mk {P : Program} (w : World) (t ty e : TypeId) (i : TypeInfo) (ht : P.underlying t = some (.slice e)) (hi : P.info? e = some i)
    (g sLen sCap : Nat) (cur : Array Value) (fz : Nat × Nat) (hz : Mk fz cur.size) (hg : w.heap[g]? = some (.cells cur e fz))
    (a : Addr) (m c : Nat) (news : List Value) (hl : news.length = m * i.size) (hnews : ∀ j u, news[j]? = some u → w.cell? (a.add j) = some u) (h1 : ∀ u ∈ news, u.oneCell' = true)
    (hroom : sLen + m ≤ sCap) (hfit : sLen * i.size + news.length ≤ cur.size) :
    (Builtin.append_ #[t, t] ty #[.slice (some ⟨g, 0, none⟩) sLen sCap, .slice (some a) m c]).run P w =
      .ok (.slice (some ⟨g, 0, none⟩) (sLen + m) sCap) (w.setRow g (cur.toList.take (sLen * i.size) ++ news ++ cur.toList.drop (sLen * i.size + news.length)).toArray) := by
  have hf := run_loadCells_list (P := P) w a news hnews
  have hst := run_storeCells_mk P g (sLen * i.size) e fz news 0 cur w hz hg (by simpa using hfit) h1
  simp only [Nat.add_zero] at hst
  rw [splice] at hst
  have hf2 := hf
  rw [hl] at hf2
  simp [Builtin.append_, run_underlying ht, Go.sizeOf, typeInfo, hi, Builtin.lenOf, Builtin.firstCells, hroom, hf2, addr_add, hst]

theorem Sq.app {α : Type} [Rp α] {rest : List Oper} {dd i e bytes cap : Nat} {key : Option Nat} {xs ys r : List α} {z : α} (hu : c.P.underlying t = some (.slice e)) (te : Ty c.P e α) (zr : Zr c.P e z)
    (hby : (c.P.info? e).map (·.bytes) = some bytes) (hs : Look c E L x (.eq (slv key xs.length cap))) (hL : L[i]? = some ⟨key, .row e xs cap⟩) (hy : Look c E L y (.of ys)) (h : appM bytes xs ys = some r) (hn : Nat.blt dd c.n = true)
    (k : ∀ key' cap', Sq c ops Q rest ((dd, .eq (slv key' r.length cap')) :: E) (L.set i ⟨key', .row e r cap'⟩)) :
    Sq c ops Q (⟨some dd, .call ⟨.builtin .append, #[x, y], #[t, t]⟩, ty, pos, af, none⟩ :: rest) E L := fun a W s => by
  obtain ⟨hb1, hb2, rfl⟩ := appM_some h
  obtain ⟨ie, zv, hie, hz, hzh⟩ := zr.zero
  have hie2 : ie.size = Rp.size α := by
    obtain ⟨i2, h1, h2⟩ := te.info
    rw [hie] at h1; cases h1; exact h2
  have hbytes : ie.bytes = bytes := by simpa [hie] using hby
  have hzs : zv.cells.size = Rp.size α := by have := Rp.len (hzh [] W).2; simpa using this
  subst hbytes
  have h1 : a.eval x = _ := hs a W s
  have ho := s.own _ (List.mem_of_getElem? hL)
  have hN : dd < c.n := by simpa using hn
  have hY := (of_list.1 (hy a W s)).cells
  have hml : maxLen = 9223372036854775807 := rfl
  -- what the operation does, as one fact
  have main : ∃ key' cap' W', (Builtin.append_ #[t, t] ty #[a.eval x, a.eval y]).run c.P W = .ok (slv key' (xs ++ ys).length cap') W' ∧ St c E (L.set i ⟨key', .row e (xs ++ ys) cap'⟩) a W' := by
    cases key with
    | none =>
      obtain ⟨hx0, hc0⟩ : xs = [] ∧ cap = 0 := ho
      subst hx0
      subst hc0
      have hself : L.set i ⟨none, .row e ([] : List α) 0⟩ = L := by
        obtain ⟨hlt, he⟩ := List.getElem?_eq_some_iff.1 hL
        rw [← he]; exact List.set_getElem_self hlt
      rcases hY with ⟨⟨a0, hv⟩, rfl⟩ | ⟨b, off, cp, news, hv, hnl, hnews, h1c, hrep⟩
      · refine ⟨none, 0, W, ?_, by simpa [hself] using s⟩
        cases a0 <;> simp [h1, hv, slv, Builtin.append_, run_underlying hu, Go.sizeOf, typeInfo, hie, Builtin.lenOf, Builtin.firstCells, loadCells, loadCellsFrom]
      · by_cases hm : ys.length = 0
        · have : ys = [] := List.eq_nil_of_length_eq_zero hm
          subst this
          refine ⟨none, 0, W, ?_, by simpa [hself] using s⟩
          simp [h1, hv, slv, Builtin.append_, run_underlying hu, Go.sizeOf, typeInfo, hie, Builtin.lenOf, Builtin.firstCells, loadCells, loadCellsFrom]
        · simp only [List.length_nil, Nat.zero_add] at hb1 hb2
          have hr := run_append_nil (P := c.P) W t ty e ie zv hu hie hz ⟨b, off, none⟩ ys.length cp news (by rw [hie2]; exact hnl) hnews (by omega) (by omega) (by omega)
          refine ⟨some W.heap.size, grownCap W ys.length 0 e, _, by rw [h1, hv]; simpa [slv] using hr, ?_⟩
          have hge := grownCap_ge W ys.length 0 e
          have hle := grownCap_le_maxLen W ys.length 0 e hb2
          have := (s.world (Fr.drew W)).grow hL (o := .cells (news.toArray ++ Builtin.zeroCells zv.cells (grownCap W ys.length 0 e - ys.length)) e) (cp := .row e ([] ++ ys) (grownCap W ys.length 0 e))
            (row_new (T := e) (hrep.mono (Ext.fr (Fr.drew W))) (ds := (Builtin.zeroCells zv.cells (grownCap W ys.length 0 e - ys.length)).toList) (by rw [Array.length_toList, size_zeroCells, hzs]) hge hle (by simp))
          simpa using this
    | some p =>
      obtain ⟨ob, hob, cs, ⟨fz, hmk, rfl⟩, hsz, hxn, hcm, hrx⟩ := ho
      have hx1 : a.eval x = .slice (some ⟨p, 0, none⟩) xs.length cap := h1
      rcases hY with ⟨⟨a0, hv⟩, rfl⟩ | ⟨b, off, cp, news, hv, hnl, hnews, h1c, hrep⟩
      · refine ⟨some p, cap, W, ?_, ?_⟩
        · cases a0 <;> simp [hx1, hv, slv, Builtin.append_, run_underlying hu, Go.sizeOf, typeInfo, hie, Builtin.lenOf, Builtin.firstCells, storeCells, hxn, loadCells, loadCellsFrom]
        · have : L.set i ⟨some p, .row e (xs ++ []) cap⟩ = L := by
            obtain ⟨hlt, he⟩ := List.getElem?_eq_some_iff.1 hL
            rw [List.append_nil, ← he]; exact List.set_getElem_self hlt
          rw [this]; exact s
      · by_cases hroom : xs.length + ys.length ≤ cap
        · have hfit : xs.length * ie.size + news.length ≤ cs.size := by rw [hie2, hnl, hsz, ← Nat.add_mul]; exact Nat.mul_le_mul_right _ hroom
          have hr := run_append_mk (P := c.P) W t ty e ie hu hie p xs.length cap cs fz hmk hob ⟨b, off, none⟩ ys.length cp news (by rw [hie2]; exact hnl) hnews h1c hroom hfit
          refine ⟨some p, cap, _, by rw [hx1, hv]; simpa [slv] using hr, ?_⟩
          refine s.store hL hob ⟨_, ⟨_, ?_, rfl⟩, ?_, by simpa using hroom, hcm, ?_⟩
          · have e1 : ∀ n, n = cs.size → Mk fz n := fun n h => h ▸ hmk
            refine e1 _ ?_
            simp only [List.size_toArray, List.length_append, List.length_take, List.length_drop, Array.length_toList]; omega
          · simp only [List.size_toArray, List.length_append, List.length_take, List.length_drop, Array.length_toList]; omega
          · have hl : (cs.toList.take (xs.length * ie.size)).length = xs.length * Rp.size α := by rw [hie2]; exact hrx.1
            have hcat := reps_append hrx hrep
            rw [hie2]
            have hlen : (xs ++ ys).length * Rp.size α = (cs.toList.take (xs.length * Rp.size α) ++ news).length := by rw [hcat.1]
            have e9 : ((cs.toList.take (xs.length * Rp.size α) ++ news ++ cs.toList.drop (xs.length * Rp.size α + news.length)).toArray).toList.take ((xs ++ ys).length * Rp.size α) = cs.toList.take (xs.length * Rp.size α) ++ news := by
              rw [hlen]; exact List.take_left
            rw [List.append_assoc] at e9
            rw [e9]
            exact hcat
        · have holds : ∀ (j : Nat) u, (cs.toList.take (xs.length * Rp.size α))[j]? = some u → W.cell? ((⟨p, 0, none⟩ : Addr).add j) = some u := by
            intro j u hu'
            rw [List.getElem?_take] at hu'
            split at hu'
            · rw [addr_add, Nat.zero_add, cell_of_row W p j cs e fz hob]; simpa using hu'
            · cases hu'
          have hr := run_append_grow (P := c.P) W t ty e ie zv hu hie hz ⟨p, 0, none⟩ xs.length cap _ (by rw [hie2]; exact hrx.1) holds ⟨b, off, none⟩ ys.length cp news (by rw [hie2]; exact hnl) hnews (by omega) (by omega) (growslice_fits (by omega) hb1)
          have hge := grownCap_ge W (xs.length + ys.length) cap e
          have hle := grownCap_le_maxLen W (xs.length + ys.length) cap e hb2
          refine ⟨some W.heap.size, grownCap W (xs.length + ys.length) cap e, _, by rw [hx1, hv]; simpa [slv] using hr, ?_⟩
          have hcat := (reps_append hrx hrep).mono (Ext.fr (Fr.drew W))
          have := (s.world (Fr.drew W)).grow hL (o := .cells ((cs.toList.take (xs.length * Rp.size α)).toArray ++ news.toArray ++ Builtin.zeroCells zv.cells (grownCap W (xs.length + ys.length) cap e - (xs.length + ys.length))) e)
            (cp := .row e (xs ++ ys) (grownCap W (xs.length + ys.length) cap e))
            (row_new (T := e) hcat (ds := (Builtin.zeroCells zv.cells (grownCap W (xs.length + ys.length) cap e - (xs.length + ys.length))).toList) (by rw [Array.length_toList, size_zeroCells, hzs, List.length_append]) (by rw [List.length_append]; exact hge) hle (by simp))
          simpa using this
  obtain ⟨key', cap', W', hrun, hst⟩ := main
  refine wpList_op rfl (R := fun v W1 => v = slv key' (xs ++ ys).length cap' ∧ W1 = W') (.of_run ?_ ⟨rfl, rfl⟩) fun v W1 ⟨hv, hw⟩ => ?_
  · simp only [execOp, resolve, invoke, builtin, Sem.run_bind, Sem.run_pure, Result.andThen_ok]
    have e1 : (#[x, y] : Array Operand).map a.eval = #[a.eval x, a.eval y] := by simp
    rw [e1, hrun]
    rfl
  · subst hv
    subst hw
    exact k key' cap' _ _ (hst.put hN rfl)

/-! ### Slices written out -/

inductive FillsL (c : Cx) (E : List (Nat × VP)) (L : List Ent) {α : Type} [Rp α] : List α → List (Nat × Operand) → List α → Prop
  | nil {b} : FillsL c E L b [] b
  | cons {b b' : List α} {v : α} {i : Nat} {x : Operand} {r : List (Nat × Operand)} : i < b.length → Look c E L x (.of v) → FillsL c E L (b.set i v) r b' → FillsL c E L b ((i, x) :: r) b'

theorem FillsL.run {α : Type} [Rp α] {b b' : List α} {ps : List (Nat × Operand)} (h : FillsL c E L b ps b') : ∀ a W, St c E L a W → ∀ cs : Array Value, Reps (ks L ++ c.A0) W cs.toList b →
    ∃ cs', Instr.fill (fun i => some (i * Rp.size α, Rp.size α)) cs (ps.map fun (i, x) => (i, a.eval x)) = some cs' ∧ Reps (ks L ++ c.A0) W cs'.toList b' ∧ b'.length = b.length := by
  induction h with
  | nil => intro a W s cs hr; exact ⟨cs, rfl, hr, rfl⟩
  | @cons b b' v i x r hi h2 _ ih =>
    intro a W s cs hr
    have hv := h2 a W s
    have hsz : (a.eval x).cells.size = Rp.size α := by have := Rp.len hv.2; simpa using this
    have hl := hr.1
    have hle : (i + 1) * Rp.size α ≤ b.length * Rp.size α := Nat.mul_le_mul_right _ hi
    rw [Nat.succ_mul] at hle
    rw [List.map_cons, run_fill rfl hsz (by simp at hl; omega)]
    obtain ⟨cs', h3, h4, h5⟩ := ih a W s (splice cs.toList (i * Rp.size α) (a.eval x).cells.toList).toArray (by
      have := reps_set hr hi hv.2
      simpa [splice, Rp.len hv.2] using this)
    exact ⟨cs', h3, h4, by rw [h5, List.length_set]⟩

theorem reps_zero {α : Type} [Rp α] {A W} {z : α} {zv : Value} (h : (VP.of z).holds A W zv) (n : Nat) (hs : Rp.size α ≠ 0) : Reps A W ((Array.range (n * Rp.size α)).map (zv.cells[· % zv.cells.size]!)).toList (List.replicate n z) := by
  have hl : zv.cells.size = Rp.size α := by have := Rp.len h.2; simpa using this
  have hp : 0 < Rp.size α := Nat.pos_of_ne_zero hs
  refine ⟨by simp, fun i hi => ?_⟩
  have hi' : i < n := by simpa using hi
  have hle : (i + 1) * Rp.size α ≤ n * Rp.size α := Nat.mul_le_mul_right _ hi'
  rw [Nat.succ_mul] at hle
  have : ((((Array.range (n * Rp.size α)).map (zv.cells[· % zv.cells.size]!)).toList.drop (i * Rp.size α)).take (Rp.size α)) = zv.cells.toList := by
    apply List.ext_getElem?
    intro j
    rw [List.getElem?_take]
    split
    · rename_i hj
      rw [List.getElem?_drop]
      have hlt : i * Rp.size α + j < n * Rp.size α := by omega
      have hmod : (i * Rp.size α + j) % Rp.size α = j := by rw [Nat.mul_comm, Nat.mul_add_mod]; exact Nat.mod_eq_of_lt hj
      simp only [Array.getElem?_toList, Array.getElem?_map, Array.getElem?_range, hlt, if_true, Option.map_some, hl, hmod]
      rw [getElem!_pos zv.cells j (by omega)]
      simp [hl, hj]
    · rename_i hj
      symm
      simp only [Array.getElem?_toList]
      exact Array.getElem?_eq_none (by omega)
  rw [this]
  simpa using h.2

theorem r_bsl {α : Type} [Rp α] {e n : Nat} {z : α} {r : List α} {ps : List (Nat × Operand)} (hu : c.P.underlying t = some (.slice e)) (te : Ty c.P e α) (zr : Zr c.P e z) (hs : Nat.beq (Rp.size α) 0 = false) (hn : Nat.ble (n * Rp.size α) 16777216 = true)
    (hf : FillsL c E L (List.replicate n z) ps r) : HR c E L ⟨d, .buildSlice t n ps.toArray, ty, pos, af, g⟩ (.of r) := fun a W s => by
  obtain ⟨ie, zv, hie, hz, hzh⟩ := zr.zero
  have hie2 : ie.size = Rp.size α := by
    obtain ⟨i2, h1, h2⟩ := te.info
    rw [hie] at h1; cases h1; exact h2
  have hs' : Rp.size α ≠ 0 := fun h => by rw [h] at hs; cases hs
  have hz0 := reps_zero (hzh (ks L ++ c.A0) W) n hs'
  obtain ⟨cs', h3, h4, h5⟩ := hf.run a W s _ hz0
  have hlen : r.length = n := by rw [h5]; simp
  have hm : (ps.toArray.map fun (x : Nat × Operand) => (x.1, a.eval x.2)).toList = ps.map fun (i, x) => (i, a.eval x) := by simp
  have hble := Nat.le_of_ble_eq_true hn
  refine .of_run (v := .slice (some ⟨W.heap.size, 0, none⟩) n n) (W' := W.alloc (.cells cs' e)) ?_ ⟨Fr.alloc W _, of_list.2 ?_⟩
  · simp only [execOp, Instr.buildSlice, Sem.run_bind, run_underlying hu, Result.andThen_ok, Go.sizeOf, typeInfo, run_program, hie, Sem.run_pure, hie2]
    rw [if_neg (by omega)]
    try simp only [Sem.run_pure, Result.andThen_ok, Sem.run_bind]
    by_cases h0 : n * Rp.size α = 0
    · have hn0 : n = 0 := by
        rcases Nat.mul_eq_zero.1 h0 with h | h
        · exact h
        · exact absurd h hs'
      subst hn0
      simp only [Nat.zero_mul, if_true, Sem.run_pure, Result.andThen_ok]
      try simp only [Nat.zero_mul] at h3
      have e0 : ((Array.range 0).map (fun x => (#[] : Array Value)[x % (#[] : Array Value).size]!)) = ((Array.range 0).map (zv.cells[· % zv.cells.size]!)) := by simp
      simp only [pure_bind]
      rw [e0, hm, h3]
      simp [newRow]
    · simp only [h0, if_false, Sem.run_bind, zeroValue, typeInfo, run_program, Result.andThen_ok, hie, hz, Sem.run_pure]
      rw [hm, h3]
      simp [newRow]
  · have hext : Ext (ks L ++ c.A0) W (ks L ++ c.A0) (W.alloc (.cells cs' e)) := Ext.fr (Fr.alloc W _)
    refine .inr ⟨W.heap.size, 0, n, cs', e, (0, 0), by rw [hlen], fun hmem => Nat.lt_irrefl _ (s.all_lt _ hmem), ha_new W _, by omega, ?_, ?_, ?_⟩
    · have : r.length * 1 ≤ n * Rp.size α := by rw [hlen]; exact Nat.mul_le_mul_left _ (by omega)
      have : maxLen = 9223372036854775807 := rfl
      omega
    · have := h4.1; simp at this; omega
    · have h6 := h4.1
      rw [List.drop_zero, ← h6, List.take_length]
      exact h4.mono hext
end
end Gv

namespace Gv
open Go
set_option linter.unusedVariables false
set_option linter.unusedSimpArgs false

/-! ### Cells of a struct -/

theorem mem_cut {cs : List Value} {o s : Nat} {u : Value} (h : u ∈ cs.drop o) : u ∈ (cs.drop o).take s ∨ u ∈ cs.drop (o + s) := by
  rw [← List.take_append_drop s (cs.drop o)] at h
  rcases List.mem_append.1 h with h | h
  · exact .inl h
  · rw [List.drop_drop] at h; exact .inr h
theorem mem_end {cs : List Value} {n o : Nat} {u : Value} {p : Prop} (hl : cs.length = n) (ho : o = n) (h : u ∈ cs.drop o) : p := by
  rw [List.drop_of_length_le (by omega)] at h; cases h

theorem sp_len {cs ds : List Value} {o s n : Nat} (hl : cs.length = n) (hd : ds.length = s) (h : o + s ≤ n) : (cs.take o ++ ds ++ cs.drop (o + s)).length = n := by
  simp only [List.length_append, List.length_take, List.length_drop]; omega
theorem sp_same {cs ds : List Value} {o s n : Nat} (hl : cs.length = n) (hd : ds.length = s) (h : o + s ≤ n) : ((cs.take o ++ ds ++ cs.drop (o + s)).drop o).take s = ds := by
  have h1 : (cs.take o).length = o := by simp; omega
  rw [List.append_assoc, List.drop_append, h1, List.drop_of_length_le (by omega), List.nil_append, Nat.sub_self, List.drop_zero, List.take_append_of_le_length (by omega), List.take_of_length_le (by omega)]
theorem sp_other {cs ds : List Value} {o s n o2 s2 : Nat} (hl : cs.length = n) (hd : ds.length = s) (h : o + s ≤ n) (hne : o2 + s2 ≤ o ∨ o + s ≤ o2) : ((cs.take o ++ ds ++ cs.drop (o + s)).drop o2).take s2 = (cs.drop o2).take s2 := by
  apply List.ext_getElem?
  intro i
  simp only [List.getElem?_take, List.getElem?_drop]
  split
  · rename_i hi
    simp only [List.getElem?_append, List.length_append, List.length_take, List.getElem?_take, List.getElem?_drop]
    have h1 : min o cs.length = o := by omega
    rw [h1, hd]
    rcases hne with h2 | h2
    · rw [if_pos (by omega), if_pos (by omega), if_pos (by omega)]
    · rw [if_neg (by omega)]; congr 1; omega
  · rfl

/-! ### Structs out of the list of their fields -/

/-- the cells of fields, one behind the other from o on -/
structure Sxs (P : Type) where
  size : Nat
  rep : List Nat → World → List Value → Nat → P → Prop
  one : ∀ {A W cs o x n}, rep A W cs o x → cs.length = n → o + size = n → ∀ u ∈ cs.drop o, u.oneCell' = true
  mono : ∀ {A W A' W' cs o x}, Ext A W A' W' → rep A W cs o x → rep A' W' cs o x
  keep : ∀ {A W cs o x n ds p s}, rep A W cs o x → cs.length = n → ds.length = s → p + s ≤ n → p + s ≤ o → rep A W (cs.take p ++ ds ++ cs.drop (p + s)) o x
@[reducible] def sxa (B : Type) [Rp B] : Sxs B where
  size := Rp.size B
  rep A W cs o x := Rp.rep A W ((cs.drop o).take (Rp.size B)) x
  one h hl ho u hu := by
    rcases mem_cut (s := Rp.size B) hu with h1 | h0
    · exact Rp.one h u h1
    · exact mem_end hl ho h0
  mono e h := Rp.mono e h
  keep h hl hd hn hp := by rw [sp_other hl hd hn (.inr hp)]; exact h
@[reducible] def sxb (B : Type) [Rp B] {P : Type} (S : Sxs P) : Sxs (B × P) where
  size := Rp.size B + S.size
  rep A W cs o x := Rp.rep A W ((cs.drop o).take (Rp.size B)) x.1 ∧ S.rep A W cs (o + Rp.size B) x.2
  one h hl ho u hu := by
    rcases mem_cut (s := Rp.size B) hu with h1 | h0
    · exact Rp.one h.1 u h1
    · exact S.one h.2 hl (by omega) u h0
  mono e h := ⟨Rp.mono e h.1, S.mono e h.2⟩
  keep h hl hd hn hp := ⟨by rw [sp_other hl hd hn (.inr hp)]; exact h.1, S.keep h.2 hl hd hn (by omega)⟩
@[reducible] def Rp.str {T P : Type} (S : Sxs P) (to : T → P) (N : Nat) (hN : S.size = N := by rfl) : Rp T where
  size := N
  agg := true
  rep A W cs x := cs.length = N ∧ S.rep A W cs 0 (to x)
  len h := h.1
  one h := fun u hu => S.one h.2 h.1 (by omega) u (by simpa using hu)
  flat h := by cases h
  mono e h := ⟨h.1, S.mono e h.2⟩
/-- a field among fields -/
structure Sfl {P : Type} (S : Sxs P) (G : Type) [Rp G] where
  off : Nat
  get : P → G
  set : P → G → P
  inb : off + Rp.size G ≤ S.size
  get_rep : ∀ {A W cs o b}, S.rep A W cs o b → Rp.rep A W ((cs.drop (o + off)).take (Rp.size G)) (get b)
  set_rep : ∀ {A W cs n o b ds g}, cs.length = n → o + S.size ≤ n → S.rep A W cs o b → Rp.rep A W ds g → S.rep A W (cs.take (o + off) ++ ds ++ cs.drop (o + off + Rp.size G)) o (set b g)
def sf1 {B : Type} [Rp B] : Sfl (sxa B) B where
  off := 0
  get b := b
  set _ g := g
  inb := by show 0 + Rp.size B ≤ Rp.size B; omega
  get_rep h := h
  set_rep hl ho _ hg := by
    have h := sp_same hl (Rp.len hg) ho
    show Rp.rep _ _ ((List.drop _ _).take _) _
    rw [Nat.add_zero, h]; exact hg
def sf2 {B : Type} [Rp B] {P : Type} {S : Sxs P} : Sfl (sxb B S) B where
  off := 0
  get b := b.1
  set b g := (g, b.2)
  inb := by show 0 + Rp.size B ≤ Rp.size B + S.size; omega
  get_rep h := h.1
  set_rep {A W cs n o b ds g} hl ho h hg := by
    have ho : o + (Rp.size B + S.size) ≤ n := ho
    refine ⟨?_, S.keep h.2 hl (Rp.len hg) (by omega) (by omega)⟩
    rw [Nat.add_zero, sp_same hl (Rp.len hg) (by omega)]; exact hg
def sft {B : Type} [Rp B] {P : Type} {S : Sxs P} {G : Type} [Rp G] (l : Sfl S G) : Sfl (sxb B S) G where
  off := Rp.size B + l.off
  get b := l.get b.2
  set b g := (b.1, l.set b.2 g)
  inb := by have := l.inb; show Rp.size B + l.off + Rp.size G ≤ Rp.size B + S.size; omega
  get_rep h := by rw [← Nat.add_assoc]; exact l.get_rep h.2
  set_rep {A W cs n o b ds g} hl ho h hg := by
    have ho : o + (Rp.size B + S.size) ≤ n := ho
    have hi := l.inb
    have h2 := l.set_rep hl (by omega) h.2 hg
    rw [Nat.add_assoc o] at h2
    exact ⟨by rw [sp_other hl (Rp.len hg) (by omega) (.inl (by omega))]; exact h.1, h2⟩
@[reducible] def Lens.str {T P G : Type} [Rp G] {S : Sxs P} {to : T → P} {N : Nat} (l : Sfl S G) (off : Nat) (get : T → G) (set : T → G → T) (hN : S.size = N := by rfl) (ho : l.off = off := by rfl) (h1 : ∀ b, l.get (to b) = get b := by intro b; rfl) (h2 : ∀ b g, l.set (to b) g = to (set b g) := by intro b g; rfl) : @Lens T G (Rp.str S to N hN) _ :=
  @Lens.mk T G (Rp.str S to N hN) _ off get set (by have := l.inb; show off + Rp.size G ≤ N; omega)
    (fun {A W cs b} h => by have := l.get_rep h.2; rw [Nat.zero_add, ho, h1] at this; exact this)
    (fun {A W cs b ds g} h hg => by
      have h3 := l.set_rep h.1 (by omega) h.2 hg
      rw [Nat.zero_add, ho, h2] at h3
      have h4 := l.inb
      exact ⟨sp_len h.1 (Rp.len hg) (by omega), h3⟩)

/-! ### Zero values -/

class Zc (α : Type) [Rp α] [Inhabited α] where
  cells : List Value
  ok : ∀ A W, Rp.rep A W cells (default : α)

instance : Zc Bool := ⟨[.bool false], fun _ _ => rfl⟩
instance : Zc Int := ⟨[.int .i64 0], fun _ _ => rfl⟩
instance : Zc (BitVec 64) := ⟨[.int .u64 0], fun _ _ => rfl⟩
instance : Zc (BitVec 32) := ⟨[.int .u32 0], fun _ _ => rfl⟩
instance : Zc (BitVec 16) := ⟨[.int .u16 0], fun _ _ => rfl⟩
instance : Zc (BitVec 8) := ⟨[.int .u8 0], fun _ _ => rfl⟩
instance : Zc ByteArray := ⟨[.string ByteArray.empty], fun _ _ => rfl⟩
instance {α : Type} [Rp α] : Zc (List α) := ⟨[.slice none 0 0], fun _ _ => ⟨_, rfl, .inl ⟨⟨_, rfl⟩, rfl⟩⟩⟩

theorem reps_rep {α : Type} [Rp α] {A W} {zs : List Value} {z : α} (h : Rp.rep A W zs z) : ∀ n, Reps A W (List.replicate n zs).flatten (List.replicate n z)
  | 0 => ⟨by simp, fun i hi => by simp at hi⟩
  | n + 1 => by
    have h1 := reps_rep h n
    have h2 : Reps A W zs [z] := ⟨by simp [Rp.len h], fun i hi => by
      have : i = 0 := by simpa using hi
      subst this
      rw [Nat.zero_mul, List.drop_zero, ← Rp.len h, List.take_length]; exact h⟩
    have := reps_append h2 h1
    simpa [List.replicate_succ] using this

instance {α : Type} [Rp α] [Inhabited α] [Zc α] {n : Nat} : Zc (Vector α n) := ⟨(List.replicate n (Zc.cells α)).flatten, fun A W => by
  have := reps_rep (Zc.ok (α := α) A W) n
  show Reps A W _ (Vector.replicate n default).toList
  simpa using this⟩

/-- the zero value, written out of its cells -/
def zval (α : Type) [Rp α] [Inhabited α] [Zc α] : Value := if Rp.agg α = true then .agg (Zc.cells α).toArray else (Zc.cells α).headD undef

theorem Zr.of {P : Program} {t : TypeId} {α : Type} [Rp α] [Inhabited α] [Zc α] (h : (P.info? t).bind (·.zero) = some (zval α)) : Zr P t (default : α) where
  zero := by
    cases hi : P.info? t with
    | none => simp [hi] at h
    | some i =>
      refine ⟨i, zval α, rfl, by simpa [hi] using h, fun A W => ?_⟩
      have ok := Zc.ok (α := α) A W
      unfold zval
      cases ha : Rp.agg α with
      | true => simp only [if_true]; exact ⟨by simp [shaped, ha], by simpa [Value.cells] using ok⟩
      | false =>
        have h1 := Rp.len ok
        rw [Rp.flat ha] at h1
        obtain ⟨v, hv⟩ := List.length_eq_one_iff.1 h1
        have h3 : v.oneCell' = true := Rp.one ok v (by rw [hv]; simp)
        simp only [Bool.false_eq_true, if_false, hv, List.headD_cons]
        exact ⟨by simp [shaped, ha, h3], by rw [cells_one h3]; rw [hv] at ok; exact ok⟩

theorem Ty.of {P : Program} {t : TypeId} {α : Type} [Rp α] {d : TypeDesc} (ha : (match d with | .struct _ | .array _ _ => true | _ => false) = Rp.agg α) (hu : P.underlying t = some d) (hs : (P.info? t).map (·.size) = some (Rp.size α)) : Ty P t α := ⟨hs, d, hu, ha⟩

theorem FdA.of {P : Program} {s f o : Nat} {fs : Array Field} {fd : Field} {γ : Type} [Rp γ] (hu : P.underlying s = some (.struct fs)) (hf : fs[f]? = some fd) (ho : fd.offset = o) (tt : Ty P fd.type γ) (hs : Nat.beq (Rp.size γ) 0 = false) : FdA P s f o := by
  obtain ⟨i, h1, h2⟩ := tt.info
  exact ⟨fs, fd, i, hu, hf, ho, h1, fun h => by rw [← h2, h] at hs; cases hs⟩

theorem Ar.of {P : Program} {t n e s : Nat} {γ : Type} [Rp γ] (hu : P.underlying t = some (.array n e)) (tt : Ty P e γ) (hs : Rp.size γ = s) : Ar P t n s := by
  obtain ⟨i, h1, h2⟩ := tt.info
  exact ⟨e, i, hu, h1, by rw [h2, hs]⟩

/-! ### Programs that may fail -/

theorem bind_some {α β : Type} {m : Option α} {f : α → Option β} {r : β} (h : m.bind f = some r) : ∃ y, m = some y ∧ f y = some r := Option.bind_eq_some_iff.1 h
theorem cond_t {α : Type} {b : Bool} {p q : Option α} {r : α} (hb : b = true) (h : cond b p q = some r) : p = some r := by rw [hb] at h; exact h
theorem cond_f {α : Type} {b : Bool} {p q : Option α} {r : α} (hb : b = false) (h : cond b p q = some r) : q = some r := by rw [hb] at h; exact h
theorem some_in {α : Type} {a b : α} (h : some a = some b) : a = b := Option.some.inj h

/-- m where b says so; else the zero value -/
def condM {α : Type} [Inhabited α] (b want : Bool) (m : Option α) : Option α := if b = want then m else some default
theorem condM_some {α : Type} [Inhabited α] {b want : Bool} {m : Option α} {y : α} (h : condM b want m = some y) (hb : b = want) : m = some y := by unfold condM at h; rw [if_pos hb] at h; exact h

/-- more rounds than any loop of the program makes -/
def FUEL : Nat := 2 ^ 80

theorem St.dropL {c E L a W} (h : St c E L a W) (n : Nat) : St c E (L.drop n) a W :=
  h.sub (fun e he => List.mem_of_mem_drop he) (by
    have : (ks (L.drop n)).Sublist (ks L) := by
      induction L generalizing n with
      | nil => simp
      | cons x r ih =>
        cases n with
        | zero => simp
        | succ n =>
          have hr : ∀ n, (ks (r.drop n)).Sublist (ks r) := by
            intro n
            have key : ∀ (r : List Ent) n, (ks (r.drop n)).Sublist (ks r) := by
              intro r
              induction r with
              | nil => intro n; simp
              | cons y r ih2 =>
                intro n
                cases n with
                | zero => simp
                | succ n =>
                  simp only [List.drop_succ_cons]
                  cases hk : y.key with
                  | none => simpa [ks, hk] using ih2 n
                  | some p => simp only [ks, hk]; exact (ih2 n).cons _
            exact key r n
          simp only [List.drop_succ_cons]
          cases hk : x.key with
          | none => simpa [ks, hk] using hr n
          | some p => simp only [ks, hk]; exact (hr n).cons _
    exact h.nodup.sublist this)

section
variable {c : Cx} {E : List (Nat × VP)} {L : List Ent} {ops : Array Oper} {Q : Exit → Act → World → Prop}

/-- what is left stands behind a point where ways meet -/
def Stp (Q : Exit → Act → World → Prop) : Exit → Act → World → Prop := Q
/-- ways that meet again: E', L' hold behind both -/
theorem Wp.condM {γ : Type} {x : Operand} {b : Bool} {y z : Code} (E' : γ → List (Nat × VP)) (L' : γ → List Ent) (hl : Look c E L x (.of b)) (hM : ∀ g, To c Q .normal (E' g) (L' g))
    (ht : (∀ g, To c (Stp Q) .normal (E' g) (L' g)) → b = true → Wp c (Stp Q) y E L) (hf : (∀ g, To c (Stp Q) .normal (E' g) (L' g)) → b = false → Wp c (Stp Q) z E L) : Wp c Q (.cond x y z) E L :=
  Wp.cond hl (ht hM) (hf hM)

theorem To.meet {x : Exit} {E' : List (Nat × VP)} {L' : List Ent} (n : Nat) (hL : L.drop n = L') (h : Le E E') (k : To c Q x E' L') : To c Q x E L := fun a W s => k a W (by rw [← hL]; exact (s.dropL n).less h.look)

/-- where a round ends, with what is hidden (addresses, capacities) -/
def LQG {σ ε γ δ : Type} (c : Cx) (E : σ → γ → List (Nat × VP)) (L : σ → γ → List Ent) (xs : ε → Exit) (Ex : ε → δ → List (Nat × VP)) (Lx : ε → δ → List Ent) : σ ⊕ ε → Exit → Act → World → Prop
  | .inl s, x, a, W => x = .normal ∧ ∃ g, St c (E s g) (L s g) a W
  | .inr e, x, a, W => x ≠ .normal ∧ x = xs e ∧ ∃ g, St c (Ex e g) (Lx e g) a W

theorem To.roundG {σ ε γ δ : Type} {E' : σ → γ → List (Nat × VP)} {L' : σ → γ → List Ent} {xs : ε → Exit} {Ex : ε → δ → List (Nat × VP)} {Lx : ε → δ → List Ent} {s : σ} (g : γ) (n : Nat)
    (hL : L.drop n = L' s g) (h : Le E (E' s g)) : To c (LQG c E' L' xs Ex Lx (.inl s)) .normal E L := fun a W st => ⟨rfl, g, by rw [← hL]; exact (st.dropL n).less h.look⟩
theorem To.leaveG {σ ε γ δ : Type} {E' : σ → γ → List (Nat × VP)} {L' : σ → γ → List Ent} {xs : ε → Exit} {Ex : ε → δ → List (Nat × VP)} {Lx : ε → δ → List Ent} {e : ε} {x : Exit} (g : δ) (n : Nat)
    (hx : x = xs e) (hn : x ≠ .normal) (hL : L.drop n = Lx e g) (h : Le E (Ex e g)) : To c (LQG c E' L' xs Ex Lx (.inr e)) x E L := fun a W st => ⟨hn, hx, g, by rw [← hL]; exact (st.dropL n).less h.look⟩

theorem Wp.loopG {σ ε γ δ : Type} {body : Code} {N : Nat} {b : σ → Option (σ ⊕ ε)} {s0 : σ} {e : ε} (hl : loopM N b s0 = some e)
    (E' : σ → γ → List (Nat × VP)) (L' : σ → γ → List Ent) (xs : ε → Exit) (Ex : ε → δ → List (Nat × VP)) (Lx : ε → δ → List Ent) (g0 : γ) (hL : L = L' s0 g0) (hE : Le E (E' s0 g0))
    (hbody : ∀ s r, b s = some r → ∀ g, Wp c (LQG c E' L' xs Ex Lx r) body (E' s g) (L' s g))
    (hafter : ∀ g, To c Q (xs e) (Ex e g) (Lx e g)) : Wp c Q (.loop body) E L := fun a W st => by
  subst hL
  exact loop_core b (fun s a W => ∃ g, St c (E' s g) (L' s g) a W) (fun e x a W => x = xs e ∧ ∃ g, St c (Ex e g) (Lx e g) a W)
    (fun s r hs a W ⟨g, hI⟩ => wpIn_mono (hbody s r hs g a W hI) (fun x a W h => by
      cases r with
      | inl s' => exact h
      | inr e' => exact ⟨h.1, h.2⟩)) Q e (fun x a W ⟨hx, g, hs⟩ => by subst hx; exact hafter g a W hs) hl ⟨g0, st.less hE.look⟩
end
end Gv

namespace Gv
open Go
set_option linter.unusedVariables false
set_option linter.unusedSimpArgs false

theorem HR.as {c E L o} {α : Type} [Rp α] {a b : α} (h : HR c E L o (.of a)) (e : a = b) : HR c E L o (.of b) := by subst e; exact h

section
variable {c : Cx} {E : List (Nat × VP)} {L : List Ent} {d : Option Tmp} {ty : TypeId} {pos : String} {af : Array Edge} {g : Option (Nat × Bool)}

end
end Gv

namespace Gv
open Go Go.ChangeShapes Go.WideShapes Go.RowKit
set_option linter.unusedVariables false

/-- a reading of this type is of data of this kind -/
structure Arg (P : Program) (t : TypeId) (α : Type) [Rp α] : Prop where
  cells : P.cellsOf t = Rp.size α
  read : ∀ {H : Type} {enc : TypeId × Value → H} {W : World} {n : Nat} {cs : List Value} {x : DataW H × List MemPlace}, DataW.trod enc P W 0 (fun _ => true) true n t cs = some x → ∃ a : α, Rp.rep [] W cs a
  form : ∀ {W : World} {b : Nat} {v : Value}, Value.okWide P W .any b t v → shaped (Rp.agg α) v

variable {P : Program} {t e : TypeId}

theorem bool_read (hu : P.underlying t = some .bool) {H : Type} {enc : TypeId × Value → H} {W : World} {n : Nat} {cs : List Value} {x : DataW H × List MemPlace} (h : DataW.trod enc P W 0 (fun _ => true) true n t cs = some x) :
    ∃ b : Bool, cs = [.bool b] := by
  cases n with
  | zero => simp [DataW.trod] at h
  | succ n =>
    unfold DataW.trod at h
    rw [hu] at h
    split at h <;> first | exact ⟨_, rfl⟩ | (simp at h)
    all_goals simp_all
theorem Arg.bool (hu : P.underlying t = some .bool) (hc : P.cellsOf t = 1) : Arg P t Bool where
  cells := hc
  read {H enc W n cs x} h := by
    obtain ⟨b, rfl⟩ := bool_read hu h
    exact ⟨b, rfl⟩
  form {W b v} h := by
    unfold Value.okWide Cell.okWide at h
    simp only [hu] at h
    unfold Cell.ok at h
    rw [hu] at h
    cases v <;> first | rfl | simp at h

theorem int_read {k : IntKind} (hu : P.underlying t = some (.int k)) {H : Type} {enc : TypeId × Value → H} {W : World} {n : Nat} {cs : List Value} {x : DataW H × List MemPlace} (h : DataW.trod enc P W 0 (fun _ => true) true n t cs = some x) :
    ∃ z : Int, cs = [.int k z] ∧ k.min ≤ z ∧ z ≤ k.max := by
  cases n with
  | zero => simp [DataW.trod] at h
  | succ n =>
    unfold DataW.trod at h
    rw [hu] at h
    split at h <;> simp_all [Lit.wf]
theorem int_form {k : IntKind} (hu : P.underlying t = some (.int k)) {W : World} {b : Nat} {v : Value} (h : Value.okWide P W .any b t v) : v.oneCell' = true := by
  unfold Value.okWide Cell.okWide at h
  simp only [hu] at h
  unfold Cell.ok at h
  rw [hu] at h
  cases v <;> first | rfl | simp at h

theorem Arg.int (hu : P.underlying t = some (.int .i64)) (hc : P.cellsOf t = 1) : Arg P t Int where
  cells := hc
  read h := by obtain ⟨z, rfl, _⟩ := int_read hu h; exact ⟨z, rfl⟩
  form h := int_form hu h
theorem Arg.u64 (hu : P.underlying t = some (.int .u64)) (hc : P.cellsOf t = 1) : Arg P t (BitVec 64) where
  cells := hc
  read h := by
    obtain ⟨z, rfl, h1, h2⟩ := int_read hu h
    simp [IntKind.min, IntKind.max, IntKind.signed, IntKind.bits] at h1 h2
    exact ⟨BitVec.ofInt 64 z, by show [_] = [_]; simp; omega⟩
  form h := int_form hu h
theorem Arg.u32 (hu : P.underlying t = some (.int .u32)) (hc : P.cellsOf t = 1) : Arg P t (BitVec 32) where
  cells := hc
  read h := by
    obtain ⟨z, rfl, h1, h2⟩ := int_read hu h
    simp [IntKind.min, IntKind.max, IntKind.signed, IntKind.bits] at h1 h2
    exact ⟨BitVec.ofInt 32 z, by show [_] = [_]; simp; omega⟩
  form h := int_form hu h
theorem Arg.u16 (hu : P.underlying t = some (.int .u16)) (hc : P.cellsOf t = 1) : Arg P t (BitVec 16) where
  cells := hc
  read h := by
    obtain ⟨z, rfl, h1, h2⟩ := int_read hu h
    simp [IntKind.min, IntKind.max, IntKind.signed, IntKind.bits] at h1 h2
    exact ⟨BitVec.ofInt 16 z, by show [_] = [_]; simp; omega⟩
  form h := int_form hu h
theorem Arg.u8 (hu : P.underlying t = some (.int .u8)) (hc : P.cellsOf t = 1) : Arg P t (BitVec 8) where
  cells := hc
  read h := by
    obtain ⟨z, rfl, h1, h2⟩ := int_read hu h
    simp [IntKind.min, IntKind.max, IntKind.signed, IntKind.bits] at h1 h2
    exact ⟨BitVec.ofInt 8 z, by show [_] = [_]; simp; omega⟩
  form h := int_form hu h

theorem agg_form (hs : (∃ fs, P.underlying t = some (.struct fs)) ∨ (∃ n e, P.underlying t = some (.array n e))) {W : World} {b : Nat} {v : Value} (h : Value.okWide P W .any b t v) : shaped true v := by
  unfold Value.okWide at h
  rcases hs with ⟨fs, hu⟩ | ⟨n, e, hu⟩ <;> rw [hu] at h <;> exact ⟨h.choose, h.choose_spec.1⟩

theorem Arg.arr {α : Type} [Rp α] [Inhabited α] {n : Nat} (hu : P.underlying t = some (.array n e)) (he : Arg P e α) (hc : P.cellsOf t = n * Rp.size α) : Arg P t (Vector α n) where
  cells := hc
  read {H enc W m cs x} h := by
    obtain ⟨xs, q, _, _, hl, hlen, hf⟩ := DataW.trod_array hu h
    have hr : ∀ i, i < n → ∃ a : α, Rp.rep [] W ((cs.drop (i * Rp.size α)).take (Rp.size α)) a := by
      intro i hi
      have h1 := hf i hi
      rw [List.getElem?_eq_getElem (by omega)] at h1
      rw [← he.cells]
      exact he.read h1
    refine ⟨Vector.ofFn fun i => (hr i.1 i.2).choose, by rw [hl, hc]; simp, fun i hi => ?_⟩
    have hi' : i < n := by simpa using hi
    have := (hr i hi').choose_spec
    simpa using this
  form h := agg_form (.inr ⟨_, _, hu⟩) h

theorem stays_all {H : Type} {enc : TypeId × Value → H} {W W' : World} (hl : laidOutB P = true) {sp : Nat → Bool} : ∀ {ts : List TypeId} {vs : List Value} {ds : List (DataW H)} {ps : List MemPlace},
    (∀ t ∈ ts, P.readableRec t = true ∧ t < P.types.size) → DataW.TrodAll enc P W 0 (fun _ => true) true ts vs ds ps → (∀ p ∈ ps, W.sameAt W' p) → (∀ p ∈ ps, sp p.block = true) → DataW.TrodAll enc P W' 0 sp true ts vs ds ps
  | [], _, _, _, _, h, _, _ => by
    obtain ⟨rfl, rfl, rfl⟩ := trodAll_nil h
    exact rfl
  | _ :: _, _, _, _, ht, h, hs, hp => by
    obtain ⟨v, vs1, d, ds1, p, q, rfl, rfl, rfl, h1, h2⟩ := trodAll_cons h
    have h0 := ht _ (List.mem_cons_self ..)
    exact ⟨p, q, WideElems.Trod_stays hl h0.1 h0.2 h1 (fun x hx => hs x (by simp [hx])) (fun x hx => hp x (by simp [hx])),
      stays_all hl (fun t htm => ht t (List.mem_cons_of_mem _ htm)) h2 (fun x hx => hs x (by simp [hx])) (fun x hx => hp x (by simp [hx])), rfl⟩

theorem Fr.below {W W' : World} (h : Fr [] W W') : Below W.heap.size W W' := ⟨h.os, h.tape, h.output, h.size, fun k hk => h.block k hk (by simp)⟩

/-- what a law's statement asks for behind the call: true has come back, and each argument reads as it did -/
theorem post_law {H : Type} {enc : TypeId × Value → H} {f : Func} {s : ChangeSpec} {W W' : World} {args : Array Value} {ds gs : List (DataW H)} {before : List MemPlace} {bt : TypeId}
    (hl : laidOutB P = true) (hp : ∀ t ∈ f.params.toList, P.readableRec t = true ∧ t < P.types.size) (hr : f.resultTypes = #[bt]) (hb : P.underlying bt = some .bool) (hv : s.vars = [])
    (hs : s.fn H ds = { results := [.lit (.bool true)], args := ds })
    (hW : DataW.Whole enc P f.params.toList s.vars false W args.toList ds gs before) (hF : Fr [] W W') :
    s.post enc P f false true false false W args (.bool true) W' := by
  have hW0 := hW
  obtain ⟨p, q, hA, hV, rfl, hz, hn⟩ := hW0
  rw [hv] at hV
  obtain ⟨rfl, rfl⟩ := trodVars_none hV
  have hlt : ∀ x ∈ p, x.block < W.heap.size := fun x hx => hW.lt x (by simpa using hx)
  have hbl := hF.below
  have hsame : ∀ x ∈ p, W.sameAt W' x := fun x hx => hbl.same (hlt x hx)
  have hres : ∀ (b : Nat) (sp : Nat → Bool) (hd : Bool), DataW.TrodAll enc P W' b sp hd f.resultTypes.toList ((Value.bool true).resultList f.resultTypes.size) [.lit (.bool true)] [] := by
    intro b sp hd
    rw [hr]
    exact ⟨[], [], shut_bool hb true, rfl, rfl⟩
  refine ⟨ds, [], p ++ [], [], p, [], hW, ?_, ?_, ?_, World.keptBut_mono (fun x hx => ?_) (hbl.frame fun _ => False), fun h => by cases h⟩
  · rw [List.append_nil, hs]; exact hres _ _ _
  · rw [List.append_nil, hs]; exact stays_all hl hp hA hsame (fun x hx => by simpa using hlt x hx)
  · rw [List.append_nil, hs, hv]; rfl
  · exact hx.elim

end Gv

namespace Gv
open Go Go.ChangeShapes Go.WideShapes Go.RowKit
set_option linter.unusedVariables false
set_option linter.unusedSimpArgs false

theorem rowAt_le {P : Program} {fits : TypeId → Bool} {d : Nat} {e : TypeId} {count off n : Nat} (h : rowAt P fits d e count off n = true) : off ≤ count * P.cellsOf e := by
  cases d with
  | zero => cases h
  | succ d =>
    unfold rowAt at h
    simp only at h
    split at h
    · cases h
    · rename_i hs
      have hp : 0 < P.cellsOf e := Nat.pos_of_ne_zero hs
      have hdm := Nat.div_add_mod off (P.cellsOf e)
      rw [Bool.or_eq_true] at h
      rcases h with h | h
      · simp only [Bool.and_eq_true, beq_iff_eq, decide_eq_true_eq] at h
        have : P.cellsOf e * (off / P.cellsOf e) ≤ P.cellsOf e * count := Nat.mul_le_mul_left _ (by omega)
        rw [Nat.mul_comm count]; omega
      · simp only [Bool.and_eq_true, decide_eq_true_eq] at h
        have hm := Nat.mod_lt off hp
        have : P.cellsOf e * (off / P.cellsOf e + 1) ≤ P.cellsOf e * count := Nat.mul_le_mul_left _ (by omega)
        rw [Nat.mul_add] at this
        rw [Nat.mul_comm count]; omega
theorem liesAt_le {P : Program} : ∀ {d : Nat} {e : TypeId} {count off : Nat} {u : TypeId} {n : Nat}, liesAt P d e count off u n = true → off ≤ count * P.cellsOf e
  | 0, _, _, _, _, _, h => by cases h
  | d + 1, e, count, off, u, n, h => by
    unfold liesAt at h
    rw [Bool.or_eq_true] at h
    rcases h with h | h
    · exact rowAt_le h
    · split at h
      · exact liesAt_le h
      · cases h

/-- an argument of this type is of data of this kind -/
structure ArgT (P : Program) (t : TypeId) (α : Type) [Rp α] : Prop where
  top : ∀ {H : Type} {enc : TypeId × Value → H} {W : World} {n b : Nat} {v : Value} {x : DataW H × List MemPlace}, DataW.trod enc P W 0 (fun _ => true) true n t v.cells.toList = some x → Value.okWide P W .any b t v → ∃ a : α, (VP.of a).holds [] W v

variable {P : Program} {t e : TypeId}

theorem ArgT.of {α : Type} [Rp α] (h : Arg P t α) : ArgT P t α where
  top h1 h2 := let ⟨a, h3⟩ := h.read h1; ⟨a, h.form h2, h3⟩

/-- a cell that holds a slice of data -/
theorem sli_cell {α : Type} [Rp α] (hu : P.underlying t = some (.slice e)) (he : Arg P e α) (hz : Nat.beq (Rp.size α) 0 = false) {H : Type} {enc : TypeId × Value → H} {W : World} {n b : Nat} {v : Value} {x : DataW H × List MemPlace}
    (h : DataW.trod enc P W 0 (fun _ => true) true n t [v] = some x) (hok : Cell.okWide P W .any b t v) : ∃ a : List α, (VP.of a).holds [] W v := by
    have hs0 : Rp.size α ≠ 0 := fun h => by rw [h] at hz; cases hz
    rcases DataW.trod_slice hu h with ⟨h1, _⟩ | ⟨a, len, cap, elems, rest, m, _, h1, _, _, hlc, hcm, hel, hels, hrest, _⟩
    · have := List.singleton_inj.1 h1
      subst this
      exact ⟨[], of_list.2 (.inl ⟨⟨_, rfl⟩, rfl⟩)⟩
    · have := List.singleton_inj.1 h1
      subst this
      unfold Cell.okWide at hok
      simp only [hu] at hok
      unfold Cell.ok at hok
      rw [hu] at hok
      obtain ⟨_, _, _, hspot, row, cells, hsh, hlie⟩ := hok
      obtain ⟨ab, ao, asp⟩ := a
      simp only at hspot
      subst hspot
      unfold World.shape? at hsh
      cases hob : W.heap[ab]? with
      | none => rw [hob] at hsh; cases hsh
      | some ob =>
        rw [hob] at hsh
        cases ob <;> simp at hsh
        rename_i cs0 T fz
        obtain ⟨hT, hsz⟩ := hsh
        have hoff : ao ≤ cs0.size := by
          have h5 : ao ≤ _ := liesAt_le hlie
          have h6 := Nat.div_mul_le_self cells (P.cellsOf row)
          omega
        have hsize := he.cells
        -- element by element
        have hrep : ∀ i, i < len → ∃ a : α, Rp.rep [] W ((cs0.toList.drop (ao + i * Rp.size α)).take (Rp.size α)) a ∧ ao + (i + 1) * Rp.size α ≤ cs0.size := fun i hi => by
          have h5 := hels i hi
          rw [List.getElem?_eq_getElem (by omega)] at h5
          obtain ⟨cs', h6, h7⟩ := Option.bind_eq_some_iff.1 h5
          obtain ⟨_, hl, hc⟩ := World.cells?_some h6
          rw [hsize] at hl hc h6
          have hcell : ∀ j, j < Rp.size α → cs0[ao + i * Rp.size α + j]? = cs'[j]? := fun j hj => by
            rw [← hc j hj, addr_add, addr_add]
            unfold World.cell?
            simp [hob]
          have heq : (cs0.toList.drop (ao + i * Rp.size α)).take (Rp.size α) = cs' := by
            apply List.ext_getElem?
            intro j
            rw [List.getElem?_take]
            by_cases hj : j < Rp.size α
            · rw [if_pos hj, List.getElem?_drop, Array.getElem?_toList]; exact hcell j hj
            · rw [if_neg hj]; symm; exact List.getElem?_eq_none (by omega)
          obtain ⟨a, ha⟩ := he.read h7
          refine ⟨a, by rw [heq]; exact ha, ?_⟩
          have h8 := hcell (Rp.size α - 1) (by omega)
          rw [List.getElem?_eq_getElem (show Rp.size α - 1 < cs'.length by omega)] at h8
          have := (Array.getElem?_eq_some_iff.1 h8).1
          rw [Nat.add_mul]; omega
        have hex : ∃ xs : List α, xs.length = len ∧ ∀ i (h : i < xs.length), Rp.rep [] W ((cs0.toList.drop (ao + i * Rp.size α)).take (Rp.size α)) xs[i] := by
          refine ⟨List.ofFn fun i : Fin len => (hrep i.1 i.2).choose, by simp, fun i hi => ?_⟩
          have hi' : i < len := by simpa using hi
          rw [List.getElem_ofFn]
          exact (hrep i hi').choose_spec.1
        obtain ⟨xs, hxl, hxr⟩ := hex
        have hbound : ao + xs.length * Rp.size α ≤ cs0.size := by
          rw [hxl]
          rcases Nat.eq_zero_or_pos len with h0 | h0
          · rw [h0]; omega
          · have := (hrep (len - 1) (by omega)).choose_spec.2
            rw [show len - 1 + 1 = len by omega] at this
            exact this
        refine ⟨xs, of_list.2 (.inr ⟨ab, ao, cap, cs0, T, fz, by rw [hxl], by simp, hob, by omega, by omega, hbound, ?_, fun i hi => ?_⟩)⟩
        · rw [List.length_take, List.length_drop]; simp; omega
        · have hle : (i + 1) * Rp.size α ≤ xs.length * Rp.size α := Nat.mul_le_mul_right _ hi
          rw [Nat.succ_mul] at hle
          rw [take_drop_in _ _ _ _ _ hle]
          exact hxr i hi

theorem ArgT.sli {α : Type} [Rp α] (hu : P.underlying t = some (.slice e)) (he : Arg P e α) (hz : Nat.beq (Rp.size α) 0 = false) : ArgT P t (List α) where
  top {H enc W n b v x} h hok := by
    have hok' : Cell.okWide P W .any b t v := by
      unfold Value.okWide at hok
      simp only [hu] at hok
      exact hok
    have hone : v.oneCell' = true := by
      unfold Cell.okWide at hok'
      simp only [hu] at hok'
      unfold Cell.ok at hok'
      rw [hu] at hok'
      cases v <;> first | rfl | simp at hok'
    rw [cells_one hone] at h
    exact sli_cell hu he hz h hok'

end Gv

namespace Gv
open Go
set_option linter.unusedVariables false
set_option linter.unusedSimpArgs false

theorem ks_sublist {L' L : List Ent} (h : L'.Sublist L) : (ks L').Sublist (ks L) := by
  induction h with
  | slnil => simp [ks]
  | cons e _ ih => cases hk : e.key <;> simp only [ks, hk] <;> first | exact ih | exact ih.cons _
  | cons_cons e _ ih => cases hk : e.key <;> simp only [ks, hk] <;> first | exact ih | exact ih.cons_cons _

theorem Ent.ok_mono {e : Ent} {A A' W W'} (h : e.ok A W) (x : Ext A W A' W') (hb : ∀ p, e.key = some p → W'.heap[p]? = W.heap[p]?) : e.ok A' W' := by
  unfold Ent.ok at *
  cases hk : e.key with
  | none => rw [hk] at h; exact h
  | some p =>
    rw [hk] at h
    obtain ⟨o, h1, h2⟩ := h
    exact ⟨o, by rw [hb p hk]; exact h1, CP.mono _ x h2⟩

/-- what a call leaves behind that hands back blocks of its own -/
def PostO (X A0 : List Nat) (W0 : World) {δ : Type} (ρ : δ → VP) (Lo : δ → List Ent) : Ending → World → Prop := fun e W' =>
  ∃ v d, e = .returned v ∧ Fr X W0 W' ∧ (ks (Lo d)).Nodup ∧ (∀ k ∈ ks (Lo d), k < W'.heap.size ∧ (k < W0.heap.size → k ∈ X) ∧ k ∉ A0) ∧ (∀ e ∈ Lo d, e.ok (ks (Lo d) ++ A0) W') ∧ (ρ d).holds (ks (Lo d) ++ A0) W' v

/-- the function f, called with values that are as τs say and with the blocks of Lin, hands back a value as ρ says and the blocks of Lo -/
def MeetsO (P : Program) (f : FuncId) (τs : List VP) (Lin : List Ent) {δ : Type} (ρ : δ → VP) (Lo : δ → List Ent) : Prop :=
  ∀ (A : List Nat) (W : World) (vs : List Value), (∀ k ∈ A, k < W.heap.size ∧ k ∉ ks Lin) → (ks Lin).Nodup → (∀ k ∈ ks Lin, k < W.heap.size) → (∀ e ∈ Lin, e.ok (ks Lin ++ A) W) → HoldsAll (ks Lin ++ A) W τs vs →
    Calls P f vs.toArray W (PostO (ks Lin) A W ρ Lo)

theorem MeetsO.of {P : Program} {f : FuncId} {fn : Func} {code : Code} {n : Nat} {τs : List VP} {Lin : List Ent} {δ : Type} {ρ : δ → VP} {Lo : δ → List Ent} (hf : P.funcs[f]? = some fn) (hb : fn.body = some code) (hn : fn.ntmps = n) (hlen : Nat.ble τs.length n = true)
    (h : ∀ W A, Wp ⟨P, n, W, ks Lin, A, none, []⟩ (bodyPost P fn (PostO (ks Lin) A W ρ Lo)) code (params 0 τs) Lin) : MeetsO P f τs Lin ρ Lo := by
  intro A W vs hA hnd hlt hok hv
  refine calls_of_wp hf hb (wpIn_wide.1 (h W A _ _ ?_))
  have hl := hv.length
  have hle : τs.length ≤ n := Nat.le_of_ble_eq_true hlen
  exact
  { defers := rfl
    size := by simp [hn, hl]; omega
    env := fun t τ hl' => by
      obtain ⟨_, v, h2, h3⟩ := look_params hv 0 t τ hl'
      refine ⟨v, ?_, h3⟩
      have hlt : t < vs.length := (List.getElem?_eq_some_iff.1 h2).1
      rw [Array.getElem?_append_left (by simpa using hlt)]
      simpa using h2
    fr := .refl _ _
    own := hok
    nodup := hnd
    lt := hlt
    mine := fun k hk _ => hk
    old := hA }

section
variable {c : Cx} {E : List (Nat × VP)} {L : List Ent} {ops : Array Oper} {Q : Exit → Act → World → Prop}
variable {d : Option Tmp} {ty : TypeId} {pos : String} {af : Array Edge} {g : Option (Nat × Bool)} {x y : Operand} {t t2 : TypeId}

/-- the result that a slot or a variable holds -/
def RVO (c : Cx) (E : List (Nat × VP)) (L : List Ent) (r : ResultVar) (τ : VP) : Prop :=
  ∀ a W, St c E L a W → ∃ v, (resOne a.tmps r).run c.P W = .ok v W ∧ τ.holds (ks L ++ c.A0) W v

theorem rvo_t {t : Nat} {τ : VP} (h : look E t = some τ) : RVO c E L (.tmp t) τ := fun a W s => by
  obtain ⟨v, h1, h2⟩ := s.env t τ h
  exact ⟨v, by simp [resOne, h1], h2⟩
theorem rvo_c {t : Nat} {ty : TypeId} {i p : Nat} {α : Type} [Rp α] {x : α} (tt : Ty c.P ty α) (h : look E t = some (.eq (.pointer (some ⟨p, 0, none⟩)))) (hL : L[i]? = some ⟨some p, .var x⟩) : RVO c E L (.cell t ty) (.of x) := fun a W s => by
  obtain ⟨v, h1, h2⟩ := s.env t _ h
  subst h2
  obtain ⟨ob, hob, cs, T, rfl, hrep⟩ := s.own _ (List.mem_of_getElem? hL)
  have hl : cs.toList.length = Rp.size α := Rp.len hrep
  have hsz : cs.size = Rp.size α := by simpa using hl
  obtain ⟨v, h3, h4⟩ := run_loadVar_at (A := ks L ++ c.A0) (off := 0) tt hob (by omega) (by rw [List.drop_zero, ← hl, List.take_length]; exact hrep)
  exact ⟨v, by simp [resOne, h1, asAddr, h3], h4⟩

theorem St.ends {a : Act} {W : World} (s : St c E L a W) {δ : Type} {ρ : δ → VP} {Lo : δ → List Ent} (dd : δ) (hs : (Lo dd).Sublist L) {v : Value} (hv : (ρ dd).holds (ks L ++ c.A0) W v) : PostO c.X c.A0 c.W0 ρ Lo (.returned v) W := by
  have hsub := ks_sublist hs
  have hk : ∀ k ∈ ks (Lo dd), k ∈ ks L := fun k hk => hsub.subset hk
  have hext : Ext (ks L ++ c.A0) W (ks (Lo dd) ++ c.A0) W := .drop fun k hm => by
    rcases List.mem_append.1 hm with hm | hm
    · exact List.mem_append.2 (.inl (hk k hm))
    · exact List.mem_append.2 (.inr hm)
  exact ⟨v, dd, rfl, s.fr, s.nodup.sublist hsub, fun k hm => ⟨s.lt k (hk k hm), s.mine k (hk k hm), fun ha => (s.old k ha).2 (hk k hm)⟩,
    fun e he => Ent.ok_mono (s.own e (hs.subset he)) hext fun _ _ => rfl, VP.mono _ hext hv⟩

theorem To.endO1 {fn : Func} {r : ResultVar} {τ : VP} {δ : Type} {ρ : δ → VP} {Lo : δ → List Ent} (dd : δ) (hs : (Lo dd).Sublist L) (hr : fn.results = #[r]) (hρ : ρ dd = τ) (h : RVO c E L r τ) (hds : c.ds = [] := by rfl) : To c (bodyPost c.P fn (PostO c.X c.A0 c.W0 ρ Lo)) .ret E L := fun a W s => by
  subst hρ
  obtain ⟨v, h1, h2⟩ := h a W s
  exact ⟨s.nodefers hds, v, by simp [results_eq, hr, h1], s.ends dd hs h2⟩
theorem To.endO2 {fn : Func} {r r2 : ResultVar} {τ τ2 : VP} {δ : Type} {ρ : δ → VP} {Lo : δ → List Ent} (dd : δ) (hs : (Lo dd).Sublist L) (hr : fn.results = #[r, r2]) (hρ : ρ dd = .tup [τ, τ2]) (h : RVO c E L r τ) (h2 : RVO c E L r2 τ2) (hds : c.ds = [] := by rfl) : To c (bodyPost c.P fn (PostO c.X c.A0 c.W0 ρ Lo)) .ret E L := fun a W s => by
  obtain ⟨v, h3, h4⟩ := h a W s
  obtain ⟨v2, h5, h6⟩ := h2 a W s
  exact ⟨s.nodefers hds, .tuple #[v, v2], by simp [results_eq, hr, h3, h5], s.ends dd hs (by rw [hρ]; exact ⟨_, rfl, .cons h4 (.cons h6 .nil)⟩)⟩
/-! ### A call that takes over own blocks -/

theorem bring_perm : ∀ {L : List Ent} {i : Nat} {e : Ent}, L[i]? = some e → L.Perm (e :: L.eraseIdx i)
  | [], i, e, h => by simp at h
  | x :: r, 0, e, h => by simp only [List.getElem?_cons_zero, Option.some.injEq] at h; subst h; exact .refl _
  | x :: r, i + 1, e, h => by
    simp only [List.getElem?_cons_succ] at h
    exact ((bring_perm h).cons x).trans (.swap e x _)
theorem St.bring {a : Act} {W : World} (s : St c E L a W) {i : Nat} {e : Ent} (h : L[i]? = some e) : St c E (e :: L.eraseIdx i) a W := s.perm (bring_perm h)
theorem Sq.bring {l : List Oper} (i : Nat) {e : Ent} (h : L[i]? = some e) (k : Sq c ops Q l E (e :: L.eraseIdx i)) : Sq c ops Q l E L := fun a W s => k a W (s.bring h)
theorem To.bring {z : Exit} (i : Nat) {e : Ent} (h : L[i]? = some e) (k : To c Q z E (e :: L.eraseIdx i)) : To c Q z E L := fun a W s => k a W (s.bring h)

theorem St.after {a : Act} {W W' : World} {Lin Lr : List Ent} (s : St c E (Lin ++ Lr) a W) {Lo : List Ent} (hf : Fr (ks Lin) W W') (hnd : (ks Lo).Nodup)
    (hk : ∀ k ∈ ks Lo, k < W'.heap.size ∧ (k < W.heap.size → k ∈ ks Lin) ∧ k ∉ ks Lr ++ c.A0) (hok : ∀ e ∈ Lo, e.ok (ks Lo ++ (ks Lr ++ c.A0)) W') : St c E (Lo ++ Lr) a W' := by
  have hext : Ext (ks (Lin ++ Lr) ++ c.A0) W (ks (Lo ++ Lr) ++ c.A0) W' :=
    ⟨hf.size, fun k hlt ha => hf.block k hlt fun hm => ha (by rw [ks_append]; simp [hm]), fun k hm hlt => by
      rw [ks_append] at hm ⊢
      simp only [List.mem_append] at hm ⊢
      rcases hm with (hm | hm) | hm
      · exact .inl (.inl ((hk k hm).2.1 hlt))
      · exact .inl (.inr hm)
      · exact .inr hm⟩
  have hnd0 := s.nodup
  rw [ks_append] at hnd0
  obtain ⟨hn1, hn2, hn3⟩ := List.nodup_append.1 hnd0
  have hlr : ∀ k ∈ ks Lr, k < W.heap.size ∧ k ∉ ks Lin := fun k hm => ⟨s.lt k (by rw [ks_append]; exact List.mem_append.2 (.inr hm)), fun h => hn3 k h k hm rfl⟩
  exact
  { defers := s.defers
    size := s.size
    env := fun t τ hl => let ⟨v, h1, h2⟩ := s.env t τ hl; ⟨v, h1, τ.mono hext h2⟩
    fr := ⟨hf.os.trans s.fr.os, hf.tape.trans s.fr.tape, hf.output.trans s.fr.output, trivial, Nat.le_trans s.fr.size hf.size, fun k hlt hx =>
      (hf.block k (Nat.lt_of_lt_of_le hlt s.fr.size) fun hm => hx (s.mine k (by rw [ks_append]; exact List.mem_append.2 (.inl hm)) hlt)).trans (s.fr.block k hlt hx)⟩
    own := fun e he => by
      rcases List.mem_append.1 he with he | he
      · have := hok e he
        refine Ent.ok_mono this (.drop fun k hm => ?_) fun _ _ => rfl
        rw [ks_append] at hm
        simp only [List.mem_append] at hm ⊢
        rcases hm with (hm | hm) | hm
        · exact .inl hm
        · exact .inr (.inl hm)
        · exact .inr (.inr hm)
      · exact Ent.ok_mono (s.own e (List.mem_append.2 (.inr he))) hext fun p hp => by
          have := hlr p (mem_ks.2 ⟨e, he, hp⟩)
          exact hf.block p this.1 this.2
    nodup := by
      rw [ks_append]
      exact List.nodup_append.2 ⟨hnd, hn2, fun k h1 j h2 e => by subst e; exact (hk k h1).2.2 (List.mem_append.2 (.inl h2))⟩
    lt := fun k hm => by
      rw [ks_append] at hm
      rcases List.mem_append.1 hm with hm | hm
      · exact (hk k hm).1
      · exact Nat.lt_of_lt_of_le (hlr k hm).1 hf.size
    mine := fun k hm h0 => by
      rw [ks_append] at hm
      have hlt : k < W.heap.size := Nat.lt_of_lt_of_le h0 s.fr.size
      rcases List.mem_append.1 hm with hm | hm
      · exact s.mine k (by rw [ks_append]; exact List.mem_append.2 (.inl ((hk k hm).2.1 hlt))) h0
      · exact s.mine k (by rw [ks_append]; exact List.mem_append.2 (.inr hm)) h0
    old := fun k hm => by
      obtain ⟨h1, h2⟩ := s.old k hm
      refine ⟨Nat.lt_of_lt_of_le h1 hf.size, fun h => ?_⟩
      rw [ks_append] at h h2
      rcases List.mem_append.1 h with h | h
      · exact (hk k h).2.2 (List.mem_append.2 (.inr hm))
      · exact h2 (List.mem_append.2 (.inr h)) }

theorem Looks.holdsO {xs : List Operand} {τs : List VP} (h : Looks c E L xs τs) {a : Act} {W : World} (s : St c E L a W) : HoldsAll (ks L ++ c.A0) W τs (xs.map a.eval) := h.holds a W s

theorem opto_callO {a : Act} {W : World} {f : FuncId} {xs : List Operand} {ats : Array TypeId} {τs : List VP} {Lin Lr : List Ent} {δ : Type} {ρ : δ → VP} {Lo : δ → List Ent} (en : En c.P f) (h : MeetsO c.P f τs Lin ρ Lo)
    (s : St c E (Lin ++ Lr) a W) (hx : HoldsAll (ks (Lin ++ Lr) ++ c.A0) W τs (xs.map a.eval)) :
    OpTo c.P ⟨d, .call ⟨.value (.func f), xs.toArray, ats⟩, ty, pos, af, g⟩ a W fun v W' => ∃ dd, St c E (Lo dd ++ Lr) a W' ∧ (ρ dd).holds (ks (Lo dd ++ Lr) ++ c.A0) W' v := by
  have hnd0 := s.nodup
  rw [ks_append] at hnd0
  obtain ⟨hn1, hn2, hn3⟩ := List.nodup_append.1 hnd0
  have hset : Ext (ks (Lin ++ Lr) ++ c.A0) W (ks Lin ++ (ks Lr ++ c.A0)) W := .drop fun k hm => by
    rw [ks_append]
    simp only [List.mem_append] at hm ⊢
    rcases hm with hm | hm | hm
    · exact .inl (.inl hm)
    · exact .inl (.inr hm)
    · exact .inr hm
  have hA : ∀ k ∈ ks Lr ++ c.A0, k < W.heap.size ∧ k ∉ ks Lin := fun k hm => by
    rcases List.mem_append.1 hm with hm | hm
    · exact ⟨s.lt k (by rw [ks_append]; exact List.mem_append.2 (.inr hm)), fun h => hn3 k h k hm rfl⟩
    · obtain ⟨h1, h2⟩ := s.old k hm
      exact ⟨h1, fun h => h2 (by rw [ks_append]; exact List.mem_append.2 (.inl h))⟩
  have hlt : ∀ k ∈ ks Lin, k < W.heap.size := fun k hm => s.lt k (by rw [ks_append]; exact List.mem_append.2 (.inl hm))
  refine .of_enter (f := f) (args := (xs.map a.eval).toArray) (W' := W) (by simp [execOp, resolve, Deferred.ofValue, Act.eval, invoke, en.run]) ?_
  refine (h (ks Lr ++ c.A0) W (xs.map a.eval) hA hn1 hlt (fun e he => Ent.ok_mono (s.own e (List.mem_append.2 (.inl he))) hset fun _ _ => rfl) (hx.mono hset)).mono fun e W' ⟨v, dd, he, hf, h1, h2, h3, h4⟩ => ?_
  refine ⟨v, he, dd, s.after hf h1 h2 h3, (ρ dd).mono (.drop fun k hm => ?_) h4⟩
  rw [ks_append] at hm
  simp only [List.mem_append] at hm ⊢
  rcases hm with (hm | hm) | hm
  · exact .inl hm
  · exact .inr (.inl hm)
  · exact .inr (.inr hm)

end
end Gv

namespace Gv
open Go
set_option linter.unusedVariables false
set_option linter.unusedSimpArgs false

def lset {α : Type} (xs : List α) (k : Nat) (v : α) : List α := xs.set k v

section
variable {c : Cx} {E : List (Nat × VP)} {L : List Ent} {ops : Array Oper} {Q : Exit → Act → World → Prop}
variable {d : Option Tmp} {ty : TypeId} {pos : String} {af : Array Edge} {g : Option (Nat × Bool)} {x y : Operand} {t t2 : TypeId}

/-- the block behind an own row that is not empty -/
theorem St.rowAt {a : Act} {W : World} (s : St c E L a W) {i : Nat} {key : Option Nat} {T cap : Nat} {α : Type} [Rp α] {xs : List α} (hL : L[i]? = some ⟨key, .row T xs cap⟩) (hx : 0 < xs.length) :
    ∃ p cs fz, Mk fz cs.size ∧ key = some p ∧ W.heap[p]? = some (.cells cs T fz) ∧ cs.size = cap * Rp.size α ∧ xs.length ≤ cap ∧ cap ≤ maxLen ∧ Reps (ks L ++ c.A0) W (cs.toList.take (xs.length * Rp.size α)) xs := by
  have ho := s.own _ (List.mem_of_getElem? hL)
  cases key with
  | none => have : xs = [] := ho.1; subst this; simp at hx
  | some p =>
    obtain ⟨o, hob, cs, ⟨fz, hmk, rfl⟩, h1, h2, h3, h4⟩ := ho
    exact ⟨p, cs, fz, hmk, rfl, hob, h1, h2, h3, h4⟩

theorem r_iaO {e i k T cap : Nat} {key : Option Nat} {α : Type} [Rp α] {xs : List α} {z : Int} (hu : c.P.underlying t = some (.slice e)) (te : Ty c.P e α) (hx : Look c E L x (.eq (slv key xs.length cap))) (hy : Look c E L y (.of z))
    (hL : L[i]? = some ⟨key, .row T xs cap⟩) (hk : k < xs.length ∧ z = k) : HR c E L ⟨d, .indexAddr t x y, ty, pos, af, g⟩ (.eq (.pointer (some ⟨key.getD 0, k * Rp.size α, none⟩))) := .pure fun a W s => by
  obtain ⟨h6, rfl⟩ := hk
  obtain ⟨p, cs, fz, hmk, rfl, _⟩ := s.rowAt hL (by omega)
  have h1 : a.eval x = _ := hx a W s
  have h5 := of_int.1 (hy a W s)
  obtain ⟨ie, hie, hsz⟩ := te.info
  exact ⟨_, by simp [execOp, Instr.indexAt, asIntOf, run_underlying hu, h1, h5, h6, Go.sizeOf, typeInfo, hie, hsz, addr_add, slv]; rfl, by simp [VP.eq]⟩

theorem row_in {k n s : Nat} (h : k < n) : k * s + s ≤ n * s := by rw [← Nat.succ_mul]; exact Nat.mul_le_mul_right _ h

theorem r_loadR {i k T cap o : Nat} {key : Option Nat} {α γ : Type} [Rp α] [Inhabited α] [Rp γ] {xs : List α} (l : Lens α γ) {r : γ} (tt : Ty c.P t γ) (hx : Look c E L x (.eq (.pointer (some ⟨key.getD 0, o, none⟩))))
    (hL : L[i]? = some ⟨key, .row T xs cap⟩) (hk : k < xs.length) (ho : o = k * Rp.size α + l.off) (hr : l.get (lget xs k) = r) : HR c E L ⟨d, .load t x, ty, pos, af, g⟩ (.of r) := .pure fun a W s => by
  subst ho; subst hr
  obtain ⟨p, cs, fz, hmk, rfl, hob, h1, h2, h3, h4⟩ := s.rowAt hL (by omega)
  have hin := row_in (s := Rp.size α) hk
  have hl := l.inb
  have hle : xs.length * Rp.size α ≤ cap * Rp.size α := Nat.mul_le_mul_right _ h2
  have hrep := l.get_rep (h4.2 k hk)
  rw [take_drop_in _ _ _ _ _ l.inb, List.drop_take, List.take_take, Nat.min_eq_left (by omega)] at hrep
  rw [lget_eq xs hk]
  obtain ⟨v, h5, h6⟩ := run_loadVar_at (A := ks L ++ c.A0) tt hob (off := k * Rp.size α + l.off) (by omega) hrep
  have h7 : a.eval x = _ := hx a W s
  simp only [Option.getD_some] at h7
  exact ⟨v, by simp [execOp, Instr.loadAt, Instr.sureAddr, h7, h5], h6⟩

theorem Sq.storeR {rest : List Oper} {i k T cap o : Nat} {key : Option Nat} {α γ : Type} [Rp α] [Inhabited α] [Rp γ] {xs r : List α} {v : γ} (l : Lens α γ) (tt : Ty c.P t γ) (hx : Look c E L x (.eq (.pointer (some ⟨key.getD 0, o, none⟩)))) (hy : Look c E L y (.of v))
    (hL : L[i]? = some ⟨key, .row T xs cap⟩) (hk : k < xs.length) (ho : o = k * Rp.size α + l.off) (hr : lset xs k (l.set (lget xs k) v) = r)
    (k' : Sq c ops Q rest E (L.set i ⟨key, .row T r cap⟩)) : Sq c ops Q (⟨none, .store t x y, ty, pos, af, none⟩ :: rest) E L := fun a W s => by
  subst ho; subst hr
  obtain ⟨p, cs, fz, hmk, rfl, hob, h1, h2, h3, h4⟩ := s.rowAt hL (by omega)
  have hin := row_in (s := Rp.size α) hk
  have hl := l.inb
  have hle : xs.length * Rp.size α ≤ cap * Rp.size α := Nat.mul_le_mul_right _ h2
  have hv := hy a W s
  have hvl : (a.eval y).cells.toList.length = Rp.size γ := Rp.len hv.2
  have h5 := run_storeVar_mk (A := ks L ++ c.A0) tt hmk hob (off := k * Rp.size α + l.off) (by omega) hv
  have h7 : a.eval x = _ := hx a W s
  simp only [Option.getD_some] at h7
  refine wpList_op rfl (R := fun v W' => W' = W.setRow p (splice cs.toList (k * Rp.size α + l.off) (a.eval y).cells.toList).toArray) (.of_skip ?_ rfl) fun u W' hw => ?_
  · simp [execOp, Instr.storeAt, Instr.sureAddr, h7, h5]
  · subst hw
    refine k' _ _ (s.store hL hob ?_)
    have hcl : cs.toList.length = cap * Rp.size α := by simpa using h1
    have hsl : (splice cs.toList (k * Rp.size α + l.off) (a.eval y).cells.toList).length = cs.toList.length := by
      simp only [splice, List.length_append, List.length_take, List.length_drop, hvl]; omega
    refine ⟨_, ⟨_, by rw [List.size_toArray, hsl, Array.length_toList]; exact hmk, rfl⟩, by simpa [hcl] using hsl, by simpa [lset] using h2, h3, ?_⟩
    have g1 := h4.2 k hk
    have g2 := l.set_rep g1 hv.2
    have g3 := reps_set h4 hk g2
    have hnl : (cs.toList.take (xs.length * Rp.size α)).length = xs.length * Rp.size α := by rw [List.length_take]; omega
    rw [splice_in _ _ _ _ _ _ l.inb (by omega)] at g3
    have hlen : (lset xs k (l.set (lget xs k) v)).length = xs.length := by simp [lset]
    rw [hlen, List.toList_toArray]
    have e : (splice cs.toList (k * Rp.size α + l.off) (a.eval y).cells.toList).take (xs.length * Rp.size α) =
        (cs.toList.take (xs.length * Rp.size α)).take (k * Rp.size α + l.off) ++ (a.eval y).cells.toList ++ (cs.toList.take (xs.length * Rp.size α)).drop (k * Rp.size α + l.off + Rp.size γ) := by
      have e1 : (cs.toList.take (k * Rp.size α + l.off)).length = k * Rp.size α + l.off := by rw [List.length_take]; omega
      have e2 : (cs.toList.take (k * Rp.size α + l.off) ++ (a.eval y).cells.toList).length = k * Rp.size α + l.off + Rp.size γ := by rw [List.length_append, e1, hvl]
      rw [splice, hvl, List.take_append, e2, List.take_of_length_le (by omega), List.take_take, Nat.min_eq_left (by omega), List.drop_take]
    rw [e, show lset xs k (l.set (lget xs k) v) = xs.set k (l.set xs[k] v) by rw [lset, lget_eq xs hk]]
    exact g3

/-- a part of an own row -/
def vslv (key : Option Nat) (lo n cap size : Nat) : Value := match key with
  | some p => .slice (some (if cap = lo then ⟨p, 0, none⟩ else ⟨p, lo * size, none⟩)) n (cap - lo)
  | none => .slice none 0 0

/-- an entry is known to hold something else besides -/
theorem St.again {a : Act} {W : World} (s : St c E L a W) {i : Nat} {key : Option Nat} {cp cp' : CP} (hL : L[i]? = some ⟨key, cp⟩) (h : ∀ A W o, cp.holds A W o → cp'.holds A W o) (hn : cp.nilOk → cp'.nilOk) : St c E (L.set i ⟨key, cp'⟩) a W := by
  have hks : ks (L.set i ⟨key, cp'⟩) = ks L := ks_set (e := ⟨key, cp⟩) (cp := cp') hL
  exact
  { defers := s.defers
    size := s.size
    env := fun t τ hl => by rw [hks]; exact s.env t τ hl
    fr := s.fr
    own := fun e he => by
      rw [hks]
      obtain ⟨j, hj⟩ := List.mem_iff_getElem?.1 he
      rw [List.getElem?_set] at hj
      split at hj
      · split at hj
        · simp only [Option.some.injEq] at hj
          subst hj
          have ho := s.own _ (List.mem_of_getElem? hL)
          cases key with
          | none => exact hn ho
          | some p => obtain ⟨o, h1, h2⟩ := ho; exact ⟨o, h1, h _ _ _ h2⟩
        · cases hj
      · exact s.own e (List.mem_of_getElem? hj)
    nodup := by rw [hks]; exact s.nodup
    lt := by rw [hks]; exact s.lt
    mine := by rw [hks]; exact s.mine
    old := by rw [hks]; exact s.old }

end
end Gv

namespace Gv
open Go
set_option linter.unusedVariables false
set_option linter.unusedSimpArgs false

def lclear {α : Type} [Inhabited α] (xs : List α) (lo n : Nat) : List α := xs.take lo ++ List.replicate n default ++ xs.drop (lo + n)

theorem reps_part {α : Type} [Rp α] {A W} {cs ds : List Value} {xs ys : List α} {lo : Nat} (h : Reps A W cs xs) (h' : Reps A W ds ys) (hk : lo + ys.length ≤ xs.length) :
    Reps A W (cs.take (lo * Rp.size α) ++ ds ++ cs.drop (lo * Rp.size α + ds.length)) (xs.take lo ++ ys ++ xs.drop (lo + ys.length)) := by
  have hl := h.1
  have hle : lo * Rp.size α ≤ xs.length * Rp.size α := Nat.mul_le_mul_right _ (by omega)
  have t1 : Reps A W (cs.take (lo * Rp.size α)) (xs.take lo) := by
    have e : (xs.take lo).length = lo := by rw [List.length_take]; omega
    refine ⟨by rw [List.length_take, e]; omega, fun i hi => ?_⟩
    have hi' : i < lo := by omega
    have := h.2 i (by omega)
    have hin := row_in (s := Rp.size α) hi'
    rw [List.drop_take, List.take_take, Nat.min_eq_left (by omega), List.getElem_take]
    exact this
  have t3 : Reps A W (cs.drop (lo * Rp.size α + ds.length)) (xs.drop (lo + ys.length)) := by
    have e : lo * Rp.size α + ds.length = (lo + ys.length) * Rp.size α := by rw [h'.1, Nat.add_mul]
    rw [e]
    refine ⟨by rw [List.length_drop, List.length_drop, hl, ← Nat.sub_mul], fun i hi => ?_⟩
    rw [List.length_drop] at hi
    have := h.2 (lo + ys.length + i) (by omega)
    rw [List.drop_drop, ← Nat.add_mul, List.getElem_drop]
    exact this
  exact reps_append (reps_append t1 h') t3

section
variable {c : Cx} {E : List (Nat × VP)} {L : List Ent} {ops : Array Oper} {Q : Exit → Act → World → Prop}
variable {d : Option Tmp} {ty : TypeId} {pos : String} {af : Array Edge} {g : Option (Nat × Bool)} {x y : Operand} {t t2 : TypeId}

theorem Sq.clear {rest : List Oper} {i e T cap lo n : Nat} {key : Option Nat} {α : Type} [Rp α] [Inhabited α] {xs r : List α} (hu : c.P.underlying t = some (.slice e)) (te : Ty c.P e α) (zr : Zr c.P e (default : α)) (hsz : Nat.beq (Rp.size α) 0 = false)
    (hx : Look c E L x (.eq (vslv key lo n cap (Rp.size α)))) (hL : L[i]? = some ⟨key, .row T xs cap⟩) (hn : lo + n ≤ xs.length) (hr : lclear xs lo n = r)
    (k : Sq c ops Q rest E (L.set i ⟨key, .row T r cap⟩)) : Sq c ops Q (⟨none, .call ⟨.builtin .clear, #[x], #[t]⟩, ty, pos, af, none⟩ :: rest) E L := fun a W s => by
  subst hr
  have h1 : a.eval x = _ := hx a W s
  have ho := s.own _ (List.mem_of_getElem? hL)
  have hset : ∀ cp, L.set i ⟨key, cp⟩ = L.set i ⟨key, cp⟩ := fun _ => rfl
  by_cases h0 : n = 0 ∨ key = none
  · have hxs : lclear xs lo n = xs := by
      rcases h0 with h0 | h0
      · subst h0; simp [lclear]
      · subst h0
        have : xs = [] := ho.1
        subst this
        have : n = 0 := by simp at hn; omega
        subst this; simp [lclear]
    have hrun : (execOp a.eval ⟨none, .call ⟨.builtin .clear, #[x], #[t]⟩, ty, pos, af, none⟩).run c.P W = .ok (.value (.tuple #[])) W := by
      rcases h0 with h0 | h0
      · subst h0
        cases key <;> simp [execOp, resolve, invoke, builtin, Builtin.clear_, h1, vslv, run_underlying hu]
      · subst h0
        simp [execOp, resolve, invoke, builtin, Builtin.clear_, h1, vslv, run_underlying hu]
    refine wpList_op rfl (R := fun v W' => W' = W) (.of_run hrun rfl) fun v W' hw => ?_
    subst hw
    rw [hxs] at k
    have : L.set i ⟨key, .row T xs cap⟩ = L := by
      apply List.ext_getElem?
      intro j
      rw [List.getElem?_set]
      split
      · rename_i hij; subst hij
        have := (List.getElem?_eq_some_iff.1 hL).1
        rw [if_pos this, hL]
      · rfl
    rw [this] at k
    exact k _ _ s
  · have hn0 : 0 < n := by
      rcases Nat.eq_zero_or_pos n with h | h
      · exact absurd (.inl h) h0
      · exact h
    obtain ⟨p, cs, fz, hmk, rfl, hob, g1, g2, g3, g4⟩ := s.rowAt hL (by omega)
    obtain ⟨ie, zv, hie, hz, hzr⟩ := zr.zero
    have hzv := hzr (ks L ++ c.A0) W
    have hzl : zv.cells.toList.length = Rp.size α := Rp.len hzv.2
    have hs0 : Rp.size α ≠ 0 := fun h => by rw [h] at hsz; cases hsz
    have hrz := reps_zero hzv n hs0
    have hzs : zv.cells.size = Rp.size α := by simpa using hzl
    have hzc : Builtin.zeroCells zv.cells n = (Array.range (n * Rp.size α)).map (zv.cells[· % zv.cells.size]!) := by rw [Builtin.zeroCells, hzs]
    rw [← hzc] at hrz
    generalize hD : (Builtin.zeroCells zv.cells n).toList = D at hrz
    have hDl : D.length = n * Rp.size α := by rw [hrz.1]; simp
    have hlo : cap ≠ lo := by omega
    have hle : (lo + n) * Rp.size α ≤ cap * Rp.size α := Nat.mul_le_mul_right _ (by omega)
    rw [Nat.add_mul] at hle
    have hst := run_storeCells_mk c.P p (lo * Rp.size α) _ fz D 0 cs W hmk hob (by omega) hrz.one
    have hrun : (execOp a.eval ⟨none, .call ⟨.builtin .clear, #[x], #[t]⟩, ty, pos, af, none⟩).run c.P W = .ok (.value (.tuple #[])) (W.setRow p (splice cs.toList (lo * Rp.size α) D).toArray) := by
      obtain ⟨m, rfl⟩ : ∃ m, n = m + 1 := ⟨n - 1, by omega⟩
      simp only [Nat.add_zero] at hst
      simp [execOp, resolve, invoke, builtin, Builtin.clear_, h1, vslv, run_underlying hu, hlo, zeroValue, typeInfo, run_program, hie, hz, hD, hst, splice]
    refine wpList_op rfl (R := fun v W' => W' = W.setRow p (splice cs.toList (lo * Rp.size α) D).toArray) (.of_run hrun rfl) fun v W' hw => ?_
    subst hw
    refine k _ _ (s.store hL hob ?_)
    have hcl : cs.toList.length = cap * Rp.size α := by simpa using g1
    have hlen : (lclear xs lo n).length = xs.length := by simp [lclear]; omega
    have hnl : (cs.toList.take (xs.length * Rp.size α)).length = xs.length * Rp.size α := by
      rw [List.length_take]
      have : xs.length * Rp.size α ≤ cap * Rp.size α := Nat.mul_le_mul_right _ g2
      omega
    have hle3 : (lo + n) * Rp.size α ≤ xs.length * Rp.size α := Nat.mul_le_mul_right _ hn
    rw [Nat.add_mul] at hle3
    have hle4 : xs.length * Rp.size α ≤ cap * Rp.size α := Nat.mul_le_mul_right _ g2
    refine ⟨_, ⟨_, ?_, rfl⟩, ?_, by rw [hlen]; exact g2, g3, ?_⟩
    · have e1 : (splice cs.toList (lo * Rp.size α) D).toArray.size = cs.size := by
        simp only [List.size_toArray, splice, List.length_append, List.length_take, List.length_drop]; omega
      rw [e1]; exact hmk
    · simp only [List.size_toArray, splice, List.length_append, List.length_take, List.length_drop]; omega
    · rw [hlen, List.toList_toArray]
      have g5 := reps_part (lo := lo) g4 hrz (by simpa using hn)
      have e : (splice cs.toList (lo * Rp.size α) D).take (xs.length * Rp.size α) = (cs.toList.take (xs.length * Rp.size α)).take (lo * Rp.size α) ++ D ++ (cs.toList.take (xs.length * Rp.size α)).drop (lo * Rp.size α + D.length) := by
        have e1 : (cs.toList.take (lo * Rp.size α)).length = lo * Rp.size α := by rw [List.length_take]; omega
        have e2 : (cs.toList.take (lo * Rp.size α) ++ D).length = lo * Rp.size α + D.length := by rw [List.length_append, e1]
        rw [splice, List.take_append, e2, List.take_of_length_le (by omega), List.take_take, Nat.min_eq_left (by omega), List.drop_take]
      rw [e]
      simpa [lclear] using g5

end

/-- the bounds of a part; none: out of range -/
def cutM (n : Nat) (lo hi : Int) : Option (Nat × Nat) := if 0 ≤ lo ∧ lo ≤ hi ∧ hi ≤ n then some (lo.toNat, hi.toNat) else none
end Gv

namespace Gv
open Go
set_option linter.unusedVariables false
set_option linter.unusedSimpArgs false

/-- the region goes on from here, whatever order it draws; 'listed': what has come up -/
def AnyS (c : Cx) (ops : Array Oper) (Q : Exit → Act → World → Prop) (f : Nat) (listed : Array Bool) (E : List (Nat × VP)) (L : List Ent) : Prop :=
  ∀ a W, St c E L a W → wpAnyIn c.F 9 c.P .any ops Q f listed a W

/-- what holds where an operation ends: the region goes on; other ways out as they were -/
def QK (K : Act → World → Prop) (Q : Exit → Act → World → Prop) : Exit → Act → World → Prop
  | .normal, a, W => K a W
  | x, a, W => Q x a W

section
variable {c : Cx} {E : List (Nat × VP)} {L : List Ent} {ops : Array Oper} {Q : Exit → Act → World → Prop}

theorem QK.out {K : Act → World → Prop} (h : LetsOut (QK K Q)) : LetsOut Q := h

theorem Oper.uponIn_QK {F : Fence} {n : Nat} {P : Program} {o : Oper} {a : Act} {K : Act → World → Prop} {r : Result Next} (h : o.uponIn F n P a K (QK K Q) r) : o.uponIn F n P a K Q r := by
  cases r with
  | ok m w' =>
    cases m <;> simp only [Oper.uponIn] at h ⊢ <;>
      first
        | exact h
        | exact ⟨h.1, CallsIn.mono h.2 (fun e w'' he => by cases e <;> exact he)⟩
        | exact ⟨h.1, RoundIn.mono h.2 (fun e w'' he => by cases e <;> exact he)⟩
  | halt x w' => cases x <;> simp only [Oper.uponIn] at h ⊢ <;> exact h

theorem wpOp_of_list {i : Nat} {o : Oper} {K : Act → World → Prop} {a : Act} {W : World} (hi : ops[i]? = some o) (h : c.wpl ops (QK K Q) [o] a W) : wpOpIn c.F 9 c.P ops Q i K a W := by
  unfold wpOpIn
  simp only [hi]
  simp only [Cx.wpl, wpListIn] at h
  split
  · rename_i hw
    rw [if_pos hw] at h
    exact ⟨h.1, Oper.uponIn_QK h.2⟩
  · rename_i hw
    rw [if_neg hw] at h
    exact h

/-- each operation that may come up next -/
def NextS (c : Cx) (ops : Array Oper) (Q : Exit → Act → World → Prop) (f : Nat) (listed : Array Bool) (E : List (Nat × VP)) (L : List Ent) : List Nat → Prop
  | [] => True
  | i :: r => (∃ o, ops[i]? = some o ∧ Sq c ops (QK (wpAnyIn c.F 9 c.P .any ops Q f (listed.setIfInBounds i true)) Q) [o] E L) ∧ NextS c ops Q f listed E L r

theorem NextS.get {f : Nat} {listed : Array Bool} : ∀ {rl : List Nat}, NextS c ops Q f listed E L rl → ∀ i ∈ rl, ∃ o, ops[i]? = some o ∧ Sq c ops (QK (wpAnyIn c.F 9 c.P .any ops Q f (listed.setIfInBounds i true)) Q) [o] E L
  | _ :: _, h, i, hi => by
    rcases List.mem_cons.1 hi with rfl | hi
    · exact h.1
    · exact NextS.get h.2 i hi

theorem AnyS.step {f : Nat} {listed : Array Bool} (rl : List Nat) (hr : Region.ready .any ops listed = rl) (hne : rl.isEmpty = false) (h : NextS c ops Q f listed E L rl) : AnyS c ops Q (f + 1) listed E L := fun a W s =>
  ⟨fun h0 => (by rw [← hr, h0] at hne; exact absurd hne (by simp)), fun i hi => (by
    rw [hr] at hi
    obtain ⟨o, h1, h2⟩ := h.get i hi
    exact wpOp_of_list h1 (h2 a W s))⟩

theorem AnyS.le {f : Nat} {listed : Array Bool} {E' : List (Nat × VP)} (h : Le E E') (k : AnyS c ops Q f listed E' L) : AnyS c ops Q f listed E L := fun a W s => k a W (s.less h.look)

theorem AnyS.eqL {f : Nat} {listed : Array Bool} {L2 : List Ent} (h : L = L2) (k : AnyS c ops Q f listed E L2) : AnyS c ops Q f listed E L := h ▸ k

/-- where an operation has ended -/
theorem To.any {f : Nat} {listed listed' : Array Bool} (hl : listed = listed') (k : AnyS c ops Q f listed' E L) : To c (QK (wpAnyIn c.F 9 c.P .any ops Q f listed) Q) .normal E L := fun a W s => by
  subst hl
  exact k a W s

theorem To.anyA {f : Nat} {listed listed' : Array Bool} {E' : List (Nat × VP)} (k : AnyS c ops Q f listed' E' L) (h : Le E E' := by repeat (first | exact Le.nil | refine Le.same rfl ?_)) (hl : listed = listed' := by kernel_rfl) : To c (QK (wpAnyIn c.F 9 c.P .any ops Q f listed) Q) .normal E L := .any hl (.le h k)
theorem AnyS.stp {f : Nat} {listed : Array Bool} (rl : List Nat) (h : NextS c ops Q f listed E L rl) (hr : Region.ready .any ops listed = rl := by kernel_rfl) (hne : rl.isEmpty = false := by rfl) : AnyS c ops Q (f + 1) listed E L := .step rl hr hne h
theorem AnyS.cut {γ : Type} (f' : Nat) (listed' : Array Bool) (E' : γ → List (Nat × VP)) (L' : γ → List Ent) {f : Nat} {listed : Array Bool} (h1 : ∀ g, AnyS c ops Q f' listed' (E' g) (L' g))
    (h2 : (∀ g, AnyS c ops Q f' listed' (E' g) (L' g)) → AnyS c ops Q f listed E L) : AnyS c ops Q f listed E L := h2 h1

theorem Wp.drawE {rid : Nat} {l : List Oper} (hm : c.P.follows .mixedOrders = true) (n : Nat) (ls : Array Bool) (hn : l.length = n) (hls : Array.replicate n false = ls) (h : AnyS c l.toArray Q n ls E L) : Wp c Q (.region rid l.toArray true) E L := fun a W s => by
  subst hn hls
  refine wpIn_region_any hm ?_
  have := h a W.drew (s.world (Fr.drew W))
  simpa using this

theorem To.perm {x : Exit} {L' : List Ent} (h : L.Perm L') (k : To c Q x E L') : To c Q x E L := fun a W s => k a W (s.perm h)
end
end Gv

namespace Gv
open Go
set_option linter.unusedVariables false
set_option linter.unusedSimpArgs false
section
variable {c : Cx} {E : List (Nat × VP)} {L : List Ent} {ops : Array Oper} {Q : Exit → Act → World → Prop}
variable {d : Option Tmp} {ty : TypeId} {pos : String} {af : Array Edge} {g : Option (Nat × Bool)} {x y : Operand} {t t2 : TypeId}

theorem Sq.bslO {α : Type} [Rp α] {rest : List Oper} {dd e n : Nat} {z : α} {r : List α} {ps : List (Nat × Operand)} (hu : c.P.underlying t = some (.slice e)) (te : Ty c.P e α) (zr : Zr c.P e z) (hs : Nat.beq (Rp.size α) 0 = false) (hn : Nat.ble (n * Rp.size α) 16777216 = true)
    (hf : FillsL c E L (List.replicate n z) ps r) (hN : Nat.blt dd c.n = true) (k : ∀ p, Sq c ops Q rest ((dd, .eq (slv p r.length n)) :: E) (⟨p, .row e r n⟩ :: L)) :
    Sq c ops Q (⟨some dd, .buildSlice t n ps.toArray, ty, pos, af, none⟩ :: rest) E L := fun a W s => by
  obtain ⟨ie, zv, hie, hz, hzh⟩ := zr.zero
  have hie2 : ie.size = Rp.size α := by
    obtain ⟨i2, h1, h2⟩ := te.info
    rw [hie] at h1; cases h1; exact h2
  have hs' : Rp.size α ≠ 0 := fun h => by rw [h] at hs; cases hs
  have hz0 := reps_zero (hzh (ks L ++ c.A0) W) n hs'
  obtain ⟨cs', h3, h4, h5⟩ := hf.run a W s _ hz0
  have hlen : r.length = n := by rw [h5]; simp
  have hm : (ps.toArray.map fun (x : Nat × Operand) => (x.1, a.eval x.2)).toList = ps.map fun (i, x) => (i, a.eval x) := by simp
  have hble := Nat.le_of_ble_eq_true hn
  refine wpList_op rfl (R := fun v W' => v = .slice (some ⟨W.heap.size, 0, none⟩) n n ∧ W' = W.alloc (.cells cs' e)) (.of_run (v := .slice (some ⟨W.heap.size, 0, none⟩) n n) (W' := W.alloc (.cells cs' e)) ?_ ⟨rfl, rfl⟩) fun v W' ⟨h1, h2⟩ => ?_
  · simp only [execOp, Instr.buildSlice, Sem.run_bind, run_underlying hu, Result.andThen_ok, Go.sizeOf, typeInfo, run_program, hie, Sem.run_pure, hie2]
    rw [if_neg (by omega)]
    try simp only [Sem.run_pure, Result.andThen_ok, Sem.run_bind]
    by_cases h0 : n * Rp.size α = 0
    · have hn0 : n = 0 := by
        rcases Nat.mul_eq_zero.1 h0 with h | h
        · exact h
        · exact absurd h hs'
      subst hn0
      simp only [Nat.zero_mul, if_true, Sem.run_pure, Result.andThen_ok]
      try simp only [Nat.zero_mul] at h3
      have e0 : ((Array.range 0).map (fun x => (#[] : Array Value)[x % (#[] : Array Value).size]!)) = ((Array.range 0).map (zv.cells[· % zv.cells.size]!)) := by simp
      simp only [pure_bind]
      rw [e0, hm, h3]
      simp [newRow]
    · simp only [h0, if_false, Sem.run_bind, zeroValue, typeInfo, run_program, Result.andThen_ok, hie, hz, Sem.run_pure]
      rw [hm, h3]
      simp [newRow]
  · subst h1 h2
    have hcap : n ≤ maxLen := by
      have : n * 1 ≤ n * Rp.size α := Nat.mul_le_mul_left _ (by omega)
      have : maxLen = 9223372036854775807 := rfl
      omega
    have hsz : cs'.size = n * Rp.size α := by have := h4.1; rw [hlen] at this; simpa using this
    have s' := s.alloc (o := .cells cs' e) (cp := .row e r n) ⟨cs', ⟨_, .inl rfl, rfl⟩, hsz, by omega, hcap, by
      have h6 := h4.1
      rw [← h6, List.take_length]
      exact h4⟩
    refine k (some W.heap.size) _ _ (s'.put (τ := .eq (slv (some W.heap.size) r.length n)) (by simpa using hN) ?_)
    show _ = _
    rw [hlen]; rfl

def uremM {w : Nat} (a b : BitVec w) : Option (BitVec w) := if b = 0 then none else some (a % b)
def uquoM {w : Nat} (a b : BitVec w) : Option (BitVec w) := if b = 0 then none else some (a / b)
theorem Sq.relen {l : List Oper} {key : Option Nat} {n m cap : Nat} (sl : Nat) (hl : look E sl = some (.eq (slv key n cap))) (hn : n = m) (k : Sq c ops Q l ((sl, .eq (slv key m cap)) :: E) L) : Sq c ops Q l E L := fun a W s => by
  subst hn
  refine k a W (s.less fun t τ h => ?_)
  simp only [look] at h
  by_cases e : Nat.beq sl t = true
  · rw [e] at h
    simp only [cond_true] at h
    have := look_beq.1 e
    subst this
    exact ⟨τ, by rw [hl, h], fun _ _ _ h => h⟩
  · simp only [Bool.not_eq_true] at e
    rw [e] at h
    exact ⟨τ, h, fun _ _ _ h => h⟩
end
theorem lset_len {α : Type} {xs r : List α} {k : Nat} {v : α} (h : lset xs k v = r) : xs.length = r.length := by rw [← h]; simp [lset]
end Gv

