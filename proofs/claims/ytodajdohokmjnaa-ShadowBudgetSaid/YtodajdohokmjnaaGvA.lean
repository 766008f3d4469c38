/-
  The library of the decompiler, part A: worlds, representations, states. A state says which slots of the frame hold values that represent which data, and which blocks of memory are the call's own. Conditions: none; it is about whatever program.
-/
import Derived.WalkKit
import Derived.StillTail
import Derived.OwnWalkIn
import Derived.RangeFuncNested
import Derived.RangeFuncLeaves
import Derived.RangeFuncCalls
namespace Gv
open Go

/-! ### Worlds -/

theorem ha_old (w : World) (o : Obj) (i : Nat) (h : i < w.heap.size) : (w.alloc o).heap[i]? = w.heap[i]? := by
  show (w.heap.push o)[i]? = w.heap[i]?
  rw [Array.getElem?_push, if_neg (Nat.ne_of_lt h)]
theorem ha_new (w : World) (o : Obj) : (w.alloc o).heap[w.heap.size]? = some o := by
  show (w.heap.push o)[w.heap.size]? = some o
  simp


/-- all blocks but those of X are as they were; none has gone -/
structure Fr (X : List Nat) (W W' : World) : Prop where
  os : W'.os = W.os
  tape : W'.tape = W.tape
  output : W'.output = W.output
  size : W.heap.size ≤ W'.heap.size
  block : ∀ k, k < W.heap.size → k ∉ X → W'.heap[k]? = W.heap[k]?

theorem Fr.refl (X : List Nat) (W : World) : Fr X W W := ⟨rfl, rfl, rfl, Nat.le_refl _, fun _ _ _ => rfl⟩

theorem Fr.trans {X : List Nat} {A B C : World} (h : Fr X A B) (k : Fr X B C) : Fr X A C :=
  ⟨k.os.trans h.os, k.tape.trans h.tape, k.output.trans h.output, Nat.le_trans h.size k.size,
    fun i hi hx => (k.block i (Nat.lt_of_lt_of_le hi h.size) hx).trans (h.block i hi hx)⟩

theorem Fr.weaken {X Y : List Nat} {A B : World} (h : Fr X A B) (s : ∀ k ∈ X, k ∈ Y) : Fr Y A B :=
  ⟨h.os, h.tape, h.output, h.size, fun i hi hx => h.block i hi fun hm => hx (s _ hm)⟩

theorem Fr.nil {X : List Nat} {A B : World} (h : Fr [] A B) : Fr X A B := h.weaken (by simp)

/-- blocks of X that are not there yet may be left out -/
theorem Fr.only {X Y : List Nat} {A B : World} (h : Fr X A B) (s : ∀ k ∈ X, k < A.heap.size → k ∈ Y) : Fr Y A B :=
  ⟨h.os, h.tape, h.output, h.size, fun i hi hx => h.block i hi fun hm => hx (s _ hm hi)⟩

theorem Fr.alloc {X : List Nat} (W : World) (o : Obj) : Fr X W (W.alloc o) :=
  ⟨rfl, rfl, rfl, by simp, fun k hk _ => ha_old W o k hk⟩

theorem Fr.drew {X : List Nat} (W : World) : Fr X W W.drew := ⟨rfl, rfl, rfl, Nat.le_refl _, fun _ _ _ => rfl⟩

theorem Fr.setRow {X : List Nat} (W : World) (g : Nat) (cs : Array Value) (h : g ∈ X) : Fr X W (W.setRow g cs) :=
  ⟨rfl, rfl, rfl, by simp, fun k _ hx => setRow_other W g k cs (fun e => hx (e ▸ h))⟩

/-- what a representation survives: the blocks of A are in motion ahead, those of A' behind -/
structure Ext (A : List Nat) (W : World) (A' : List Nat) (W' : World) : Prop where
  size : W.heap.size ≤ W'.heap.size
  block : ∀ k, k < W.heap.size → k ∉ A → W'.heap[k]? = W.heap[k]?
  new : ∀ k ∈ A', k < W.heap.size → k ∈ A

theorem Ext.refl (A : List Nat) (W : World) : Ext A W A W := ⟨Nat.le_refl _, fun _ _ _ => rfl, fun _ h _ => h⟩

theorem Ext.trans {A B C : List Nat} {U V W : World} (h : Ext A U B V) (k : Ext B V C W) : Ext A U C W :=
  ⟨Nat.le_trans h.size k.size,
    fun i hi ha => (k.block i (Nat.lt_of_lt_of_le hi h.size) (fun hb => ha (h.new i hb hi))).trans (h.block i hi ha),
    fun i hc hi => h.new i (k.new i hc (Nat.lt_of_lt_of_le hi h.size)) hi⟩

theorem Ext.of_fr {A X : List Nat} {W W' : World} (h : Fr X W W') (s : ∀ k ∈ X, k ∈ A) : Ext A W A W' :=
  ⟨h.size, fun k hk ha => h.block k hk fun hx => ha (s k hx), fun _ h _ => h⟩

theorem Ext.fr {A : List Nat} {W W' : World} (h : Fr [] W W') : Ext A W A W' := .of_fr h (by simp)

theorem Ext.drop {A A' : List Nat} {W : World} (s : ∀ k ∈ A', k ∈ A) : Ext A W A' W := ⟨Nat.le_refl _, fun _ _ _ => rfl, fun k h _ => s k h⟩

/-! ### Representations -/

/-- a predicate on a value that outlives what the call does elsewhere -/
structure VP where
  holds : List Nat → World → Value → Prop
  mono : ∀ {A W A' W' v}, Ext A W A' W' → holds A W v → holds A' W' v

/-- how data of this kind lie in cells -/
class Rp (α : Type) where
  size : Nat
  agg : Bool
  rep : List Nat → World → List Value → α → Prop
  len : ∀ {A W cs x}, rep A W cs x → cs.length = size
  one : ∀ {A W cs x}, rep A W cs x → ∀ v ∈ cs, v.oneCell' = true
  flat : agg = false → size = 1
  mono : ∀ {A W A' W' cs x}, Ext A W A' W' → rep A W cs x → rep A' W' cs x

def shaped (b : Bool) (v : Value) : Prop := if b = true then ∃ cs, v = .agg cs else v.oneCell' = true

theorem cells_one {v : Value} (h : v.oneCell' = true) : v.cells = #[v] := by cases v <;> first | rfl | simp [Value.oneCell'] at h

/-- the value represents x -/
def VP.of {α : Type} [Rp α] (x : α) : VP where
  holds A W v := shaped (Rp.agg α) v ∧ Rp.rep A W v.cells.toList x
  mono e h := ⟨h.1, Rp.mono e h.2⟩

/-- the very value -/
def VP.eq (u : Value) : VP where
  holds _ _ v := v = u
  mono _ h := h

/-- under c; else nothing has been yielded -/
def VP.cond (c : Prop) (τ : VP) : VP where
  holds A W v := (c → τ.holds A W v) ∧ (¬ c → v = undef)
  mono e h := ⟨fun hc => τ.mono e (h.1 hc), h.2⟩

/-- anything -/
def VP.any : VP where
  holds _ _ _ := True
  mono _ h := h

inductive HoldsAll (A : List Nat) (W : World) : List VP → List Value → Prop
  | nil : HoldsAll A W [] []
  | cons {τ v τs vs} : τ.holds A W v → HoldsAll A W τs vs → HoldsAll A W (τ :: τs) (v :: vs)

theorem HoldsAll.mono {A W A' W'} (e : Ext A W A' W') : ∀ {τs vs}, HoldsAll A W τs vs → HoldsAll A' W' τs vs
  | _, _, .nil => .nil
  | _, _, .cons h r => .cons (VP.mono _ e h) (r.mono e)

theorem HoldsAll.length {A W} : ∀ {τs vs}, HoldsAll A W τs vs → vs.length = τs.length
  | _, _, .nil => rfl
  | _, _, .cons _ r => by simp [r.length]

/-- a tuple -/
def VP.tup (τs : List VP) : VP where
  holds A W v := ∃ vs : Array Value, v = .tuple vs ∧ HoldsAll A W τs vs.toList
  mono e h := let ⟨vs, hv, hh⟩ := h; ⟨vs, hv, hh.mono e⟩

/-- a pointer to memory that nobody writes any more, at which x lies -/
def VP.ptr {α : Type} [Rp α] (x : α) : VP where
  holds A W v := ∃ b off cur T fz, v = .pointer (some ⟨b, off, none⟩) ∧ b ∉ A ∧ W.heap[b]? = some (.cells cur T fz) ∧ off + Rp.size α ≤ cur.size ∧ Rp.rep A W ((cur.toList.drop off).take (Rp.size α)) x
  mono e h := by
    obtain ⟨b, off, cur, T, fz, rfl, hb, hh, hs, hr⟩ := h
    have hlt : b < _ := (Array.getElem?_eq_some_iff.1 hh).1
    exact ⟨b, off, cur, T, fz, rfl, fun hm => hb (e.new b hm hlt), by rw [e.block b hlt hb]; exact hh, hs, Rp.mono e hr⟩

/-! ### Blocks of the call's own -/

structure CP where
  holds : List Nat → World → Obj → Prop
  nilOk : Prop
  mono : ∀ {A W A' W' o}, Ext A W A' W' → holds A W o → holds A' W' o

/-- a variable in a block of its own -/
def CP.var {α : Type} [Rp α] (x : α) : CP where
  holds A W o := ∃ cs T, o = .cells cs T (0, 0) ∧ Rp.rep A W cs.toList x
  nilOk := False
  mono e h := let ⟨cs, T, ho, hr⟩ := h; ⟨cs, T, ho, Rp.mono e hr⟩

/-- cells in a row that represent the elements of a list -/
def Reps {α : Type} [Rp α] (A : List Nat) (W : World) (cs : List Value) (xs : List α) : Prop :=
  cs.length = xs.length * Rp.size α ∧ ∀ i (h : i < xs.length), Rp.rep A W ((cs.drop (i * Rp.size α)).take (Rp.size α)) xs[i]

theorem Reps.mono {α : Type} [Rp α] {A W A' W'} {cs : List Value} {xs : List α} (e : Ext A W A' W') (h : Reps A W cs xs) : Reps A' W' cs xs :=
  ⟨h.1, fun i hi => Rp.mono e (h.2 i hi)⟩

/-- the array behind a slice of the call's own: it starts at the block's head, what lies behind the list's end is spare -/
def CP.row {α : Type} [Rp α] (T : TypeId) (xs : List α) (cap : Nat) : CP where
  holds A W o := ∃ cs, o = .cells cs T (0, 0) ∧ cs.size = cap * Rp.size α ∧ xs.length ≤ cap ∧ cap ≤ maxLen ∧ Reps A W (cs.toList.take (xs.length * Rp.size α)) xs
  nilOk := xs = [] ∧ cap = 0
  mono e h := let ⟨cs, h1, h2, h3, h4, h5⟩ := h; ⟨cs, h1, h2, h3, h4, h5.mono e⟩

/-- no block any more -/
def CP.dead : CP where
  holds _ _ _ := True
  nilOk := True
  mono _ h := h

structure Ent where
  key : Option Nat
  cp : CP

def Ent.ok (A : List Nat) (W : World) (e : Ent) : Prop :=
  match e.key with
  | some p => ∃ o, W.heap[p]? = some o ∧ e.cp.holds A W o
  | none => e.cp.nilOk

def ks : List Ent → List Nat
  | [] => []
  | e :: r => match e.key with
    | some p => p :: ks r
    | none => ks r

theorem mem_ks {L : List Ent} {k : Nat} : k ∈ ks L ↔ ∃ e ∈ L, e.key = some k := by
  induction L with
  | nil => simp [ks]
  | cons e r ih =>
    cases hk : e.key with
    | none => simp [ks, hk, ih]
    | some p => simp [ks, hk, ih, eq_comm]

/-! ### States -/

/-- what stands fast through one call: the program, the frame's size, the world at the beginning, the blocks that it may write, the blocks that others have in motion -/
structure Cx where
  P : Program
  n : Nat
  W0 : World
  X : List Nat
  A0 : List Nat
  rd : Option Nat
  ds : List Nat

/-- the mark that a loop over an iterator leaves on the activation -/
def coll (D : Nat) : Deferred := { target := .collected D, args := #[] }

/-- no fence; within the round of loop l if rd = some l -/
abbrev Cx.F (c : Cx) : Fence := { fn := fun _ => True, depth := none, alive := false, round := c.rd }
abbrev Cx.wp (c : Cx) (y : Code) (Q : Exit → Act → World → Prop) : Act → World → Prop := y.wpIn c.F 9 c.P Q
abbrev Cx.wpl (c : Cx) (ops : Array Oper) (Q : Exit → Act → World → Prop) : List Oper → Act → World → Prop := wpListIn c.F 9 c.P ops Q

def look : List (Nat × VP) → Nat → Option VP
  | [], _ => none
  | (s, τ) :: r, t => bif Nat.beq s t then some τ else look r t

structure St (c : Cx) (E : List (Nat × VP)) (L : List Ent) (a : Act) (W : World) : Prop where
  defers : a.defers = c.ds.map coll
  size : a.tmps.size = c.n
  env : ∀ t τ, look E t = some τ → ∃ v, a.tmps[t]? = some v ∧ τ.holds (ks L ++ c.A0) W v
  fr : Fr c.X c.W0 W
  own : ∀ e ∈ L, e.ok (ks L ++ c.A0) W
  nodup : (ks L).Nodup
  lt : ∀ k ∈ ks L, k < W.heap.size
  mine : ∀ k ∈ ks L, k < c.W0.heap.size → k ∈ c.X
  old : ∀ k ∈ c.A0, k < W.heap.size ∧ k ∉ ks L

theorem look_beq {s t : Nat} : Nat.beq s t = true ↔ s = t := by
  constructor
  · exact Nat.eq_of_beq_eq_true
  · rintro rfl; exact Nat.beq_refl s

theorem St.all_lt {c E L a W} (h : St c E L a W) : ∀ k ∈ ks L ++ c.A0, k < W.heap.size := by
  intro k hk
  rcases List.mem_append.1 hk with hk | hk
  · exact h.lt k hk
  · exact (h.old k hk).1

/-- the world goes on, nothing of the call's own is touched -/
theorem St.world {c E L a W W'} (h : St c E L a W) (f : Fr [] W W') : St c E L a W' where
  defers := h.defers
  size := h.size
  env t τ hl := let ⟨v, h1, h2⟩ := h.env t τ hl; ⟨v, h1, τ.mono (.fr f) h2⟩
  fr := h.fr.trans f.nil
  own e he := by
    have h1 := h.own e he
    unfold Ent.ok at *
    split at h1
    · rename_i p hp
      obtain ⟨o, ho, hh⟩ := h1
      have hlt := h.lt p (mem_ks.2 ⟨e, he, hp⟩)
      exact ⟨o, by rw [f.block p hlt (by simp)]; exact ho, CP.mono _ (.fr f) hh⟩
    · exact h1
  nodup := h.nodup
  lt k hk := Nat.lt_of_lt_of_le (h.lt k hk) f.size
  mine := h.mine
  old k hk := ⟨Nat.lt_of_lt_of_le (h.old k hk).1 f.size, (h.old k hk).2⟩

/-- a slot gets a value -/
theorem St.put {c E L a W} (h : St c E L a W) {d : Nat} (hd : d < c.n) {v : Value} {τ : VP} (hv : τ.holds (ks L ++ c.A0) W v) :
    St c ((d, τ) :: E) L (a.put (some d) v) W where
  defers := h.defers
  size := by simp [Act.put, h.size]
  env t τ' hl := by
    simp only [look] at hl
    simp only [Act.put]
    by_cases e : Nat.beq d t = true
    · rw [e] at hl
      simp only [cond_true, Option.some.injEq] at hl
      subst hl
      have := look_beq.1 e
      subst this
      exact ⟨v, by simp [h.size, hd], hv⟩
    · simp only [Bool.not_eq_true] at e
      rw [e] at hl
      simp only [cond_false] at hl
      obtain ⟨u, h1, h2⟩ := h.env t τ' hl
      have hne : d ≠ t := fun h => by rw [look_beq.2 h] at e; cases e
      exact ⟨u, by rw [Array.getElem?_setIfInBounds_ne hne]; exact h1, h2⟩
  fr := h.fr
  own := h.own
  nodup := h.nodup
  lt := h.lt
  mine := h.mine
  old := h.old

theorem St.nodefers {c E L a W} (s : St c E L a W) (h : c.ds = []) : a.defers = [] := by rw [s.defers, h]; rfl

/-- less is known -/
theorem St.less {c E E' L a W} (h : St c E L a W) (hE : ∀ t τ, look E' t = some τ → ∃ σ, look E t = some σ ∧ ∀ A W v, σ.holds A W v → τ.holds A W v) : St c E' L a W :=
  { h with env := fun t τ hl => let ⟨_, h1, h2⟩ := hE t τ hl; let ⟨v, h3, h4⟩ := h.env t _ h1; ⟨v, h3, h2 _ _ _ h4⟩ }

/-- a new block -/
theorem St.alloc {c E L a W} (h : St c E L a W) {o : Obj} {cp : CP} (hc : cp.holds (ks L ++ c.A0) W o) :
    St c E (⟨some W.heap.size, cp⟩ :: L) a (W.alloc o) := by
  have hnew : W.heap.size ∉ ks L := fun hm => Nat.lt_irrefl _ (h.lt _ hm)
  have hext : Ext (ks L ++ c.A0) W (ks (⟨some W.heap.size, cp⟩ :: L) ++ c.A0) (W.alloc o) :=
    ⟨by simp, fun k hk _ => ha_old W o k hk, fun k hk hlt => by
      simp only [ks, List.cons_append, List.mem_cons] at hk
      rcases hk with rfl | hk
      · exact absurd hlt (Nat.lt_irrefl _)
      · exact hk⟩
  exact
  { defers := h.defers
    size := h.size
    env := fun t τ hl => let ⟨v, h1, h2⟩ := h.env t τ hl; ⟨v, h1, τ.mono hext h2⟩
    fr := h.fr.trans (Fr.alloc W o)
    own := fun e he => by
      rcases List.mem_cons.1 he with rfl | he
      · exact ⟨o, ha_new W o, cp.mono hext hc⟩
      · have h1 := h.own e he
        unfold Ent.ok at *
        split at h1
        · rename_i p hp
          obtain ⟨o', ho, hh⟩ := h1
          exact ⟨o', by rw [ha_old W o p (h.lt p (mem_ks.2 ⟨e, he, hp⟩))]; exact ho, CP.mono _ hext hh⟩
        · exact h1
    nodup := by simp only [ks]; exact List.nodup_cons.2 ⟨hnew, h.nodup⟩
    lt := fun k hk => by
      simp only [ks, List.mem_cons] at hk
      rw [World.size_alloc]
      rcases hk with rfl | hk
      · omega
      · have := h.lt k hk; omega
    mine := fun k hk hlt => by
      simp only [ks, List.mem_cons] at hk
      rcases hk with rfl | hk
      · have := h.fr.size; omega
      · exact h.mine k hk hlt
    old := fun k hk => by
      obtain ⟨h1, h2⟩ := h.old k hk
      refine ⟨by rw [World.size_alloc]; omega, fun hm => ?_⟩
      simp only [ks, List.mem_cons] at hm
      rcases hm with rfl | hm
      · omega
      · exact h2 hm }

/-- the own blocks in another order, or fewer of them: what is left out is let go, for good -/
theorem St.sub {c E L L' a W} (h : St c E L a W) (hL : ∀ e ∈ L', e ∈ L) (hn : (ks L').Nodup) : St c E L' a W := by
  have hk : ∀ k ∈ ks L', k ∈ ks L := fun k hk => by
    obtain ⟨e, he, h2⟩ := mem_ks.1 hk
    exact mem_ks.2 ⟨e, hL e he, h2⟩
  have hext : Ext (ks L ++ c.A0) W (ks L' ++ c.A0) W := .drop fun k hm => by
    rcases List.mem_append.1 hm with hm | hm
    · exact List.mem_append.2 (.inl (hk k hm))
    · exact List.mem_append.2 (.inr hm)
  exact
  { defers := h.defers
    size := h.size
    env := fun t τ hl => let ⟨v, h1, h2⟩ := h.env t τ hl; ⟨v, h1, τ.mono hext h2⟩
    fr := h.fr
    own := fun e he => by
      have h1 := h.own e (hL e he)
      unfold Ent.ok at *
      split at h1
      · obtain ⟨o', ho, hh⟩ := h1
        exact ⟨o', ho, CP.mono _ hext hh⟩
      · exact h1
    nodup := hn
    lt := fun k hm => h.lt k (hk k hm)
    mine := fun k hm => h.mine k (hk k hm)
    old := fun k hm => ⟨(h.old k hm).1, fun h2 => (h.old k hm).2 (hk k h2)⟩ }

theorem ks_append (L R : List Ent) : ks (L ++ R) = ks L ++ ks R := by
  induction L with
  | nil => rfl
  | cons e r ih => cases hk : e.key <;> simp [ks, hk, ih]

theorem ks_set {L : List Ent} {i : Nat} {e : Ent} {cp : CP} (hi : L[i]? = some e) : ks (L.set i ⟨e.key, cp⟩) = ks L := by
  induction L generalizing i with
  | nil => simp at hi
  | cons x r ih =>
    cases i with
    | zero => simp only [List.getElem?_cons_zero, Option.some.injEq] at hi; subst hi; simp [ks]
    | succ i => simp only [List.getElem?_cons_succ] at hi; simp [ks, ih hi]

theorem ks_inj {L : List Ent} (hn : (ks L).Nodup) {i j : Nat} {e f : Ent} {p : Nat} (hi : L[i]? = some e) (hj : L[j]? = some f) (he : e.key = some p) (hf : f.key = some p) : i = j := by
  induction L generalizing i j with
  | nil => simp at hi
  | cons x r ih =>
    have hr : (ks r).Nodup := by
      cases hx : x.key with
      | none => simpa [ks, hx] using hn
      | some q => simp only [ks, hx] at hn; exact (List.nodup_cons.1 hn).2
    have hout : ∀ q, x.key = some q → q ∉ ks r := fun q hx => by simp only [ks, hx] at hn; exact (List.nodup_cons.1 hn).1
    cases i with
    | zero =>
      simp only [List.getElem?_cons_zero, Option.some.injEq] at hi
      subst hi
      cases j with
      | zero => rfl
      | succ j =>
        simp only [List.getElem?_cons_succ] at hj
        exact absurd (mem_ks.2 ⟨f, List.mem_of_getElem? hj, hf⟩) (hout p he)
    | succ i =>
      simp only [List.getElem?_cons_succ] at hi
      cases j with
      | zero =>
        simp only [List.getElem?_cons_zero, Option.some.injEq] at hj
        subst hj
        exact absurd (mem_ks.2 ⟨e, List.mem_of_getElem? hi, he⟩) (hout p hf)
      | succ j =>
        simp only [List.getElem?_cons_succ] at hj
        rw [ih hr hi hj]

/-- a block of the call's own is written -/
theorem St.store {c E L a W} (h : St c E L a W) {i p : Nat} {cp cp' : CP} (hi : L[i]? = some ⟨some p, cp⟩) {cs cs' : Array Value} {T : TypeId}
    (ho : W.heap[p]? = some (.cells cs T (0, 0))) (hc : cp'.holds (ks L ++ c.A0) W (.cells cs' T (0, 0))) :
    St c E (L.set i ⟨some p, cp'⟩) a (W.setRow p cs') := by
  have hks : ks (L.set i ⟨some p, cp'⟩) = ks L := ks_set (cp := cp') hi
  have hp : p ∈ ks L := mem_ks.2 ⟨_, List.mem_of_getElem? hi, rfl⟩
  have hext : Ext (ks L ++ c.A0) W (ks L ++ c.A0) (W.setRow p cs') :=
    ⟨by simp, fun k _ ha => setRow_other W p k cs' (fun e => ha (e ▸ List.mem_append.2 (.inl hp))), fun _ h _ => h⟩
  exact
  { defers := h.defers
    size := h.size
    env := fun t τ hl => by rw [hks]; exact let ⟨v, h1, h2⟩ := h.env t τ hl; ⟨v, h1, τ.mono hext h2⟩
    fr := ⟨h.fr.os, h.fr.tape, h.fr.output, by simpa using h.fr.size, fun k hk hx => by
      rw [setRow_other W p k cs' (fun e => hx (e ▸ h.mine p hp (e ▸ hk)))]
      exact h.fr.block k hk hx⟩
    own := fun e he => by
      rw [hks]
      obtain ⟨j, hj⟩ := List.mem_iff_getElem?.1 he
      rw [List.getElem?_set] at hj
      split at hj
      · rename_i hij
        subst hij
        split at hj
        · simp only [Option.some.injEq] at hj
          subst hj
          exact ⟨_, setRow_heap W p cs cs' T (0, 0) ho, cp'.mono hext hc⟩
        · cases hj
      · rename_i hij
        have h1 := h.own e (List.mem_of_getElem? hj)
        unfold Ent.ok at *
        split at h1
        · rename_i q hq
          obtain ⟨o', ho', hh⟩ := h1
          have hne : q ≠ p := fun e' => hij (ks_inj h.nodup hi hj rfl (e' ▸ hq))
          exact ⟨o', by rw [setRow_other W p q cs' hne]; exact ho', CP.mono _ hext hh⟩
        · exact h1
    nodup := by rw [hks]; exact h.nodup
    lt := by rw [hks]; simpa using h.lt
    mine := by rw [hks]; exact h.mine
    old := by rw [hks]; simpa using h.old }

/-- a block of which it was only known that it is in motion becomes one of the call's own -/
theorem St.adopt {P n W0 X A0 rd ds E L a W p} {cp : CP} {o : Obj} (h : St ⟨P, n, W0, X, p :: A0, rd, ds⟩ E L a W) (hp : p ∉ A0) (hlt : W0.heap.size ≤ p) (ho : W.heap[p]? = some o) (hc : cp.holds (ks L ++ p :: A0) W o) :
    St ⟨P, n, W0, X, A0, rd, ds⟩ E (⟨some p, cp⟩ :: L) a W := by
  have hext : Ext (ks L ++ p :: A0) W (ks (⟨some p, cp⟩ :: L) ++ A0) W := .drop fun k hk => by
    simp only [ks, List.cons_append, List.mem_cons, List.mem_append] at hk ⊢
    rcases hk with h | h | h
    · exact .inr (.inl h)
    · exact .inl h
    · exact .inr (.inr h)
  have hpo := h.old p (by simp)
  exact
  { defers := h.defers
    size := h.size
    env := fun t τ hl => let ⟨v, h1, h2⟩ := h.env t τ hl; ⟨v, h1, τ.mono hext h2⟩
    fr := h.fr
    own := fun e he => by
      rcases List.mem_cons.1 he with rfl | he
      · exact ⟨o, ho, cp.mono hext hc⟩
      · have h1 := h.own e he
        unfold Ent.ok at *
        split at h1
        · obtain ⟨o', ho', hh⟩ := h1
          exact ⟨o', ho', CP.mono _ hext hh⟩
        · exact h1
    nodup := by simp only [ks]; exact List.nodup_cons.2 ⟨hpo.2, h.nodup⟩
    lt := fun k hk => by
      simp only [ks, List.mem_cons] at hk
      rcases hk with rfl | hk
      · exact hpo.1
      · exact h.lt k hk
    mine := fun k hk hl => by
      simp only [ks, List.mem_cons] at hk
      rcases hk with rfl | hk
      · exact absurd hl (Nat.not_lt.2 hlt)
      · exact h.mine k hk hl
    old := fun k hk => by
      have h1 := h.old k (by simp [hk])
      refine ⟨h1.1, fun hm => ?_⟩
      simp only [ks, List.mem_cons] at hm
      rcases hm with rfl | hm
      · exact hp hk
      · exact h1.2 hm }

/-- a new block that is only in motion -/
theorem St.allocA {P n W0 X A0 rd ds E L a W} (h : St ⟨P, n, W0, X, A0, rd, ds⟩ E L a W) (o : Obj) : St ⟨P, n, W0, X, W.heap.size :: A0, rd, ds⟩ E L a (W.alloc o) := by
  have hext : Ext (ks L ++ A0) W (ks L ++ W.heap.size :: A0) (W.alloc o) :=
    ⟨by simp, fun k hk _ => ha_old W o k hk, fun k hk hlt => by
      simp only [List.mem_cons, List.mem_append] at hk ⊢
      rcases hk with h | h | h
      · exact .inl h
      · omega
      · exact .inr h⟩
  exact
  { defers := h.defers
    size := h.size
    env := fun t τ hl => let ⟨v, h1, h2⟩ := h.env t τ hl; ⟨v, h1, τ.mono hext h2⟩
    fr := h.fr.trans (Fr.alloc W o)
    own := fun e he => by
      have h1 := h.own e he
      unfold Ent.ok at *
      split at h1
      · rename_i p hp
        obtain ⟨o', ho', hh⟩ := h1
        exact ⟨o', by rw [ha_old W o p (h.lt p (mem_ks.2 ⟨e, he, hp⟩))]; exact ho', CP.mono _ hext hh⟩
      · exact h1
    nodup := h.nodup
    lt := fun k hk => by rw [World.size_alloc]; have := h.lt k hk; omega
    mine := h.mine
    old := fun k hk => by
      rw [World.size_alloc]
      rcases List.mem_cons.1 hk with rfl | hk
      · exact ⟨by omega, fun hm => Nat.lt_irrefl _ (h.lt _ hm)⟩
      · have := h.old k hk; exact ⟨by omega, this.2⟩ }

end Gv
