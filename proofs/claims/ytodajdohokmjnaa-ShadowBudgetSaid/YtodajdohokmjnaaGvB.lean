/-
  The library of the decompiler, part B: rules. One operation, a region in the order of the text, a region that draws its order, sequences, tests, loops, the end of a call. Conditions: none; it is about whatever program.
-/
import Derived.Test.YtodajdohokmjnaaGvA
namespace Gv
open Go

/-! ### Scalars -/

abbrev Rp.scalar {α : Type} (val : α → Value) (h : ∀ x, (val x).oneCell' = true) : Rp α where
  size := 1
  agg := false
  rep _ _ cs x := cs = [val x]
  len h := by rw [h]; rfl
  one hr := by subst hr; intro v hv; rw [List.mem_singleton.1 hv]; exact h _
  flat _ := rfl
  mono _ h := h

instance : Rp Bool := .scalar Value.bool fun _ => rfl
/-- Go's int, int64 -/
instance : Rp Int := .scalar (Value.int .i64) fun _ => rfl
instance : Rp (BitVec 64) := .scalar (fun x => Value.int .u64 (x.toNat : Int)) fun _ => rfl
instance : Rp (BitVec 32) := .scalar (fun x => Value.int .u32 (x.toNat : Int)) fun _ => rfl
instance : Rp (BitVec 16) := .scalar (fun x => Value.int .u16 (x.toNat : Int)) fun _ => rfl
instance : Rp (BitVec 8) := .scalar (fun x => Value.int .u8 (x.toNat : Int)) fun _ => rfl
instance : Rp ByteArray := .scalar Value.string fun _ => rfl

theorem toList_one {v u : Value} (h : v.oneCell' = true) (e : v.cells.toList = [u]) : v = u := by
  rw [cells_one h] at e
  simpa using e

theorem of_bool {A W v} {b : Bool} : (VP.of b).holds A W v ↔ v = .bool b :=
  ⟨fun h => toList_one h.1 h.2, fun h => by subst h; exact ⟨rfl, rfl⟩⟩
theorem of_int {A W v} {x : Int} : (VP.of x).holds A W v ↔ v = .int .i64 x :=
  ⟨fun h => toList_one h.1 h.2, fun h => by subst h; exact ⟨rfl, rfl⟩⟩
theorem of_u64 {A W v} {x : BitVec 64} : (VP.of x).holds A W v ↔ v = .int .u64 (x.toNat : Int) :=
  ⟨fun h => toList_one h.1 h.2, fun h => by subst h; exact ⟨rfl, rfl⟩⟩
theorem of_u32 {A W v} {x : BitVec 32} : (VP.of x).holds A W v ↔ v = .int .u32 (x.toNat : Int) :=
  ⟨fun h => toList_one h.1 h.2, fun h => by subst h; exact ⟨rfl, rfl⟩⟩
theorem of_u16 {A W v} {x : BitVec 16} : (VP.of x).holds A W v ↔ v = .int .u16 (x.toNat : Int) :=
  ⟨fun h => toList_one h.1 h.2, fun h => by subst h; exact ⟨rfl, rfl⟩⟩
theorem of_u8 {A W v} {x : BitVec 8} : (VP.of x).holds A W v ↔ v = .int .u8 (x.toNat : Int) :=
  ⟨fun h => toList_one h.1 h.2, fun h => by subst h; exact ⟨rfl, rfl⟩⟩
theorem of_str {A W v} {x : ByteArray} : (VP.of x).holds A W v ↔ v = .string x :=
  ⟨fun h => toList_one h.1 h.2, fun h => by subst h; exact ⟨rfl, rfl⟩⟩

/-! ### Operands -/

def Look (c : Cx) (E : List (Nat × VP)) (L : List Ent) (x : Operand) (τ : VP) : Prop := ∀ a W, St c E L a W → τ.holds (ks L ++ c.A0) W (a.eval x)

section
variable {c : Cx} {E : List (Nat × VP)} {L : List Ent}

theorem look_t {t : Nat} {τ : VP} (h : look E t = some τ) : Look c E L (.tmp t) τ := fun a W s => by
  obtain ⟨v, h1, h2⟩ := s.env t τ h
  have : a.eval (.tmp t) = v := by simp [Act.eval, h1]
  rw [this]; exact h2
theorem look_tc {t : Nat} {τ : VP} {p : Prop} (h : look E t = some (.cond p τ)) (hp : p) : Look c E L (.tmp t) τ := fun a W s => (look_t h a W s).1 hp
theorem look_e (v : Value) : Look c E L (.const v) (.eq v) := fun _ _ _ => rfl
theorem look_f (f : FuncId) : Look c E L (.func f) (.eq (.func (.func f) #[] #[])) := fun _ _ _ => rfl
theorem look_g (g : Nat) : Look c E L (.global g) (.eq (.pointer (some ⟨g, 0, none⟩))) := fun _ _ _ => rfl
theorem look_int (k : Int) : Look c E L (.const (.int .i64 k)) (.of k) := fun _ _ _ => of_int.2 rfl
theorem look_bool (b : Bool) : Look c E L (.const (.bool b)) (.of b) := fun _ _ _ => of_bool.2 rfl
theorem look_u64 (x : BitVec 64) {k : Int} (h : (x.toNat : Int) = k) : Look c E L (.const (.int .u64 k)) (.of x) := fun _ _ _ => of_u64.2 (by rw [h]; rfl)
theorem look_u32 (x : BitVec 32) {k : Int} (h : (x.toNat : Int) = k) : Look c E L (.const (.int .u32 k)) (.of x) := fun _ _ _ => of_u32.2 (by rw [h]; rfl)
theorem look_u16 (x : BitVec 16) {k : Int} (h : (x.toNat : Int) = k) : Look c E L (.const (.int .u16 k)) (.of x) := fun _ _ _ => of_u16.2 (by rw [h]; rfl)
theorem look_u8 (x : BitVec 8) {k : Int} (h : (x.toNat : Int) = k) : Look c E L (.const (.int .u8 k)) (.of x) := fun _ _ _ => of_u8.2 (by rw [h]; rfl)
theorem look_str (s : ByteArray) : Look c E L (.const (.string s)) (.of s) := fun _ _ _ => of_str.2 rfl

/-! ### One operation -/

def OpTo (P : Program) (o : Oper) (a : Act) (W : World) (R : Value → World → Prop) : Prop :=
  o.wp P a W (fun a' W' => ∃ v, a' = a.put o.dst v ∧ R v W') (fun _ _ _ => False)

/-- what holds of a call everywhere holds of it in whatever round -/
theorem CallsIn.ofCalls {rd : Option Nat} {n : Nat} {P : Program} {f : FuncId} {args : Array Value} {w : World} {R : Ending → World → Prop}
    (h : Calls P f args w R) : CallsIn { fn := fun _ => True, depth := none, alive := false, round := rd } n P f args w R :=
  (callsIn_wide (n := n)).2 h
theorem RowsIn.ofRows {rd : Option Nat} {n : Nat} {P : Program} {row : String} {args : Array Value} {w : World} {R : Value → World → Prop}
    (h : Rows P row args w R) : RowsIn { fn := fun _ => True, depth := none, alive := false, round := rd } n P row args w R :=
  fun c cs _ => let ⟨v, w', r, s⟩ := h c cs; ⟨v, w', r, stepsIn_wide.2 s⟩

theorem OpTo.wp {P : Program} {o : Oper} {a : Act} {W : World} {R : Value → World → Prop} {next : Act → World → Prop} {Q : Exit → Act → World → Prop}
    (h : OpTo P o a W R) (hk : ∀ v W', R v W' → next (a.put o.dst v) W') : o.wp P a W next Q := by
  unfold OpTo Oper.wp at *
  generalize (execOp a.eval o).run P W = r at *
  cases r with
  | ok n W' =>
    cases n <;> simp only [Oper.upon] at h ⊢
    case value v => obtain ⟨u, h1, h2⟩ := h; rw [h1]; exact hk _ _ h2
    case skip => obtain ⟨u, h1, h2⟩ := h; rw [h1]; exact hk _ _ h2
    case defer d => obtain ⟨u, h1, h2⟩ := h; rw [h1]; exact hk _ _ h2
    case enter f args =>
      refine h.mono fun e w'' he => ?_
      cases e with
      | returned v => obtain ⟨u, h1, h2⟩ := he; simp only at h1 ⊢; rw [h1]; exact hk _ _ h2
      | panicked ch => exact he.elim
      | outgrown => obtain ⟨_, _, h1⟩ := he; exact h1.elim
    case row row args => exact h.mono fun v w'' ⟨u, h1, h2⟩ => by rw [h1]; exact hk _ _ h2
  | halt x W' => cases x <;> simp only [Oper.upon] at h

theorem OpTo.no_defer {P : Program} {o : Oper} {a : Act} {W : World} {R : Value → World → Prop} (h : OpTo P o a W R) : ∀ c, o.op ≠ .defer c := by
  intro c ho
  unfold OpTo Oper.wp execOp at h
  rw [ho] at h
  simp only [Sem.run_bind] at h
  generalize (resolve a.eval c o.type).run P W = r at h
  cases r with
  | ok d W' =>
    simp only [Result.andThen, Sem.run_pure, Oper.upon] at h
    obtain ⟨v, h1, _⟩ := h
    have := congrArg Act.defers h1
    cases hd : o.dst <;> simp [Act.put, hd] at this
  | halt x W' => cases x <;> simp only [Result.andThen, Oper.upon] at h

theorem OpTo.wpIn {c : Cx} {n : Nat} {o : Oper} {a : Act} {W : World} {R : Value → World → Prop} {next : Act → World → Prop} {Q : Exit → Act → World → Prop}
    (h : OpTo c.P o a W R) (hk : ∀ v W', R v W' → next (a.put o.dst v) W') : o.wpIn c.F n c.P a W next Q := by
  refine ⟨fun _ _ => trivial, ?_⟩
  rw [Oper.semAt_eq _ _ _ h.no_defer]
  unfold OpTo Oper.wp at h
  generalize (execOp a.eval o).run c.P W = r at *
  cases r with
  | ok m W' =>
    cases m <;> simp only [Oper.upon, Oper.uponIn] at h ⊢
    case value v => obtain ⟨u, h1, h2⟩ := h; rw [h1]; exact hk _ _ h2
    case skip => obtain ⟨u, h1, h2⟩ := h; rw [h1]; exact hk _ _ h2
    case defer d => obtain ⟨u, h1, h2⟩ := h; rw [h1]; exact hk _ _ h2
    case enter f args =>
      refine ⟨fun h => by simp at h, CallsIn.ofCalls ?_⟩
      refine h.mono fun e w'' he => ?_
      cases e with
      | returned v => obtain ⟨u, h1, h2⟩ := he; simp only at h1 ⊢; rw [h1]; exact hk _ _ h2
      | panicked ch => exact he.elim
      | outgrown => obtain ⟨_, _, h1⟩ := he; exact h1.elim
    case row row args =>
      refine ⟨fun h => by simp at h, RowsIn.ofRows ?_⟩
      exact h.mono fun v w'' ⟨u, h1, h2⟩ => by rw [h1]; exact hk _ _ h2
  | halt x W' => cases x <;> simp only [Oper.upon] at h

/-- an operation of which the run's result is known, and which is no call -/
theorem wpIn_of_value {c : Cx} {n : Nat} {o : Oper} {a : Act} {W W' : World} {v : Value} {next : Act → World → Prop} {Q : Exit → Act → World → Prop}
    (h : (execOp a.eval o).run c.P W = .ok (.value v) W') (hk : next (a.put o.dst v) W') : o.wpIn c.F n c.P a W next Q :=
  OpTo.wpIn (R := fun u U => u = v ∧ U = W') (by unfold OpTo Oper.wp; rw [h]; exact ⟨v, rfl, rfl, rfl⟩) fun u U ⟨h1, h2⟩ => by subst h1; subst h2; exact hk
theorem wpIn_of_skip {c : Cx} {n : Nat} {o : Oper} {a : Act} {W W' : World} {next : Act → World → Prop} {Q : Exit → Act → World → Prop}
    (h : (execOp a.eval o).run c.P W = .ok .skip W') (hk : next (a.put o.dst undef) W') : o.wpIn c.F n c.P a W next Q :=
  OpTo.wpIn (R := fun u U => u = undef ∧ U = W') (by unfold OpTo Oper.wp; rw [h]; exact ⟨undef, rfl, rfl, rfl⟩) fun u U ⟨h1, h2⟩ => by subst h1; subst h2; exact hk

theorem wpAnyIn_of_seq {F : Fence} {n : Nat} {P : Program} {md : Region.Mode} {ops : Array Oper} {Q' : Exit → Act → World → Prop} : ∀ (l : List Oper) (k : Nat) (listed : Array Bool) (a : Act) (w : World), (∀ j, l[j]? = ops[k + j]?) →
    Region.seqB md ops l.length k listed = true → wpListIn F n P ops Q' l a w → wpAnyIn F n P md ops Q' l.length listed a w
  | [], _, _, _, _, _, hB, h => ⟨by simpa [Region.seqB] using hB, h⟩
  | o :: l, k, listed, a, w, hl, hB, h => by
    have h0 : ops[k]? = some o := by simpa using (hl 0).symm
    simp only [List.length_cons, Region.seqB, Bool.and_eq_true, decide_eq_true_eq] at hB
    refine ⟨fun h1 => (by rw [hB.1] at h1; cases h1), fun i hi => ?_⟩
    rw [hB.1] at hi
    have hik : i = k := by simpa using hi
    subst hik
    have hw : wpOpIn F n P ops Q' i (wpListIn F n P ops Q' l) a w := by unfold wpOpIn; simp only [h0]; exact h
    exact wpOpIn_mono (fun a' w' h' => wpAnyIn_of_seq l (i + 1) _ a' w' (fun j => by have := hl (j + 1); simpa [Nat.add_assoc, Nat.add_comm 1 j] using this) hB.2 h') hw

theorem OpTo.of_run {P : Program} {o : Oper} {a : Act} {W W' : World} {R : Value → World → Prop} {v : Value}
    (h : (execOp a.eval o).run P W = .ok (.value v) W') (hr : R v W') : OpTo P o a W R := by
  unfold OpTo Oper.wp
  rw [h]
  exact ⟨v, rfl, hr⟩

theorem OpTo.of_skip {P : Program} {o : Oper} {a : Act} {W W' : World} {R : Value → World → Prop}
    (h : (execOp a.eval o).run P W = .ok .skip W') (hr : R undef W') : OpTo P o a W R := by
  unfold OpTo Oper.wp
  rw [h]
  exact ⟨undef, rfl, hr⟩

theorem OpTo.of_enter {P : Program} {o : Oper} {a : Act} {W W' : World} {R : Value → World → Prop} {f : FuncId} {args : Array Value}
    (h : (execOp a.eval o).run P W = .ok (.enter f args) W') (hr : Calls P f args W' fun e w'' => ∃ v, e = .returned v ∧ R v w'') : OpTo P o a W R := by
  unfold OpTo Oper.wp
  rw [h]
  exact hr.mono fun e w'' ⟨v, he, h2⟩ => by subst he; exact ⟨v, rfl, h2⟩

/-- the operation yields what τ says, and touches nothing that is there -/
def HR (c : Cx) (E : List (Nat × VP)) (L : List Ent) (o : Oper) (τ : VP) : Prop :=
  ∀ a W, St c E L a W → OpTo c.P o a W fun v W' => Fr [] W W' ∧ τ.holds (ks L ++ c.A0) W' v

theorem HR.pure {o : Oper} {τ : VP} (h : ∀ a W, St c E L a W → ∃ v, (execOp a.eval o).run c.P W = .ok (.value v) W ∧ τ.holds (ks L ++ c.A0) W v) : HR c E L o τ :=
  fun a W s => let ⟨_, h1, h2⟩ := h a W s; .of_run h1 ⟨.refl _ _, h2⟩

/-! ### A region in the order of the text -/

variable {ops : Array Oper} {Q : Exit → Act → World → Prop}

def Sq (c : Cx) (ops : Array Oper) (Q : Exit → Act → World → Prop) (l : List Oper) (E : List (Nat × VP)) (L : List Ent) : Prop :=
  ∀ a W, St c E L a W → c.wpl ops Q l a W

def To (c : Cx) (Q : Exit → Act → World → Prop) (x : Exit) (E : List (Nat × VP)) (L : List Ent) : Prop := ∀ a W, St c E L a W → Q x a W

theorem Sq.nil (h : To c Q .normal E L) : Sq c ops Q [] E L := fun a W s => wpListIn_nil (h a W s)

theorem wpList_op {c : Cx} {o : Oper} {rest : List Oper} {a : Act} {W : World} (hg : o.guard = none) {R : Value → World → Prop} (h : OpTo c.P o a W R)
    (hk : ∀ v W', R v W' → c.wpl ops Q rest (a.put o.dst v) W') : c.wpl ops Q (o :: rest) a W :=
  wpListIn_plain hg fun _ hK => h.wpIn fun v W' hr => hK _ _ (hk v W' hr)

theorem Sq.v {o : Oper} {rest : List Oper} {d : Nat} {τ : VP} (h : HR c E L o τ) (hg : o.guard = none) (hd : o.dst = some d) (hn : Nat.blt d c.n = true)
    (k : Sq c ops Q rest ((d, τ) :: E) L) : Sq c ops Q (o :: rest) E L := fun a W s =>
  wpList_op hg (h a W s) fun v W' ⟨f, hv⟩ => by
    rw [hd]
    exact k _ _ ((s.world f).put (by simpa using hn) hv)

/-- an operation whose result nobody takes -/
theorem Sq.x {o : Oper} {rest : List Oper} {τ : VP} (h : HR c E L o τ) (hg : o.guard = none) (hd : o.dst = none)
    (k : Sq c ops Q rest E L) : Sq c ops Q (o :: rest) E L := fun a W s =>
  wpList_op hg (h a W s) fun v W' ⟨f, _⟩ => by
    rw [hd]
    exact k _ _ (s.world f)

theorem yielded_of {j g : Nat} {b : Bool} (hj : (ops[j]?).bind (·.dst) = some g) (hl : look E g = some (.of b)) {a : Act} {W : World} (s : St c E L a W) :
    yielded ops a.tmps j = some b := by
  obtain ⟨v, h1, h2⟩ := s.env g _ hl
  unfold yielded
  rw [hj]
  simp only [Option.bind_some, h1, of_bool.1 h2]

theorem Sq.g {o : Oper} {rest : List Oper} {d j g : Nat} {b want : Bool} {τ : VP} (h : b = want → HR c E L o τ) (hg : o.guard = some (j, want)) (hj : (ops[j]?).bind (·.dst) = some g)
    (hl : look E g = some (.of b)) (hd : o.dst = some d) (hn : Nat.blt d c.n = true)
    (k : Sq c ops Q rest ((d, .cond (b = want) τ) :: E) L) : Sq c ops Q (o :: rest) E L := fun a W s => by
  have hy := yielded_of hj hl s
  unfold Cx.wpl wpListIn
  by_cases hb : b = want
  · rw [if_pos (by simp [Region.wanted, hg, hy, hb])]
    refine ((h hb a W s).wpIn fun v W' ⟨f, hv⟩ => ?_)
    rw [hd]
    exact k _ _ ((s.world f).put (by simpa using hn) ⟨fun _ => hv, fun h => absurd hb h⟩)
  · rw [if_neg (by simp [Region.wanted, hg, hy, hb])]
    rw [hd]
    exact ⟨fun _ _ => trivial, k _ _ (s.put (by simpa using hn) ⟨fun h => absurd h hb, fun _ => rfl⟩)⟩

theorem yielded_cond {j g : Nat} {p : Prop} {b : Bool} (hj : (ops[j]?).bind (·.dst) = some g) (hl : look E g = some (.cond p (.of b))) {a : Act} {W : World} (s : St c E L a W) :
    (p → yielded ops a.tmps j = some b) ∧ (¬ p → yielded ops a.tmps j = none) := by
  obtain ⟨v, h1, h2, h3⟩ := s.env g _ hl
  unfold yielded
  rw [hj]
  simp only [Option.bind_some, h1]
  exact ⟨fun hp => by simp only [of_bool.1 (h2 hp)], fun hp => by simp only [h3 hp]; rfl⟩

/-- a guard that stands under a guard -/
theorem Sq.gg {o : Oper} {rest : List Oper} {d j g : Nat} {p : Prop} {b want : Bool} {τ : VP} (h : p ∧ b = want → HR c E L o τ) (hg : o.guard = some (j, want)) (hj : (ops[j]?).bind (·.dst) = some g)
    (hl : look E g = some (.cond p (.of b))) (hd : o.dst = some d) (hn : Nat.blt d c.n = true)
    (k : Sq c ops Q rest ((d, .cond (p ∧ b = want) τ) :: E) L) : Sq c ops Q (o :: rest) E L := fun a W s => by
  have hy := yielded_cond hj hl s
  unfold Cx.wpl wpListIn
  by_cases hb : p ∧ b = want
  · rw [if_pos (by simp [Region.wanted, hg, hy.1 hb.1, hb.2])]
    refine ((h hb a W s).wpIn fun v W' ⟨f, hv⟩ => ?_)
    rw [hd]
    exact k _ _ ((s.world f).put (by simpa using hn) ⟨fun _ => hv, fun h => absurd hb h⟩)
  · have hw : Region.wanted o (yielded ops a.tmps) = false := by
      by_cases hp : p
      · have : ¬ (b = want) := fun h => hb ⟨hp, h⟩
        simp [Region.wanted, hg, hy.1 hp, this]
      · simp [Region.wanted, hg, hy.2 hp]
    rw [if_neg (by simp [hw])]
    refine ⟨fun _ _ => trivial, ?_⟩
    rw [hd]
    exact k _ _ (s.put (by simpa using hn) ⟨fun h => absurd h hb, fun _ => rfl⟩)

/-- less is known from here on -/
def sub : List (Nat × VP) → List Nat → List (Nat × VP)
  | _, [] => []
  | E, t :: r => match look E t with
    | some τ => (t, τ) :: sub E r
    | none => sub E r

theorem look_sub {t : Nat} {τ : VP} : ∀ (ts : List Nat), look (sub E ts) t = some τ → look E t = some τ
  | [], h => by simp [sub, look] at h
  | s :: r, h => by
    simp only [sub] at h
    split at h
    · rename_i τ' hs
      simp only [look] at h
      by_cases e : Nat.beq s t = true
      · rw [e] at h
        simp only [cond_true, Option.some.injEq] at h
        rw [look_beq.1 e] at hs
        rw [hs, h]
      · simp only [Bool.not_eq_true] at e
        rw [e] at h
        exact look_sub r h
    · exact look_sub r h

/-- the new list of slots says no more than the elder: slot by slot -/
inductive Le (E : List (Nat × VP)) : List (Nat × VP) → Prop
  | nil : Le E []
  | cons {t τ σ r} : look E t = some σ → (∀ A W v, σ.holds A W v → τ.holds A W v) → Le E r → Le E ((t, τ) :: r)

theorem Le.same {t : Nat} {τ : VP} {r : List (Nat × VP)} (h : look E t = some τ) (k : Le E r) : Le E ((t, τ) :: r) := .cons h (fun _ _ _ h => h) k

theorem Le.look : ∀ {E' : List (Nat × VP)}, Le E E' → ∀ t τ, Gv.look E' t = some τ → ∃ σ, Gv.look E t = some σ ∧ ∀ A W v, σ.holds A W v → τ.holds A W v
  | _, .nil, t, τ, h => by simp [Gv.look] at h
  | _, .cons (t := s) (σ := σ) h1 h2 r, t, τ, h => by
    simp only [Gv.look] at h
    by_cases e : Nat.beq s t = true
    · rw [e] at h
      simp only [cond_true, Option.some.injEq] at h
      subst h
      rw [look_beq.1 e] at h1
      exact ⟨σ, h1, h2⟩
    · simp only [Bool.not_eq_true] at e
      rw [e] at h
      exact r.look t τ h

theorem To.le {x : Exit} {E' : List (Nat × VP)} (h : Le E E') (k : To c Q x E' L) : To c Q x E L := fun a W s => k a W (s.less h.look)
theorem Sq.le {l : List Oper} {E' : List (Nat × VP)} (h : Le E E') (k : Sq c ops Q l E' L) : Sq c ops Q l E L := fun a W s => k a W (s.less h.look)

/-! ### Code -/

def Wp (c : Cx) (Q : Exit → Act → World → Prop) (code : Code) (E : List (Nat × VP)) (L : List Ent) : Prop := ∀ a W, St c E L a W → c.wp code Q a W

theorem Wp.le {code : Code} {E' : List (Nat × VP)} (h : Le E E') (k : Wp c Q code E' L) : Wp c Q code E L := fun a W s => k a W (s.less h.look)

theorem Wp.reg {id : Nat} {l : List Oper} (h : Sq c l.toArray Q l E L) : Wp c Q (.region id l.toArray false) E L := fun a W s => wpIn_region_lit (h a W s)

theorem Wp.seq {x y : Code} (h : Wp c (Exit.then (c.wp y Q) Q) x E L) : Wp c Q (.seq x y) E L := fun a W s => wpIn_seq (h a W s)
theorem To.next {y : Code} (h : Wp c Q y E L) : To c (Exit.then (c.wp y Q) Q) .normal E L := fun a W s => h a W s
theorem To.exit {y : Act → World → Prop} {id : Nat} (h : To c Q (.exit id) E L) : To c (Exit.then y Q) (.exit id) E L := fun a W s => h a W s
theorem To.ret {y : Act → World → Prop} (h : To c Q .ret E L) : To c (Exit.then y Q) .ret E L := fun a W s => h a W s

theorem Wp.block {id : Nat} {x : Code} (h : Wp c (Exit.inBlock id Q) x E L) : Wp c Q (.block id x) E L := fun a W s => wpIn_block (h a W s)
theorem To.bnorm {id : Nat} (h : To c Q .normal E L) : To c (Exit.inBlock id Q) .normal E L := fun a W s => h a W s
theorem To.bexit {id : Nat} (h : To c Q .normal E L) : To c (Exit.inBlock id Q) (.exit id) E L := fun a W s => by
  show (if id = id then Q .normal a W else Q (.exit id) a W)
  rw [if_pos rfl]; exact h a W s
theorem To.bother {id id' : Nat} (hne : Nat.beq id' id = false) (h : To c Q (.exit id') E L) : To c (Exit.inBlock id Q) (.exit id') E L := fun a W s => by
  show (if id' = id then Q .normal a W else Q (.exit id') a W)
  rw [if_neg (fun e => by rw [e, Nat.beq_refl] at hne; cases hne)]; exact h a W s
theorem To.bret {id : Nat} (h : To c Q .ret E L) : To c (Exit.inBlock id Q) .ret E L := fun a W s => h a W s

theorem Wp.skip (h : To c Q .normal E L) : Wp c Q .skip E L := fun a W s => wpIn_skip (h a W s)
theorem Wp.exit {id : Nat} (h : To c Q (.exit id) E L) : Wp c Q (.exit id) E L := fun a W s => wpIn_exit (h a W s)
theorem Wp.ret (h : To c Q .ret E L) : Wp c Q .ret E L := fun a W s => wpIn_ret (h a W s)

theorem Wp.cond {x : Operand} {b : Bool} {y z : Code} (hl : Look c E L x (.of b)) (ht : b = true → Wp c Q y E L) (hf : b = false → Wp c Q z E L) : Wp c Q (.cond x y z) E L :=
  fun a W s => wpIn_cond_split (of_bool.1 (hl a W s)) (fun h => ht h a W s) (fun h => hf h a W s)

/-! ### Loops -/

/-- rounds of a loop: inl: the next round; inr: the loop is left -/
def loopM {σ ε : Type} : Nat → (σ → Option (σ ⊕ ε)) → σ → Option ε
  | 0, _, _ => none
  | n + 1, b, s => match b s with
    | none => none
    | some (.inl s') => loopM n b s'
    | some (.inr e) => some e

/-- where a round ends: behind its last statement, or outside the loop -/
def LQ {σ ε : Type} (c : Cx) (E : σ → List (Nat × VP)) (L : σ → List Ent) (xs : ε → Exit) (Ex : ε → List (Nat × VP)) (Lx : ε → List Ent) : σ ⊕ ε → Exit → Act → World → Prop
  | .inl s, x, a, W => x = .normal ∧ St c (E s) (L s) a W
  | .inr e, x, a, W => x ≠ .normal ∧ x = xs e ∧ St c (Ex e) (Lx e) a W

theorem To.round {σ ε : Type} {E' : σ → List (Nat × VP)} {L' : σ → List Ent} {xs : ε → Exit} {Ex : ε → List (Nat × VP)} {Lx : ε → List Ent} {s : σ}
    (h : ∀ a W, St c E L a W → St c (E' s) (L' s) a W) : To c (LQ c E' L' xs Ex Lx (.inl s)) .normal E L := fun a W st => ⟨rfl, h a W st⟩
theorem To.leave {σ ε : Type} {E' : σ → List (Nat × VP)} {L' : σ → List Ent} {xs : ε → Exit} {Ex : ε → List (Nat × VP)} {Lx : ε → List Ent} {e : ε} {x : Exit}
    (hx : x = xs e) (hn : x ≠ .normal) (h : ∀ a W, St c E L a W → St c (Ex e) (Lx e) a W) : To c (LQ c E' L' xs Ex Lx (.inr e)) x E L := fun a W st => ⟨hn, hx, h a W st⟩

theorem loop_core {F : Fence} {n : Nat} {P : Program} {body : Code} {σ ε : Type} (b : σ → Option (σ ⊕ ε)) (I : σ → Act → World → Prop) (X : ε → Exit → Act → World → Prop)
    (hround : ∀ s r, b s = some r → ∀ a W, I s a W → body.wpIn F n P (fun x a W => match r with | .inl s' => x = .normal ∧ I s' a W | .inr e => x ≠ .normal ∧ X e x a W) a W)
    (Q : Exit → Act → World → Prop) (e : ε) (hafter : ∀ x a W, X e x a W → Q x a W) {s0 : σ} {N : Nat} (hl : loopM N b s0 = some e) {a0 : Act} {W0 : World} (h0 : I s0 a0 W0) :
    (Code.loop body).wpIn F n P Q a0 W0 := by
  intro fr k cs hro hb hr
  have key : ∀ N s, loopM N b s = some e → ∀ a W, I s a W →
      ∃ x a' W', Q x a' W' ∧ ArrivesIn (Machine.fenced P F) P (lone (fr.atR a (.code body :: .inLoop body :: k)) cs W) fr k cs x a' W' := by
    intro N
    induction N with
    | zero => intro s h; simp [loopM] at h
    | succ N ih =>
      intro s h a W hI
      simp only [loopM] at h
      split at h
      · cases h
      · rename_i s' hs
        obtain ⟨x, a₁, W₁, hq, harr⟩ := hround s _ hs a W hI fr (.inLoop body :: k) cs hro hb hr
        obtain ⟨hx, hI'⟩ := hq
        subst hx
        obtain ⟨x₂, a₂, W₂, hq₂, harr₂⟩ := ih s' h a₁ W₁ hI'
        exact ⟨x₂, a₂, W₂, hq₂, .of_steps (StepsIn.trans harr (.one (fenced_calm hb hr rfl) stepR_inLoop)) harr₂⟩
      · rename_i e' hs
        simp only [Option.some.injEq] at h
        subst h
        obtain ⟨x, a₁, W₁, hq, harr⟩ := hround s _ hs a W hI fr (.inLoop body :: k) cs hro hb hr
        obtain ⟨hx, hX⟩ := hq
        exact ⟨x, a₁, W₁, hafter _ _ _ hX, .pass (x := .inLoop body) rfl (fun _ _ => .inl hx) harr⟩
  obtain ⟨x, a', W', hq, harr⟩ := key N s0 hl a0 W0 h0
  exact ⟨x, a', W', hq, .of_steps (.one (fenced_calm hb hr rfl) stepR_loop) harr⟩

theorem Wp.loop {σ ε : Type} {body : Code} {N : Nat} {b : σ → Option (σ ⊕ ε)} {s0 : σ} {e : ε} (hl : loopM N b s0 = some e)
    (E : σ → List (Nat × VP)) (L : σ → List Ent) (xs : ε → Exit) (Ex : ε → List (Nat × VP)) (Lx : ε → List Ent)
    (hbody : ∀ s r, b s = some r → Wp c (LQ c E L xs Ex Lx r) body (E s) (L s))
    (hafter : To c Q (xs e) (Ex e) (Lx e)) : Wp c Q (.loop body) (E s0) (L s0) := fun a W st =>
  loop_core b (fun s a W => St c (E s) (L s) a W) (fun e x a W => x = xs e ∧ St c (Ex e) (Lx e) a W)
    (fun s r hs a W hI => wpIn_mono (hbody s r hs a W hI) (fun x a W h => by
      cases r with
      | inl s' => exact h
      | inr e' => exact ⟨h.1, h.2⟩)) Q e (fun x a W ⟨hx, hs⟩ => by subst hx; exact hafter a W hs) hl st

/-! ### The end of a call -/

/-- the function f, called with values that are as τs say, hands back one that is as ρ says, and touches nothing that was there -/
def Meets (P : Program) (f : FuncId) (τs : List VP) (ρ : VP) : Prop :=
  ∀ (A : List Nat) (W : World) (vs : List Value), (∀ k ∈ A, k < W.heap.size) → HoldsAll A W τs vs →
    Calls P f vs.toArray W fun e W' => ∃ v, e = .returned v ∧ Fr [] W W' ∧ ρ.holds A W' v

/-- slots 0, 1, .. of the parameters -/
def params : Nat → List VP → List (Nat × VP)
  | _, [] => []
  | k, τ :: r => (k, τ) :: params (k + 1) r

theorem look_params {A : List Nat} {W : World} {τs : List VP} {vs : List Value} (h : HoldsAll A W τs vs) : ∀ (k t : Nat) (τ : VP), look (params k τs) t = some τ → k ≤ t ∧ ∃ v, vs[t - k]? = some v ∧ τ.holds A W v := by
  induction h with
  | nil => intro k t τ h; simp [params, look] at h
  | cons h1 r ih =>
    intro k t τ hl
    simp only [params, look] at hl
    by_cases e : Nat.beq k t = true
    · rw [e] at hl
      simp only [cond_true, Option.some.injEq] at hl
      subst hl
      rw [look_beq.1 e]
      exact ⟨Nat.le_refl _, _, by simp, h1⟩
    · simp only [Bool.not_eq_true] at e
      rw [e] at hl
      have hne : k ≠ t := fun h => by rw [look_beq.2 h] at e; cases e
      obtain ⟨h2, v, h3, h4⟩ := ih (k + 1) t τ hl
      refine ⟨by omega, v, ?_, h4⟩
      rw [show t - k = (t - (k + 1)) + 1 by omega, List.getElem?_cons_succ]
      exact h3

theorem Meets.enter {P : Program} {f : FuncId} {fn : Func} {code : Code} {n : Nat} {τs : List VP} {ρ : VP} (hf : P.funcs[f]? = some fn) (hb : fn.body = some code) (hn : fn.ntmps = n) (hlen : Nat.ble τs.length n = true)
    (h : ∀ W A, Wp ⟨P, n, W, [], A, none, []⟩ (bodyPost P fn fun e W' => ∃ v, e = .returned v ∧ Fr [] W W' ∧ ρ.holds A W' v) code (params 0 τs) []) : Meets P f τs ρ := by
  intro A W vs hA hv
  refine calls_of_wp hf hb (wpIn_wide.1 (h W A _ _ ?_))
  have hl := hv.length
  have hle : τs.length ≤ n := Nat.le_of_ble_eq_true hlen
  exact
  { defers := rfl
    size := by simp [hn, hl]; omega
    env := fun t τ hl' => by
      obtain ⟨_, v, h2, h3⟩ := look_params hv 0 t τ hl'
      refine ⟨v, ?_, h3⟩
      have hlt : t < vs.length := (List.getElem?_eq_some_iff.1 h2).1
      rw [Array.getElem?_append_left (by simpa using hlt)]
      simpa using h2
    fr := .refl _ _
    own := by simp
    nodup := by simp [ks]
    lt := by simp [ks]
    mine := by simp [ks]
    old := fun k hk => ⟨hA k hk, by simp [ks]⟩ }

theorem holds_drop {ρ : VP} {A B : List Nat} {W : World} {v : Value} (h : ρ.holds (B ++ A) W v) : ρ.holds A W v := ρ.mono (.drop fun _ h => List.mem_append.2 (.inr h)) h

end
end Gv
