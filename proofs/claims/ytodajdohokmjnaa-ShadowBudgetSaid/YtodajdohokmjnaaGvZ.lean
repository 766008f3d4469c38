/-
  The library of the decompiler, part Z: the same steps under short names, what can be found out by itself left out. Conditions: none; it is about whatever program.
-/
import Derived.Test.YtodajdohokmjnaaGvY
namespace Gv
open Go
set_option linter.unusedVariables false
set_option linter.unusedSimpArgs false

section
variable {c : Cx} {E : List (Nat × VP)} {L : List Ent} {ops : Array Oper} {Q : Exit → Act → World → Prop} {rest : List Oper} {o : Oper} {dd : Nat}
variable {ty : TypeId} {pos : String} {af : Array Edge} {x y : Operand} {t t2 : TypeId}

/-! ### The text's shape -/

theorem Qsr {id : Nat} {l : List Oper} {y : Code} (h : Sq c l.toArray (Exit.then (c.wp y Q) Q) l E L) : Wp c Q (.seq (.region id l.toArray false) y) E L := .seq (.reg h)
theorem Qnx {y : Code} (h : Wp c Q y E L) : Sq c ops (Exit.then (c.wp y Q) Q) [] E L := .nil (.next h)
theorem Qns {y z : Code} (h : Wp c (Exit.then (c.wp z Q) Q) y E L) : Sq c ops (Exit.then (c.wp (Code.seq y z) Q) Q) [] E L := .nil (.next (.seq h))
theorem Qnr {id : Nat} {l : List Oper} {z : Code} (h : Sq c l.toArray (Exit.then (c.wp z Q) Q) l E L) : Sq c ops (Exit.then (c.wp (Code.seq (.region id l.toArray false) z) Q) Q) [] E L := .nil (.next (.seq (.reg h)))
theorem Qkn {y : Code} (h : Wp c Q y E L) : Wp c (Exit.then (c.wp y Q) Q) .skip E L := .skip (.next h)
theorem Qnt (h : To c (Exit.then (c.wp Code.ret Q) Q) .ret E L) (h2 : To c Q .ret E L) : Sq c ops (Exit.then (c.wp Code.ret Q) Q) [] E L := .nil (.next (.ret h2))

theorem Qbs {α β : Type} {m : Option α} {f : α → Option β} {r : β} (h : m.bind f = some r) : ∃ y, m = some y ∧ f y = some r := bind_some h
theorem Qcd {R : Type} {b : Bool} {A B : Option R} {r : R} {y z : Code} (h : cond b A B = some r) (ht : A = some r → Wp c Q y E L) (hf : B = some r → Wp c Q z E L)
    (hl : Look c E L x (.of b) := by first | exact look_t rfl | exact look_bool _) : Wp c Q (.cond x y z) E L :=
  .cond hl (fun hb => ht (cond_t hb h)) (fun hb => hf (cond_f hb h))

/-! ### Operations -/

theorem Qv {τ : VP} (h : HR c E L o τ) (k : Sq c ops Q rest ((dd, τ) :: E) L) (hg : o.guard = none := by rfl) (hd : o.dst = some dd := by rfl) (hn : Nat.blt dd c.n = true := by rfl) : Sq c ops Q (o :: rest) E L := .v h hg hd hn k
theorem Qm {τ : VP} (k : Sq c ops Q rest ((dd, τ) :: E) L) (hx : Look c E L x τ := by first | exact look_t rfl | exact look_int _ | exact look_bool _ | exact look_str _) (hn : Nat.blt dd c.n = true := by rfl) :
    Sq c ops Q (⟨some dd, .move x, ty, pos, af, none⟩ :: rest) E L := .v (r_move hx) rfl rfl hn k
theorem Qa {τ : VP} (k : Sq c ops Q rest ((dd, τ) :: E) L) (hx : Look c E L x τ := by first | exact look_t rfl | exact look_int _ | exact look_bool _ | exact look_str _) (hn : Nat.blt dd c.n = true := by rfl) :
    Sq c ops Q (⟨some dd, .assign x, ty, pos, af, none⟩ :: rest) E L := .v (r_asg hx) rfl rfl hn k
/-- one operand -/
theorem Q1 {σ τ : VP} (h : Look c E L x σ → HR c E L o τ) (k : Sq c ops Q rest ((dd, τ) :: E) L) (hx : Look c E L x σ := by first | exact look_t rfl | exact look_int _ | exact look_bool _ | exact look_str _)
    (hg : o.guard = none := by rfl) (hd : o.dst = some dd := by rfl) (hn : Nat.blt dd c.n = true := by rfl) : Sq c ops Q (o :: rest) E L := .v (h hx) hg hd hn k
/-- two operands -/
theorem Q2 {σ σ2 τ : VP} (h : Look c E L x σ → Look c E L y σ2 → HR c E L o τ) (k : Sq c ops Q rest ((dd, τ) :: E) L) (hx : Look c E L x σ := by first | exact look_t rfl | exact look_int _ | exact look_bool _ | exact look_str _)
    (hy : Look c E L y σ2 := by first | exact look_t rfl | exact look_int _ | exact look_bool _ | exact look_str _)
    (hg : o.guard = none := by rfl) (hd : o.dst = some dd := by rfl) (hn : Nat.blt dd c.n = true := by rfl) : Sq c ops Q (o :: rest) E L := .v (h hx hy) hg hd hn k
/-- the same, its value under a name -/
theorem Qn {α : Type} [Rp α] {a b : α} (e : some a = some b) (h : HR c E L o (.of a)) (k : Sq c ops Q rest ((dd, .of b) :: E) L) (hg : o.guard = none := by rfl) (hd : o.dst = some dd := by rfl) (hn : Nat.blt dd c.n = true := by rfl) :
    Sq c ops Q (o :: rest) E L := .v (h.as (some_in e)) hg hd hn k
theorem Qxt {i : Nat} {τs : List VP} {τ : VP} (k : Sq c ops Q rest ((dd, τ) :: E) L) (hx : Look c E L x (.tup τs) := by exact look_t rfl) (hi : τs[i]? = some τ := by rfl) (hn : Nat.blt dd c.n = true := by rfl) :
    Sq c ops Q (⟨some dd, .extract x i, ty, pos, af, none⟩ :: rest) E L := .v (r_ext hx hi) rfl rfl hn k
theorem Qld {p o : Nat} {β γ : Type} [Rp β] [Rp γ] {b : β} (j : Nat) (l : Lens β γ) (tt : Ty c.P t γ) (k : Sq c ops Q rest ((dd, .of (l.get b)) :: E) L) (hx : Look c E L x (.eq (.pointer (some ⟨p, o, none⟩))) := by exact look_t rfl)
    (hL : L[j]? = some ⟨some p, .var b⟩ := by rfl) (ho : o = l.off := by rfl) (hn : Nat.blt dd c.n = true := by rfl) : Sq c ops Q (⟨some dd, .load t x, ty, pos, af, none⟩ :: rest) E L := .v (r_load l tt hx hL ho rfl) rfl rfl hn k
theorem Ql0 {p : Nat} {β : Type} [Rp β] {b : β} (j : Nat) (tt : Ty c.P t β) (k : Sq c ops Q rest ((dd, .of b) :: E) L) (hx : Look c E L x (.eq (.pointer (some ⟨p, 0, none⟩))) := by exact look_t rfl)
    (hL : L[j]? = some ⟨some p, .var b⟩ := by rfl) (hn : Nat.blt dd c.n = true := by rfl) : Sq c ops Q (⟨some dd, .load t x, ty, pos, af, none⟩ :: rest) E L := .v (r_load (Lens.id β) tt hx hL rfl rfl) rfl rfl hn k
theorem Qlx {p o : Nat} {β γ : Type} [Rp β] [Rp γ] {b : β} {os : List (Nat × Value)} (j : Nat) (l : Lens β γ) (tt : Ty c.P t γ) (k : Sq c ops Q rest ((dd, .of (l.get b)) :: E) L) (hx : Look c E L x (.eq (.pointer (some ⟨p, o, none⟩))) := by exact look_t rfl)
    (hL : L[j]? = some ⟨some p, .varX b os⟩ := by rfl) (ho : o = l.off := by rfl) (ha : apartB os l.off (Rp.size γ) = true := by rfl) (hn : Nat.blt dd c.n = true := by rfl) : Sq c ops Q (⟨some dd, .load t x, ty, pos, af, none⟩ :: rest) E L := .v (r_loadX l tt hx hL ho rfl ha) rfl rfl hn k
theorem Qfp {s f o : Nat} {β γ : Type} [Rp β] [Rp γ] {b : β} (l : Lens β γ) (fd : FdA c.P s f o) (k : Sq c ops Q rest ((dd, .ptr (l.get b)) :: E) L) (hx : Look c E L x (.ptr b) := by exact look_t rfl) (ho : l.off = o := by rfl) (hn : Nat.blt dd c.n = true := by rfl) :
    Sq c ops Q (⟨some dd, .fieldAddr s x f, ty, pos, af, none⟩ :: rest) E L := .v (r_fap l fd hx ho rfl) rfl rfl hn k
theorem Qix {α : Type} [Rp α] [Inhabited α] {xs : List α} {e : TypeId} {i : Int} {j : Nat} (hk : idx xs.length i = some j) (hu : c.P.underlying t = some (.slice e)) (te : Ty c.P e α) (k : Sq c ops Q rest ((dd, .ptr (lget xs j)) :: E) L)
    (hx : Look c E L x (.of xs) := by exact look_t rfl) (hy : Look c E L y (.of i) := by first | exact look_t rfl | exact look_int _) (hn : Nat.blt dd c.n = true := by rfl) :
    Sq c ops Q (⟨some dd, .indexAddr t x y, ty, pos, af, none⟩ :: rest) E L := .v (r_ias hu te hx hy (idx_some hk)) rfl rfl hn k
theorem Qor {b e : Bool} {p : Prop} (k : Sq c ops Q rest ((dd, .of (b || e)) :: E) L) (hx : Look c E L x (.of b) := by exact look_t rfl) (hy : Look c E L y (.cond p (.of e)) := by exact look_t rfl) (hp : b = false → p := by exact fun h => h) (hn : Nat.blt dd c.n = true := by rfl) :
    Sq c ops Q (⟨some dd, .pick x (.const (.bool true)) y, ty, pos, af, none⟩ :: rest) E L := .v (r_or hx hy hp) rfl rfl hn k
theorem Qan {b e : Bool} {p : Prop} (k : Sq c ops Q rest ((dd, .of (b && e)) :: E) L) (hx : Look c E L x (.of b) := by exact look_t rfl) (hy : Look c E L y (.cond p (.of e)) := by exact look_t rfl) (hp : b = true → p := by exact fun h => h) (hn : Nat.blt dd c.n = true := by rfl) :
    Sq c ops Q (⟨some dd, .pick x y (.const (.bool false)), ty, pos, af, none⟩ :: rest) E L := .v (r_and hx hy hp) rfl rfl hn k
theorem Qg {τ : VP} {j g : Nat} {b want : Bool} (h : b = want → HR c E L o τ) (k : Sq c ops Q rest ((dd, .cond (b = want) τ) :: E) L) (hg : o.guard = some (j, want) := by rfl) (hj : (ops[j]?).bind (·.dst) = some g := by rfl) (hl : look E g = some (.of b) := by rfl)
    (hd : o.dst = some dd := by rfl) (hn : Nat.blt dd c.n = true := by rfl) : Sq c ops Q (o :: rest) E L := .g h hg hj hl hd hn k
/-- a guarded one, one operand -/
theorem Qg1 {σ τ : VP} {j g : Nat} {b want : Bool} (h : Look c E L x σ → HR c E L o τ) (k : Sq c ops Q rest ((dd, .cond (b = want) τ) :: E) L)
    (hx : b = want → Look c E L x σ := by first | exact fun hb => look_tc rfl hb | exact fun _ => look_t rfl | exact fun _ => look_int _ | exact fun _ => look_bool _)
    (hg : o.guard = some (j, want) := by rfl) (hj : (ops[j]?).bind (·.dst) = some g := by rfl) (hl : look E g = some (.of b) := by rfl)
    (hd : o.dst = some dd := by rfl) (hn : Nat.blt dd c.n = true := by rfl) : Sq c ops Q (o :: rest) E L := .g (fun hb => h (hx hb)) hg hj hl hd hn k
theorem Qg2 {σ σ2 τ : VP} {j g : Nat} {b want : Bool} (h : Look c E L x σ → Look c E L y σ2 → HR c E L o τ) (k : Sq c ops Q rest ((dd, .cond (b = want) τ) :: E) L)
    (hx : b = want → Look c E L x σ := by first | exact fun hb => look_tc rfl hb | exact fun _ => look_t rfl | exact fun _ => look_int _ | exact fun _ => look_bool _)
    (hy : b = want → Look c E L y σ2 := by first | exact fun hb => look_tc rfl hb | exact fun _ => look_t rfl | exact fun _ => look_int _ | exact fun _ => look_bool _)
    (hg : o.guard = some (j, want) := by rfl) (hj : (ops[j]?).bind (·.dst) = some g := by rfl) (hl : look E g = some (.of b) := by rfl)
    (hd : o.dst = some dd := by rfl) (hn : Nat.blt dd c.n = true := by rfl) : Sq c ops Q (o :: rest) E L := .g (fun hb => h (hx hb) (hy hb)) hg hj hl hd hn k
theorem Qal {α : Type} [Rp α] {z : α} (zr : Zr c.P t z) (k : ∀ p, Sq c ops Q rest ((dd, .eq (.pointer (some ⟨p, 0, none⟩))) :: E) (⟨some p, .var z⟩ :: L)) (hn : Nat.blt dd c.n = true := by rfl) :
    Sq c ops Q (⟨some dd, .alloc t, ty, pos, af, none⟩ :: rest) E L := .alloc zr hn k
theorem Qbx {α : Type} [Rp α] {z : α} (k : ∀ p, Sq c ops Q rest ((dd, .eq (.pointer (some ⟨p, 0, none⟩))) :: E) (⟨some p, .var z⟩ :: L)) (hx : Look c E L x (.of z) := by first | exact look_t rfl | exact look_int _ | exact look_bool _) (hn : Nat.blt dd c.n = true := by rfl) :
    Sq c ops Q (⟨some dd, .box t x, ty, pos, af, none⟩ :: rest) E L := .box hx hn k
theorem Qst {p o : Nat} {β γ : Type} [Rp β] [Rp γ] {b : β} {v : γ} (i : Nat) (l : Lens β γ) (tt : Ty c.P t γ) (k : Sq c ops Q rest E (L.set i ⟨some p, .var (l.set b v)⟩)) (hx : Look c E L x (.eq (.pointer (some ⟨p, o, none⟩))) := by exact look_t rfl)
    (hy : Look c E L y (.of v) := by first | exact look_t rfl | exact look_int _ | exact look_bool _ | exact look_nil | exact look_str _) (hL : L[i]? = some ⟨some p, .var b⟩ := by rfl) (ho : o = l.off := by rfl) :
    Sq c ops Q (⟨none, .store t x y, ty, pos, af, none⟩ :: rest) E L := .store l tt hx hy hL ho rfl k
theorem Qs0 {p : Nat} {β : Type} [Rp β] {b v : β} (i : Nat) (tt : Ty c.P t β) (k : Sq c ops Q rest E (L.set i ⟨some p, .var v⟩)) (hx : Look c E L x (.eq (.pointer (some ⟨p, 0, none⟩))) := by exact look_t rfl)
    (hy : Look c E L y (.of v) := by first | exact look_t rfl | exact look_int _ | exact look_bool _ | exact look_nil | exact look_str _) (hL : L[i]? = some ⟨some p, .var b⟩ := by rfl) :
    Sq c ops Q (⟨none, .store t x y, ty, pos, af, none⟩ :: rest) E L := .store (Lens.id β) tt hx hy hL rfl rfl k
theorem Qsn {p o : Nat} {β γ : Type} [Rp β] [Rp γ] {b b' : β} {v : γ} (i : Nat) (l : Lens β γ) (tt : Ty c.P t γ) (k : Sq c ops Q rest E (L.set i ⟨some p, .var b'⟩)) (hx : Look c E L x (.eq (.pointer (some ⟨p, o, none⟩))) := by exact look_t rfl)
    (hy : Look c E L y (.of v) := by first | exact look_t rfl | exact look_int _ | exact look_bool _ | exact look_nil | exact look_str _) (hL : L[i]? = some ⟨some p, .var b⟩ := by rfl) (ho : o = l.off := by rfl) (hb : some (l.set b v) = some b') :
    Sq c ops Q (⟨none, .store t x y, ty, pos, af, none⟩ :: rest) E L := .store l tt hx hy hL ho (some_in hb) k
theorem Qcl {f : FuncId} {xs : List Operand} {ats : Array TypeId} {τs : List VP} {ρ : VP} (en : En c.P f) (h : Meets c.P f τs ρ) (k : Sq c ops Q rest ((dd, ρ) :: E) L)
    (hx : Looks c E L xs τs := by repeat (first | exact trivial | refine ⟨look_t rfl, ?_⟩ | refine ⟨look_int _, ?_⟩ | refine ⟨look_bool _, ?_⟩ | refine ⟨look_nil, ?_⟩ | refine ⟨look_str _, ?_⟩)) (hn : Nat.blt dd c.n = true := by rfl) :
    Sq c ops Q (⟨some dd, .call ⟨.value (.func f), xs.toArray, ats⟩, ty, pos, af, none⟩ :: rest) E L := .v (r_call en h hx) rfl rfl hn k
theorem QcO {f : FuncId} {xs : List Operand} {ats : Array TypeId} {τs : List VP} {δ : Type} {ρ : δ → VP} {Lo : δ → List Ent} (n : Nat) (en : En c.P f) (h : MeetsO c.P f τs (L.take n) ρ Lo)
    (k : ∀ q, Sq c ops Q rest ((dd, ρ q) :: E) (Lo q ++ L.drop n)) (hx : Looks c E L xs τs := by repeat (first | exact trivial | refine ⟨look_t rfl, ?_⟩ | refine ⟨look_int _, ?_⟩ | refine ⟨look_bool _, ?_⟩ | refine ⟨look_nil, ?_⟩ | refine ⟨look_own, ?_⟩ | refine ⟨look_str _, ?_⟩)) (hn : Nat.blt dd c.n = true := by rfl) :
    Sq c ops Q (⟨some dd, .call ⟨.value (.func f), xs.toArray, ats⟩, ty, pos, af, none⟩ :: rest) E L := by
  have e := List.take_append_drop n L
  have := Sq.callO (ty := ty) (pos := pos) (af := af) (ats := ats) (xs := xs) (Lin := L.take n) (Lr := L.drop n) (E := E) (Q := Q) (ops := ops) en h (by rw [e]; exact hx) hn k
  rwa [e] at this
theorem QcOx {f : FuncId} {xs : List Operand} {ats : Array TypeId} {τs : List VP} {δ : Type} {ρ : δ → VP} {Lo : δ → List Ent} (n : Nat) (en : En c.P f) (h : MeetsO c.P f τs (L.take n) ρ Lo)
    (k : ∀ q, Sq c ops Q rest E (Lo q ++ L.drop n)) (hx : Looks c E L xs τs := by repeat (first | exact trivial | refine ⟨look_t rfl, ?_⟩ | refine ⟨look_int _, ?_⟩ | refine ⟨look_bool _, ?_⟩ | refine ⟨look_nil, ?_⟩ | refine ⟨look_own, ?_⟩ | refine ⟨look_str _, ?_⟩)) :
    Sq c ops Q (⟨none, .call ⟨.value (.func f), xs.toArray, ats⟩, ty, pos, af, none⟩ :: rest) E L := by
  have e := List.take_append_drop n L
  have := Sq.callOx (ty := ty) (pos := pos) (af := af) (ats := ats) (xs := xs) (Lin := L.take n) (Lr := L.drop n) (E := E) (Q := Q) (ops := ops) en h (by rw [e]; exact hx) k
  rwa [e] at this
theorem Qap {α : Type} [Rp α] {e bytes cap : Nat} {key : Option Nat} {xs ys r : List α} {z : α} (j : Nat) (hu : c.P.underlying t = some (.slice e)) (te : Ty c.P e α) (zr : Zr c.P e z) (h : appM bytes xs ys = some r)
    (k : ∀ key' cap', Sq c ops Q rest ((dd, .eq (slv key' r.length cap')) :: E) (L.set j ⟨key', .row e r cap'⟩)) (hby : (c.P.info? e).map (·.bytes) = some bytes := by kernel_rfl)
    (hs : Look c E L x (.eq (slv key xs.length cap)) := by first | exact look_t rfl | exact look_own) (hL : L[j]? = some ⟨key, .row e xs cap⟩ := by rfl) (hy : Look c E L y (.of ys) := by exact look_t rfl) (hn : Nat.blt dd c.n = true := by rfl) :
    Sq c ops Q (⟨some dd, .call ⟨.builtin .append, #[x, y], #[t, t]⟩, ty, pos, af, none⟩ :: rest) E L := .app hu te zr hby hs hL hy h hn k

/-! ### Structs and lists that are built -/

theorem Qfl {place : Nat → Option (Nat × Nat)} {β : Type} [Rp β] {b b' : β} {γ : Type} [Rp γ] {v : γ} {i : Nat} {r : List (Nat × Operand)} (l : Lens β γ) (k : Fills c E L place (l.set b v) r b')
    (hp : place i = some (l.off, Rp.size γ) := by rfl) (hx : Look c E L x (.of v) := by first | exact look_t rfl | exact look_int _ | exact look_bool _ | exact look_nil | exact look_str _) : Fills c E L place b ((i, x) :: r) b' := .cons l hp hx rfl k
theorem Qbd {β : Type} [Rp β] {z b : β} {ps : List (Nat × Operand)} {pl : Array (Nat × Nat)} (bu : Bu c.P t pl) (zr : Zr c.P t z) (b0 : β) (hf : Fills c E L (pl[·]?) z ps b) (k : Sq c ops Q rest ((dd, .of b0) :: E) L) (ha : Rp.agg β = true := by rfl) (hb : b = b0 := by rfl) (hn : Nat.blt dd c.n = true := by rfl) :
    Sq c ops Q (⟨some dd, .build t ps.toArray, ty, pos, af, none⟩ :: rest) E L := .v ((r_build ha bu zr hf).as hb) rfl rfl hn k
theorem Qbl {α : Type} [Rp α] {e n : Nat} {z : α} {ps : List (Nat × Operand)} (r : List α) (hu : c.P.underlying t = some (.slice e)) (te : Ty c.P e α) (zr : Zr c.P e z) (k : Sq c ops Q rest ((dd, .of r) :: E) L)
    (hf : FillsL c E L (List.replicate n z) ps r := by repeat (first | exact FillsL.nil | refine FillsL.cons (by simp) (look_t rfl) ?_ | refine FillsL.cons (by simp) (look_int _) ?_ | refine FillsL.cons (by simp) (look_bool _) ?_ | refine FillsL.cons (by simp) (look_str _) ?_))
    (hs : Nat.beq (Rp.size α) 0 = false := by rfl) (hn' : Nat.ble (n * Rp.size α) 16777216 = true := by rfl) (hn : Nat.blt dd c.n = true := by rfl) :
    Sq c ops Q (⟨some dd, .buildSlice t n ps.toArray, ty, pos, af, none⟩ :: rest) E L := .v (r_bsl hu te zr hs hn' hf) rfl rfl hn k

/-! ### What is known, and ends -/

/-- what is known of some slots -/
inductive Sb (E : List (Nat × VP)) : List Nat → List (Nat × VP) → Prop
  | nil : Sb E [] []
  | cons {t : Nat} {ts : List Nat} {τ : VP} {E2 : List (Nat × VP)} : look E t = some τ → Sb E ts E2 → Sb E (t :: ts) ((t, τ) :: E2)
theorem Sb.le : ∀ {ts : List Nat} {E1 : List (Nat × VP)}, Sb E ts E1 → Le E E1
  | _, _, .nil => .nil
  | _, _, .cons h k => .same h k.le
theorem Qwl {code : Code} {E1 : List (Nat × VP)} (ts : List Nat) (k : Wp c Q code E1 L) (hE : Sb E ts E1 := by repeat (first | exact Sb.nil | (apply Sb.cons; rfl))) : Wp c Q code E L := .le hE.le k
theorem Qtl {z : Exit} {E1 : List (Nat × VP)} (ts : List Nat) (k : To c Q z E1 L) (hE : Sb E ts E1 := by repeat (first | exact Sb.nil | (apply Sb.cons; rfl))) : To c Q z E L := .le hE.le k
theorem Qmt {z : Exit} {E' : List (Nat × VP)} {L' : List Ent} (n : Nat) (k : To c Q z E' L') (hL : L.drop n = L' := by rfl) (h : Le E E' := by repeat (first | exact Le.nil | refine Le.same rfl ?_)) : To c Q z E L := .meet n hL h k
theorem Qrd {σ ε γ δ : Type} {E' : σ → γ → List (Nat × VP)} {L' : σ → γ → List Ent} {xs : ε → Exit} {Ex : ε → δ → List (Nat × VP)} {Lx : ε → δ → List Ent} {s : σ} (g : γ) (n : Nat) (hL : L.drop n = L' s g := by rfl)
    (h : Le E (E' s g) := by repeat (first | exact Le.nil | refine Le.same rfl ?_)) : To c (LQG c E' L' xs Ex Lx (.inl s)) .normal E L := .roundG g n hL h
theorem Qlv {σ ε γ δ : Type} {E' : σ → γ → List (Nat × VP)} {L' : σ → γ → List Ent} {xs : ε → Exit} {Ex : ε → δ → List (Nat × VP)} {Lx : ε → δ → List Ent} {e : ε} {z : Exit} (g : δ) (n : Nat) (hx : z = xs e := by rfl) (hn : z ≠ .normal := by simp) (hL : L.drop n = Lx e g := by rfl)
    (h : Le E (Ex e g) := by repeat (first | exact Le.nil | refine Le.same rfl ?_)) : To c (LQG c E' L' xs Ex Lx (.inr e)) z E L := .leaveG g n hx hn hL h
theorem Qrc {t : Nat} {p : Nat} {α : Type} [Rp α] {v : α} (i : Nat) (tt : Ty c.P ty α) (h : look E t = some (.eq (.pointer (some ⟨p, 0, none⟩))) := by rfl) (hL : L[i]? = some ⟨some p, .var v⟩ := by rfl) : RV c E L (.cell t ty) (.of v) := rv_c tt h hL
theorem Qe1 {fn : Func} {t : Nat} {τ : VP} (hr : fn.results = #[.tmp t] := by rfl) (h : look E t = some τ := by rfl) (hds : c.ds = [] := by rfl) : To c (bodyPost c.P fn (Post c τ)) .ret E L := .end1 hr (rv_t h) hds
theorem Qe2 {fn : Func} {t u : Nat} {τ τ2 : VP} (hr : fn.results = #[.tmp t, .tmp u] := by rfl) (h : look E t = some τ := by rfl) (h2 : look E u = some τ2 := by rfl) (hds : c.ds = [] := by rfl) : To c (bodyPost c.P fn (Post c (.tup [τ, τ2]))) .ret E L := .end2 hr (rv_t h) (rv_t h2) hds
theorem Qo1 {fn : Func} {t : Nat} {τ : VP} {δ : Type} {ρ : δ → VP} {Lo : δ → List Ent} (dd : δ) (hs : (Lo dd).Sublist L := by repeat (first | exact List.nil_sublist _ | refine List.Sublist.cons_cons _ ?_)) (hr : fn.results = #[.tmp t] := by rfl) (h : look E t = some τ := by rfl) (hρ : ρ dd = τ := by rfl) (hds : c.ds = [] := by rfl) :
    To c (bodyPost c.P fn (PostO c.X c.A0 c.W0 ρ Lo)) .ret E L := .endO1 dd hs hr hρ (rvo_t h) hds
theorem Qo2 {fn : Func} {t u : Nat} {τ τ2 : VP} {δ : Type} {ρ : δ → VP} {Lo : δ → List Ent} (dd : δ) (hs : (Lo dd).Sublist L := by repeat (first | exact List.nil_sublist _ | refine List.Sublist.cons_cons _ ?_)) (hr : fn.results = #[.tmp t, .tmp u] := by rfl)
    (h : look E t = some τ := by rfl) (h2 : look E u = some τ2 := by rfl) (hρ : ρ dd = .tup [τ, τ2] := by rfl) (hds : c.ds = [] := by rfl) : To c (bodyPost c.P fn (PostO c.X c.A0 c.W0 ρ Lo)) .ret E L := .endO2 dd hs hr hρ (rvo_t h) (rvo_t h2) hds
/-! ### Loops and ways that meet -/

def setN : List Ent → List (Nat × Ent) → List Ent
  | L, [] => L
  | L, (i, e) :: r => setN (L.set i e) r
/-- the same list, spelled out -/
inductive NL : List Ent → List Ent → Prop
  | nil : NL [] []
  | cons {e : Ent} {r s : List Ent} : NL r s → NL (e :: r) (e :: s)
theorem NL.eq : ∀ {l m : List Ent}, NL l m → l = m
  | _, _, .nil => rfl
  | _, _, .cons h => by rw [h.eq]
theorem Qlp {σ ε γ δ : Type} {body : Code} {N : Nat} {b : σ → Option (σ ⊕ ε)} {s0 : σ} {e : ε} {E1 : List (Nat × VP)} {L1 : List Ent} (hl : loopM N b s0 = some e) (ts : List Nat) (u : σ → γ → List (Nat × VP)) (ul : σ → γ → List (Nat × Ent)) (xs : ε → Exit)
    (ux : ε → δ → List (Nat × VP)) (ulx : ε → δ → List (Nat × Ent)) (g0 : γ)
    (hbody : ∀ s r, b s = some r → ∀ g, Wp c (LQG c (fun s g => u s g ++ E1) (fun s g => setN L1 (ul s g)) xs (fun e d => ux e d ++ E1) (fun e d => setN L1 (ulx e d)) r) body (u s g ++ E1) (setN L1 (ul s g)))
    (hafter : ∀ g, To c Q (xs e) (ux e g ++ E1) (setN L1 (ulx e g)))
    (hL1 : NL L L1 := by repeat (first | exact NL.nil | apply NL.cons))
    (hE1 : Sb E ts E1 := by repeat (first | exact Sb.nil | (apply Sb.cons; rfl))) (hE : Le E (u s0 g0 ++ E1) := by repeat (first | exact Le.nil | refine Le.same rfl ?_)) (hL : L1 = setN L1 (ul s0 g0) := by rfl) : Wp c Q (.loop body) E L :=
  Wp.loopG hl (fun s g => u s g ++ E1) (fun s g => setN L1 (ul s g)) xs (fun e d => ux e d ++ E1) (fun e d => setN L1 (ulx e d)) g0 (hL1.eq.trans hL) hE hbody hafter
theorem Qcm {γ : Type} {b : Bool} {y z : Code} {E1 : List (Nat × VP)} {L1 : List Ent} (ts : List Nat) (u : γ → List (Nat × VP)) (ul : γ → List (Nat × Ent)) (hM : ∀ g, To c Q .normal (u g ++ E1) (setN L1 (ul g)))
    (ht : (∀ g, To c Q .normal (u g ++ E1) (setN L1 (ul g))) → b = true → Wp c Q y E L1) (hf : (∀ g, To c Q .normal (u g ++ E1) (setN L1 (ul g))) → b = false → Wp c Q z E L1)
    (hL1 : NL L L1 := by repeat (first | exact NL.nil | apply NL.cons))
    (hE1 : Sb E ts E1 := by repeat (first | exact Sb.nil | (apply Sb.cons; rfl))) (hl : Look c E L1 x (.of b) := by first | exact look_t rfl | exact look_bool _) : Wp c Q (.cond x y z) E L := by
  cases hL1.eq
  exact Wp.condM (fun g => u g ++ E1) (fun g => setN L (ul g)) hl hM ht hf

/-! ### Regions that draw their order -/

section
variable {all : List Hk} {w : Nat → Bool}
theorem Hv {τ : VP} {hyp : List Ent → Prop} (h : ∀ L', hyp L' → HR c E L' o τ) (hg : o.guard = none := by rfl) : ∀ L', hyp L' → HO c ops E L' o τ := fun L' hL => .v (h L' hL) hg
theorem Hm {τ : VP} {hyp : List Ent → Prop} (hx : ∀ L', Look c E L' x τ := by first | exact fun _ => look_t rfl | exact fun _ => look_int _ | exact fun _ => look_bool _ | exact fun _ => look_str _) : ∀ L', hyp L' → HO c ops E L' ⟨some dd, .move x, ty, pos, af, none⟩ τ := fun L' _ => .v (r_move (hx L')) rfl
theorem Ha {τ : VP} {hyp : List Ent → Prop} (hx : ∀ L', Look c E L' x τ := by first | exact fun _ => look_t rfl | exact fun _ => look_int _ | exact fun _ => look_bool _ | exact fun _ => look_str _) : ∀ L', hyp L' → HO c ops E L' ⟨some dd, .assign x, ty, pos, af, none⟩ τ := fun L' _ => .v (r_asg (hx L')) rfl
theorem H1 {σ τ : VP} {hyp : List Ent → Prop} (h : ∀ {L'}, Look c E L' x σ → HR c E L' o τ) (hg : o.guard = none := by rfl) (hx : ∀ L', Look c E L' x σ := by first | exact fun _ => look_t rfl | exact fun _ => look_int _ | exact fun _ => look_bool _ | exact fun _ => look_str _) :
    ∀ L', hyp L' → HO c ops E L' o τ := fun L' _ => .v (h (hx L')) hg
theorem H2 {σ σ2 τ : VP} {hyp : List Ent → Prop} (h : ∀ {L'}, Look c E L' x σ → Look c E L' y σ2 → HR c E L' o τ) (hg : o.guard = none := by rfl) (hx : ∀ L', Look c E L' x σ := by first | exact fun _ => look_t rfl | exact fun _ => look_int _ | exact fun _ => look_bool _ | exact fun _ => look_str _)
    (hy : ∀ L', Look c E L' y σ2 := by first | exact fun _ => look_t rfl | exact fun _ => look_int _ | exact fun _ => look_bool _ | exact fun _ => look_str _) : ∀ L', hyp L' → HO c ops E L' o τ := fun L' _ => .v (h (hx L') (hy L')) hg
theorem Hld {p o : Nat} {β γ : Type} [Rp β] [Rp γ] {b : β} (i : Nat) (l : Lens β γ) (tt : Ty c.P t γ) (hx : ∀ L', Look c E L' x (.eq (.pointer (some ⟨p, o, none⟩))) := by exact fun _ => look_t rfl) (hL : L[i]? = some ⟨some p, .var b⟩ := by rfl) (ho : o = l.off := by rfl)
    (hu : unsto w i 0 all = true := by first | rfl | kernel_rfl) : ∀ L' : List Ent, (∀ (j : Nat) (e : Ent), L[j]? = some e → unsto w j 0 all = true → L'[j]? = some e) → HO c ops E L' ⟨some dd, .load t x, ty, pos, af, none⟩ (.of (l.get b)) :=
  fun L' hL' => .v (r_load l tt (hx L') (hL' _ _ hL hu) ho rfl) rfl
theorem Hl0 {p : Nat} {β : Type} [Rp β] {b : β} (i : Nat) (tt : Ty c.P t β) (hx : ∀ L', Look c E L' x (.eq (.pointer (some ⟨p, 0, none⟩))) := by exact fun _ => look_t rfl) (hL : L[i]? = some ⟨some p, .var b⟩ := by rfl)
    (hu : unsto w i 0 all = true := by first | rfl | kernel_rfl) : ∀ L' : List Ent, (∀ (j : Nat) (e : Ent), L[j]? = some e → unsto w j 0 all = true → L'[j]? = some e) → HO c ops E L' ⟨some dd, .load t x, ty, pos, af, none⟩ (.of b) :=
  fun L' hL' => .v (r_load (Lens.id β) tt (hx L') (hL' _ _ hL hu) rfl rfl) rfl
theorem Hcl {f : FuncId} {xs : List Operand} {ats : Array TypeId} {τs : List VP} {ρ : VP} {hyp : List Ent → Prop} (en : En c.P f) (h : Meets c.P f τs ρ)
    (hx : ∀ L', Looks c E L' xs τs := by intro L'; repeat (first | exact trivial | refine ⟨look_t rfl, ?_⟩ | refine ⟨look_int _, ?_⟩ | refine ⟨look_bool _, ?_⟩ | refine ⟨look_nil, ?_⟩ | refine ⟨look_str _, ?_⟩)) :
    ∀ L', hyp L' → HO c ops E L' ⟨some dd, .call ⟨.value (.func f), xs.toArray, ats⟩, ty, pos, af, none⟩ ρ := fun L' _ => .v (r_call en h (hx L')) rfl
theorem Hix {α : Type} [Rp α] [Inhabited α] {xs : List α} {e : TypeId} {i : Int} {j : Nat} {hyp : List Ent → Prop} (hk : idx xs.length i = some j) (hu : c.P.underlying t = some (.slice e)) (te : Ty c.P e α)
    (hx : ∀ L', Look c E L' x (.of xs) := by exact fun _ => look_t rfl) (hy : ∀ L', Look c E L' y (.of i) := by first | exact fun _ => look_t rfl | exact fun _ => look_int _) :
    ∀ L', hyp L' → HO c ops E L' ⟨some dd, .indexAddr t x y, ty, pos, af, none⟩ (.ptr (lget xs j)) := fun L' _ => .v (r_ias hu te (hx L') (hy L') (idx_some hk)) rfl
theorem Hfp {s f o : Nat} {β γ : Type} [Rp β] [Rp γ] {b : β} {hyp : List Ent → Prop} (l : Lens β γ) (fd : FdA c.P s f o) (hx : ∀ L', Look c E L' x (.ptr b) := by exact fun _ => look_t rfl) (ho : l.off = o := by rfl) :
    ∀ L', hyp L' → HO c ops E L' ⟨some dd, .fieldAddr s x f, ty, pos, af, none⟩ (.ptr (l.get b)) := fun L' _ => .v (r_fap l fd (hx L') ho rfl) rfl
theorem Hn {α : Type} [Rp α] {a b : α} {hyp : List Ent → Prop} (e : some a = some b) (h : ∀ L', hyp L' → HR c E L' o (.of a)) (hg : o.guard = none := by rfl) : ∀ L', hyp L' → HO c ops E L' o (.of b) := fun L' hL => .v ((h L' hL).as (some_in e)) hg
theorem Hxt {i : Nat} {τs : List VP} {τ : VP} {hyp : List Ent → Prop} (hx : ∀ L', Look c E L' x (.tup τs) := by exact fun _ => look_t rfl) (hi : τs[i]? = some τ := by rfl) : ∀ L', hyp L' → HO c ops E L' ⟨some dd, .extract x i, ty, pos, af, none⟩ τ := fun L' _ => .v (r_ext (hx L') hi) rfl
theorem Hg {τ : VP} {j g : Nat} {b want : Bool} {hyp : List Ent → Prop} (h : ∀ L', hyp L' → b = want → HR c E L' o τ) (hg : o.guard = some (j, want) := by rfl) (hj : (ops[j]?).bind (·.dst) = some g := by rfl) (hl : look E g = some (.of b) := by rfl) :
    ∀ L', hyp L' → HO c ops E L' o (.cond (b = want) τ) := fun L' hL => .g (h L' hL) hg hj hl
end

/-- an operation that only yields a value -/
def Hp (s : Nat) (up rd : List Nat) (τ : VP) : Hd := ⟨some s, up, rd, [], fun _ => τ, fun _ _ => ⟨none, .dead⟩⟩
section
variable {hs : List Hd} {i : Nat} {up rd : List Nat}
theorem Dm {τ : VP} (hx : ∀ (hd : Nat → Hid) (E' : List (Nat × VP)) (L' : List Ent), (∀ t τ, look (heD hd hs E up) t = some τ → look E' t = some τ) → Look c E' L' x τ := by first | exact fun _ _ _ hE => look_t (hE _ _ rfl) | exact fun _ _ _ _ => look_int _ | exact fun _ _ _ _ => look_bool _ | exact fun _ _ _ _ => look_str _)
    (hn : Nat.blt dd c.n = true := by rfl) : HeadD c ops Q hs E L i ⟨some dd, .move x, ty, pos, af, none⟩ (Hp dd up rd τ) := hd_v rfl rfl hn fun hd E' L' hE _ => r_move (hx hd E' L' hE)
theorem D1 {σ τ : VP} (h : ∀ {E' L'}, Look c E' L' x σ → HR c E' L' o τ) (hg : o.guard = none := by rfl) (hd : o.dst = some dd := by rfl)
    (hx : ∀ (hd : Nat → Hid) (E' : List (Nat × VP)) (L' : List Ent), (∀ t τ, look (heD hd hs E up) t = some τ → look E' t = some τ) → Look c E' L' x σ := by first | exact fun _ _ _ hE => look_t (hE _ _ rfl) | exact fun _ _ _ _ => look_int _ | exact fun _ _ _ _ => look_bool _ | exact fun _ _ _ _ => look_str _)
    (hn : Nat.blt dd c.n = true := by rfl) : HeadD c ops Q hs E L i o (Hp dd up rd τ) := hd_v hg hd hn fun hd E' L' hE _ => h (hx hd E' L' hE)
theorem D2 {σ σ2 τ : VP} (h : ∀ {E' L'}, Look c E' L' x σ → Look c E' L' y σ2 → HR c E' L' o τ) (hg : o.guard = none := by rfl) (hd : o.dst = some dd := by rfl)
    (hx : ∀ (hd : Nat → Hid) (E' : List (Nat × VP)) (L' : List Ent), (∀ t τ, look (heD hd hs E up) t = some τ → look E' t = some τ) → Look c E' L' x σ := by first | exact fun _ _ _ hE => look_t (hE _ _ rfl) | exact fun _ _ _ _ => look_int _ | exact fun _ _ _ _ => look_bool _ | exact fun _ _ _ _ => look_str _)
    (hy : ∀ (hd : Nat → Hid) (E' : List (Nat × VP)) (L' : List Ent), (∀ t τ, look (heD hd hs E up) t = some τ → look E' t = some τ) → Look c E' L' y σ2 := by first | exact fun _ _ _ hE => look_t (hE _ _ rfl) | exact fun _ _ _ _ => look_int _ | exact fun _ _ _ _ => look_bool _ | exact fun _ _ _ _ => look_str _)
    (hn : Nat.blt dd c.n = true := by rfl) : HeadD c ops Q hs E L i o (Hp dd up rd τ) := hd_v hg hd hn fun hd E' L' hE _ => h (hx hd E' L' hE) (hy hd E' L' hE)
theorem Dld {p o : Nat} {β γ : Type} [Rp β] [Rp γ] {b : β} (k : Nat) (l : Lens β γ) (tt : Ty c.P t γ)
    (hx : ∀ (hd : Nat → Hid) (E' : List (Nat × VP)) (L' : List Ent), (∀ t τ, look (heD hd hs E up) t = some τ → look E' t = some τ) → Look c E' L' x (.eq (.pointer (some ⟨p, o, none⟩))) := by exact fun _ _ _ hE => look_t (hE _ _ rfl))
    (hL : ∀ hd : Nat → Hid, (Lf (fun _ => true) hd 0 (hs.take i) L)[k]? = some ⟨some p, .var b⟩ := by exact fun _ => rfl) (hr : rd.contains k = true := by rfl) (ho : o = l.off := by rfl)
    (hn : Nat.blt dd c.n = true := by rfl) : HeadD c ops Q hs E L i ⟨some dd, .load t x, ty, pos, af, none⟩ (Hp dd up rd (.of (l.get b))) := hd_v rfl rfl hn fun hd E' L' hE hL' => r_load l tt (hx hd E' L' hE) (hL' _ _ (hL hd) hr) ho rfl
theorem Dl0 {p : Nat} {β : Type} [Rp β] {b : β} (k : Nat) (tt : Ty c.P t β)
    (hx : ∀ (hd : Nat → Hid) (E' : List (Nat × VP)) (L' : List Ent), (∀ t τ, look (heD hd hs E up) t = some τ → look E' t = some τ) → Look c E' L' x (.eq (.pointer (some ⟨p, 0, none⟩))) := by exact fun _ _ _ hE => look_t (hE _ _ rfl))
    (hL : ∀ hd : Nat → Hid, (Lf (fun _ => true) hd 0 (hs.take i) L)[k]? = some ⟨some p, .var b⟩ := by exact fun _ => rfl) (hr : rd.contains k = true := by rfl)
    (hn : Nat.blt dd c.n = true := by rfl) : HeadD c ops Q hs E L i ⟨some dd, .load t x, ty, pos, af, none⟩ (Hp dd up rd (.of b)) := hd_v rfl rfl hn fun hd E' L' hE hL' => r_load (Lens.id β) tt (hx hd E' L' hE) (hL' _ _ (hL hd) hr) rfl rfl
theorem Dv {τ : VP} (h : ∀ (hd : Nat → Hid) (E' : List (Nat × VP)) (L' : List Ent), (∀ t τ, look (heD hd hs E up) t = some τ → look E' t = some τ) → (∀ j e, (Lf (fun _ => true) hd 0 (hs.take i) L)[j]? = some e → rd.contains j = true → L'[j]? = some e) → HR c E' L' o τ)
    (hg : o.guard = none := by rfl) (hd : o.dst = some dd := by rfl) (hn : Nat.blt dd c.n = true := by rfl) : HeadD c ops Q hs E L i o (Hp dd up rd τ) := hd_v hg hd hn h
end
end
end Gv
