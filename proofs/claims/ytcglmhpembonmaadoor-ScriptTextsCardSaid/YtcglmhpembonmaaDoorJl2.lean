/-
  The library of the decompiler, as far as it is needed here. Conditions: none.
-/
import Derived.Lib.ConvBytes
import Derived.Laws.Externs
import Derived.RecoverIn
import Derived.Laws.Pointers
import Derived.Laws.Concat
import Derived.Test.YtcglmhpembonmaaDoorJl1
import Derived.Test.YtcglmhpembonmaaDoorJl0
namespace Gv
open Go
set_option linter.unusedVariables false
set_option linter.unusedSimpArgs false

/-! ### What is known of the program's tables, to be found by its numbers -/
class Kf (P : Program) (s f : Nat) {β γ : outParam Type} [ib : Rp β] [ig : Rp γ] (l : outParam (Lens β γ)) : Prop where
  fd : FdA P s f l.off
class Ks (P : Program) (t : TypeId) (e : outParam TypeId) (α : outParam Type) [ia : Rp α] : Prop where
  hu : P.underlying t = some (.slice e)
  te : Ty P e α
class Kq (P : Program) (t : TypeId) (α : Type) [Rp α] [DecidableEq α] (k : outParam Nat) : Prop where
  ev : Eqv P t α k
  gd : P.eqGuardType P.depth t = false
  hn : Nat.ble k 10000 = true
class Ku (P : Program) (t : TypeId) (d : outParam TypeDesc) : Prop where
  hu : P.underlying t = some d
/-- contracts -/
class K0 (P : Program) (f : FuncId) (ρ : outParam Type) (L : outParam (Option ρ)) (π : outParam (ρ → VP)) : Prop where
  en : En P f
  m : ∀ r, L = some r → Meets P f [] (π r)
class K1 (P : Program) (f : FuncId) (α ρ : outParam Type) (L : outParam (α → Option ρ)) (τ : outParam (α → VP)) (π : outParam (ρ → VP)) : Prop where
  en : En P f
  m : ∀ x r, L x = some r → Meets P f [τ x] (π r)
class K2 (P : Program) (f : FuncId) (α β ρ : outParam Type) (L : outParam (α → β → Option ρ)) (τ : outParam (α → VP)) (σ : outParam (β → VP)) (π : outParam (ρ → VP)) : Prop where
  en : En P f
  m : ∀ x y r, L x y = some r → Meets P f [τ x, σ y] (π r)
class K3 (P : Program) (f : FuncId) (α β γ ρ : outParam Type) (L : outParam (α → β → γ → Option ρ)) (τ : outParam (α → VP)) (σ : outParam (β → VP)) (υ : outParam (γ → VP)) (π : outParam (ρ → VP)) : Prop where
  en : En P f
  m : ∀ x y z r, L x y z = some r → Meets P f [τ x, σ y, υ z] (π r)

theorem K1.i {P : Program} {f : FuncId} {α ρ : Type} {L : α → Option ρ} {τ : α → VP} {π : ρ → VP} {fn : Func} {code : Code} {n : Nat} (hf : P.funcs[f]? = some fn) (hb : fn.body = some code) (hn : fn.ntmps = n) (hl : Nat.ble 1 n = true)
    (h : ∀ x r, L x = some r → ∀ W A, Wp ⟨P, n, W, [], A, none, []⟩ (bodyPost P fn (Post ⟨P, n, W, [], A, none, []⟩ (π r))) code (params 0 [τ x]) []) (hm : (fn.name == "runtime.NumGoroutine") = false := by kernel_rfl) : K1 P f α ρ L τ π :=
  ⟨⟨fn, hf, by rw [hb]; rfl, hm⟩, fun x r e => .of hf hb hn hl (h x r e)⟩
theorem K2.i {P : Program} {f : FuncId} {α β ρ : Type} {L : α → β → Option ρ} {τ : α → VP} {σ : β → VP} {π : ρ → VP} {fn : Func} {code : Code} {n : Nat} (hf : P.funcs[f]? = some fn) (hb : fn.body = some code) (hn : fn.ntmps = n) (hl : Nat.ble 2 n = true)
    (h : ∀ x y r, L x y = some r → ∀ W A, Wp ⟨P, n, W, [], A, none, []⟩ (bodyPost P fn (Post ⟨P, n, W, [], A, none, []⟩ (π r))) code (params 0 [τ x, σ y]) []) (hm : (fn.name == "runtime.NumGoroutine") = false := by kernel_rfl) : K2 P f α β ρ L τ σ π :=
  ⟨⟨fn, hf, by rw [hb]; rfl, hm⟩, fun x y r e => .of hf hb hn hl (h x y r e)⟩
theorem K3.i {P : Program} {f : FuncId} {α β γ ρ : Type} {L : α → β → γ → Option ρ} {τ : α → VP} {σ : β → VP} {υ : γ → VP} {π : ρ → VP} {fn : Func} {code : Code} {n : Nat} (hf : P.funcs[f]? = some fn) (hb : fn.body = some code) (hn : fn.ntmps = n) (hl : Nat.ble 3 n = true)
    (h : ∀ x y z r, L x y z = some r → ∀ W A, Wp ⟨P, n, W, [], A, none, []⟩ (bodyPost P fn (Post ⟨P, n, W, [], A, none, []⟩ (π r))) code (params 0 [τ x, σ y, υ z]) []) (hm : (fn.name == "runtime.NumGoroutine") = false := by kernel_rfl) : K3 P f α β γ ρ L τ σ υ π :=
  ⟨⟨fn, hf, by rw [hb]; rfl, hm⟩, fun x y z r e => .of hf hb hn hl (h x y z r e)⟩
/-! ### What contracts of functions with a pool say -/
section
variable (P : Program) (f : FuncId) (τs : List VP) {κ : Type} [Cl κ] (hp : Pool κ)
/-- changes a variable -/
abbrev MV (p : Nat) {α : Type} [Rp α] (x : α) (ρ : VP) (y : α) : Prop := MeetsO P f τs [vr p x] (δ := Unit) (fun _ => ρ) (fun _ => [vr p y])
end
abbrev VP.lp (p : Nat) {β γ : Type} [Rp β] [Rp γ] (l : Lens β γ) : VP := .eq (.pointer (some ⟨p, l.off, none⟩))

/-- a residue: so that no other step takes it for its own -/
structure Kw (p : Prop) : Prop where
  k : p
/-- entry j of a list -/
inductive At : List Ent → Nat → Ent → Prop
  | z {e r} : At (e :: r) 0 e
  | s {e f r j} : At r j e → At (f :: r) (j + 1) e
theorem At.get : ∀ {L j e}, At L j e → L[j]? = some e
  | _, _, _, .z => rfl
  | _, _, _, .s h => by simpa using h.get
theorem At.g {L : List Ent} {j : Nat} {e : Ent} (h : At L j e := by repeat (first | exact At.z | apply At.s)) : L[j]? = some e := h.get
/-- a list with one entry changed -/
inductive Up : List Ent → Ent → Ent → List Ent → Prop
  | z {e f r} : Up (e :: r) e f (f :: r)
  | s {e f g r s} : Up r e f s → Up (g :: r) e f (g :: s)
theorem Up.get : ∀ {L e f M}, Up L e f M → ∃ j, L[j]? = some e ∧ L.set j f = M
  | _, _, _, _, .z => ⟨0, rfl, rfl⟩
  | _, _, _, _, .s h => let ⟨j, h1, h2⟩ := h.get; ⟨j + 1, by simpa using h1, by simp [h2]⟩

/-- the pool behind the own entries -/
inductive Dn {κ : Type} [Cl κ] : List Ent → Pool κ → Prop
  | z {hp} : Dn (Ents hp) hp
  | s {e r hp} : Dn r hp → Dn (e :: r) hp
theorem Dn.get {κ : Type} [Cl κ] {L : List Ent} {hp : Pool κ} (h : Dn L hp) : ∃ n, L.drop n = Ents hp := by
  induction h with
  | z => exact ⟨0, rfl⟩
  | s _ ih => exact ⟨ih.choose + 1, ih.choose_spec⟩
/-- blocks of a pool that hold one value -/
class Pv (β : Type) [Rp β] {κ : outParam Type} [Cl κ] (rd : outParam (Pool κ → Nat → Option β)) : Prop where
  ok : ∀ {hp p x}, rd hp p = some x → ∃ k, pat hp p = some k ∧ Cl.ents p k = [⟨some p, .var x⟩]
class Kx (P : Program) : Prop where
  m : P.follows .mixedOrders = true
section
variable {c : Cx} {E : List (Nat × VP)} {L L' : List Ent} {ops : Array Oper} {Q : Exit → Act → World → Prop} {rest : List Oper} {o : Oper} {d : Option Tmp} {dd : Nat}
variable {ty : TypeId} {pos : String} {af : Array Edge} {g : Option (Nat × Bool)} {x y : Operand} {t t2 : TypeId}

theorem fact {p : Prop} (h : p := by first | with_reducible assumption | (apply condM_some (hb := hb); with_reducible assumption)) : p := h
theorem look_u64k (k : Nat) (h : Nat.blt k 18446744073709551616 = true := by rfl) : Look c E L (.const (.int .u64 (Int.ofNat k))) (.of (BitVec.ofNat 64 k)) := look_u64 _ (by simp [Nat.blt] at h ⊢; omega)
theorem lk {σ : VP} (h : Look c E L x σ := by first | exact look_tc rfl hb | exact look_tc rfl hb.1 | exact look_t rfl | exact look_int _ | exact look_bool _ | exact look_str _ | exact look_u64k _ | exact look_tc (hE _ _ rfl) hb | exact look_tc (hE _ _ rfl) hb.1 | exact look_t (hE _ _ rfl)) : Look c E L x σ := h

/-! ### One operation that yields a value -/

theorem w1 {σ τ : VP} (h : Look c E L x σ → HR c E L o τ) (hx : Look c E L x σ := by exact lk) : HR c E L o τ := h hx
theorem w2 {σ σ2 τ : VP} (h : Look c E L x σ → Look c E L y σ2 → HR c E L o τ) (hx : Look c E L x σ := by exact lk) (hy : Look c E L y σ2 := by exact lk) : HR c E L o τ := h hx hy
theorem w_ext {i : Nat} {τs : List VP} {τ : VP} (hx : Look c E L x (.tup τs) := by exact lk) (hi : τs[i]? = some τ := by rfl) : HR c E L ⟨d, .extract x i, ty, pos, af, g⟩ τ := r_ext hx hi
theorem w_lp {p j : Nat} {β γ : Type} [Rp β] [Rp γ] {b : β} {l : Lens β γ} [k : Ty c.P t γ] (hx : Look c E L x (.lp p l) := by exact lk) (hL : L[j]? = some ⟨some p, .var b⟩ := by first | exact At.g | exact hL _ _ At.g rfl) : HR c E L ⟨d, .load t x, ty, pos, af, g⟩ (.of (l.get b)) :=
  r_load l k hx hL rfl rfl
theorem w_l0 {p j : Nat} {β : Type} [Rp β] {b : β} [k : Ty c.P t β] (hx : Look c E L x (.pb p) := by exact lk) (hL : L[j]? = some ⟨some p, .var b⟩ := by first | exact At.g | exact hL _ _ At.g rfl) : HR c E L ⟨d, .load t x, ty, pos, af, g⟩ (.of b) :=
  r_load (Lens.id β) k hx hL rfl rfl
theorem pm {κ β : Type} [Rp β] [Cl κ] {rd : Pool κ → Nat → Option β} {hp : Pool κ} {p : Nat} {b : β} [k : Pv β rd] (hd : Dn L hp := by repeat (first | exact Dn.z | apply Dn.s)) (hc : rd hp p = some b := by exact fact) : (⟨some p, .var b⟩ : Ent) ∈ L := by
  obtain ⟨n, h1⟩ := hd.get
  obtain ⟨q, h2, h3⟩ := k.ok hc
  exact pmem h1 h2 h3
/-- cells of a struct and the row behind one of its fields -/
class Px (β : Type) [Rp β] {κ ξ : outParam Type} [Cl κ] (rd : outParam (Pool κ → Nat → Option ξ)) (q : outParam (ξ → β)) (os : outParam (ξ → List (Nat × Value))) : Prop where
  ok : ∀ {hp p x}, rd hp p = some x → ∃ k es, pat hp p = some k ∧ Cl.ents p k = ⟨some p, .varX (q x) (os x)⟩ :: es
theorem px {κ ξ β : Type} [Rp β] [Cl κ] {rd : Pool κ → Nat → Option ξ} {q : ξ → β} {os : ξ → List (Nat × Value)} {hp : Pool κ} {p : Nat} {x : ξ} [k : Px β rd q os] (hd : Dn L hp := by repeat (first | exact Dn.z | apply Dn.s)) (hc : rd hp p = some x := by exact fact) : (⟨some p, .varX (q x) (os x)⟩ : Ent) ∈ L := by
  obtain ⟨n, h1⟩ := hd.get
  obtain ⟨_, _, h2, h3⟩ := k.ok hc
  exact pmem1 h1 h2 h3
theorem pP {e : Ent} {np : Nat} (hP : L'.drop np = L.drop np) (h : e ∈ L.drop np) : e ∈ L' := List.mem_of_mem_drop (hP ▸ h)
theorem w_lx {p : Nat} {β γ : Type} [Rp β] [Rp γ] {b : β} {os : List (Nat × Value)} {l : Lens β γ} [k : Ty c.P t γ] (hx : Look c E L x (.lp p l) := by exact lk) (hm : (⟨some p, .varX b os⟩ : Ent) ∈ L := by first | exact pP hP px | exact dmem (fun i e q => hL i e q rfl) px | exact px) (ha : apartB os l.off (Rp.size γ) = true := by rfl) : HR c E L ⟨d, .load t x, ty, pos, af, g⟩ (.of (l.get b)) :=
  r_loadMX l k hx hm rfl rfl ha
theorem w_lxo {p j : Nat} {β γ : Type} [Rp β] [Rp γ] {b : β} {os : List (Nat × Value)} {l : Lens β γ} [k : Ty c.P t γ] (hx : Look c E L x (.lp p l) := by exact lk) (hL : L[j]? = some ⟨some p, .varX b os⟩ := by first | exact At.g | exact hL _ _ At.g rfl) (ha : apartB os l.off (Rp.size γ) = true := by rfl) : HR c E L ⟨d, .load t x, ty, pos, af, g⟩ (.of (l.get b)) :=
  r_loadX l k hx hL rfl rfl ha
theorem w_lm {p : Nat} {β γ : Type} [Rp β] [Rp γ] {b : β} {l : Lens β γ} [k : Ty c.P t γ] (hx : Look c E L x (.lp p l) := by exact lk) (hm : (⟨some p, .var b⟩ : Ent) ∈ L := by first | exact pP hP pm | exact dmem (fun i e q => hL i e q rfl) pm | exact pm) : HR c E L ⟨d, .load t x, ty, pos, af, g⟩ (.of (l.get b)) :=
  r_loadM l k hx hm rfl rfl
theorem w_nr {r : Ref} {a : Nat} (hx : Look c E L x (.of r) := by exact lk) (hr : r = some a := by first | with_reducible rfl | exact fact) : HR c E L ⟨d, .nilCheck x, ty, pos, af, g⟩ (.pb a) := r_nck (look_ref hx hr)
theorem w_rn {r : Ref} {e : TypeId} [k : Ku c.P t (.pointer e)] (hx : Look c E L x (.of r) := by exact lk) : HR c E L ⟨d, .binOp .eql t x (.const (.pointer none)) t2, ty, pos, af, g⟩ (.of r.isNone) := r_refnil k.hu hx
theorem w_rs {r : Ref} {e : TypeId} [k : Ku c.P t (.pointer e)] (hx : Look c E L x (.of r) := by exact lk) : HR c E L ⟨d, .binOp .neq t x (.const (.pointer none)) t2, ty, pos, af, g⟩ (.of r.isSome) := r_refnnil k.hu hx
theorem w_ptr {γ : Type} [Rp γ] {r : γ} [k : Ty c.P t γ] (hx : Look c E L x (.ptr r) := by exact lk) : HR c E L ⟨d, .load t x, ty, pos, af, g⟩ (.of r) := r_loadp k hx
theorem w_fp {s f : Nat} {β γ : Type} [ib : Rp β] [ig : Rp γ] {b : β} {l : Lens β γ} [k : Kf c.P s f l] (hx : Look c E L x (.ptr b) := by exact lk) : HR c E L ⟨d, .fieldAddr s x f, ty, pos, af, g⟩ (.ptr (l.get b)) := r_fap l k.fd hx rfl rfl
theorem w_fl {s f p : Nat} {α β γ : Type} [Rp α] [ib : Rp β] [ig : Rp γ] {m : Lens α β} {l : Lens β γ} [k : Kf c.P s f l] (hx : Look c E L x (.lp p m) := by exact lk) : HR c E L ⟨d, .fieldAddr s x f, ty, pos, af, g⟩ (.lp p (m.comp l)) := r_fa k.fd hx
theorem w_f0 {s f p : Nat} {β γ : Type} [ib : Rp β] [ig : Rp γ] {l : Lens β γ} [k : Kf c.P s f l] (hx : Look c E L x (.pb p) := by exact lk) : HR c E L ⟨d, .fieldAddr s x f, ty, pos, af, g⟩ (.lp p l) := by
  have := r_fa (d := d) (ty := ty) (pos := pos) (af := af) (g := g) k.fd hx
  rwa [Nat.zero_add] at this
theorem w_ix {α : Type} [ia : Rp α] [Inhabited α] {xs : List α} {e : TypeId} {i : Int} {j : Nat} [k : Ks c.P t e α] (hx : Look c E L x (.of xs) := by exact lk) (hy : Look c E L y (.of i) := by exact lk) (hk : idx xs.length i = some j := by exact fact) :
    HR c E L ⟨d, .indexAddr t x y, ty, pos, af, g⟩ (.ptr (lget xs j)) := r_ias k.hu k.te hx hy (idx_some hk)
theorem w_len {α : Type} [ia : Rp α] {xs : List α} {e : TypeId} [k : Ks c.P t e α] (hx : Look c E L x (.of xs) := by exact lk) : HR c E L ⟨d, .call ⟨.builtin .len, #[x], #[t]⟩, ty, pos, af, g⟩ (.of (xs.length : Int)) := r_len k.hu hx
theorem w_lens {s0 : ByteArray} [k : Ku c.P t .string] (hx : Look c E L x (.of s0) := by exact lk) : HR c E L ⟨d, .call ⟨.builtin .len, #[x], #[t]⟩, ty, pos, af, g⟩ (.of (s0.size : Int)) := r_lens k.hu hx
theorem w_or {b e : Bool} {p : Prop} (hx : Look c E L x (.of b) := by exact lk) (hy : Look c E L y (.cond p (.of e)) := by first | exact look_t rfl | exact look_t (hE _ _ rfl)) (hp : b = false → p := by exact fun h => h) : HR c E L ⟨d, .pick x (.const (.bool true)) y, ty, pos, af, g⟩ (.of (b || e)) := r_or hx hy hp
theorem w_and {b e : Bool} {p : Prop} (hx : Look c E L x (.of b) := by exact lk) (hy : Look c E L y (.cond p (.of e)) := by first | exact look_t rfl | exact look_t (hE _ _ rfl)) (hp : b = true → p := by exact fun h => h) : HR c E L ⟨d, .pick x y (.const (.bool false)), ty, pos, af, g⟩ (.of (b && e)) := r_and hx hy hp
theorem w_eqA {α : Type} [Rp α] [DecidableEq α] {n : Nat} {a b : α} [k : Kq c.P t α n] (hx : Look c E L x (.of a) := by exact lk) (hy : Look c E L y (.of b) := by exact lk) (ha : Rp.agg α = true := by rfl) :
    HR c E L ⟨d, .binOp .eql t x y t2, ty, pos, af, g⟩ (.of (decide (a = b))) := r_eqA k.ev k.hn k.gd ha hx hy
theorem w_neA {α : Type} [Rp α] [DecidableEq α] {n : Nat} {a b : α} [k : Kq c.P t α n] (hx : Look c E L x (.of a) := by exact lk) (hy : Look c E L y (.of b) := by exact lk) (ha : Rp.agg α = true := by rfl) :
    HR c E L ⟨d, .binOp .neq t x y t2, ty, pos, af, g⟩ (.of (!decide (a = b))) := r_neA k.ev k.hn k.gd ha hx hy
inductive FillsW (c : Cx) (E : List (Nat × VP)) (L : List Ent) (t : TypeId) (place : Nat → Option (Nat × Nat)) {β : Type} [ib : Rp β] : β → List (Nat × Operand) → β → Prop
  | nil {b} : FillsW c E L t place b [] b
  | cons {b b' : β} {γ : Type} [ig : Rp γ] {v : γ} {i : Nat} {x : Operand} {r : List (Nat × Operand)} {l : Lens β γ} [k : Kf c.P t i l] : place i = some (l.off, Rp.size γ) → Look c E L x (.of v) → FillsW c E L t place (l.set b v) r b' → FillsW c E L t place b ((i, x) :: r) b'
theorem FillsW.f {place : Nat → Option (Nat × Nat)} {β : Type} [ib : Rp β] {b b' : β} {r : List (Nat × Operand)} (h : FillsW c E L t place b r b') : Fills c E L place b r b' := by
  induction h with
  | nil => exact .nil
  | cons h1 h2 _ ih => exact .cons _ h1 h2 rfl ih
theorem w_bd {β : Type} [ib : Rp β] {z b : β} {ps : List (Nat × Operand)} {pl : Array (Nat × Nat)} [k1 : Bu c.P t pl] [k2 : Zr c.P t z] (hf : FillsW c E L t (pl[·]?) z ps b := by repeat (first | exact FillsW.nil | (apply FillsW.cons; rfl; first | exact lk | exact look_nil))) (ha : Rp.agg β = true := by rfl) :
    HR c E L ⟨d, .build t ps.toArray, ty, pos, af, g⟩ (.of b) := r_build ha k1 k2 hf.f
inductive SetL {α : Type} : List α → Nat → α → List α → Prop
  | z {x v r} : SetL (x :: r) 0 v (v :: r)
  | s {x v r s i} : SetL r i v s → SetL (x :: r) (i + 1) v (x :: s)
theorem SetL.ok {α : Type} {b c : List α} {i : Nat} {v : α} (h : SetL b i v c) : i < b.length ∧ b.set i v = c := by
  induction h with
  | z => simp
  | s _ ih => exact ⟨by simp only [List.length_cons]; omega, by simp [ih.2]⟩
inductive FillsN (c : Cx) (E : List (Nat × VP)) (L : List Ent) {α : Type} [Rp α] : List α → List (Nat × Operand) → List α → Prop
  | nil {b} : FillsN c E L b [] b
  | cons {b b1 b' : List α} {v : α} {i : Nat} {x : Operand} {r : List (Nat × Operand)} : Look c E L x (.of v) → SetL b i v b1 → FillsN c E L b1 r b' → FillsN c E L b ((i, x) :: r) b'
theorem FillsN.f {α : Type} [Rp α] {b b' : List α} {r : List (Nat × Operand)} (h : FillsN c E L b r b') : FillsL c E L b r b' := by
  induction h with
  | nil => exact .nil
  | cons h1 h2 _ ih => obtain ⟨h3, rfl⟩ := h2.ok; exact .cons h3 h1 ih
inductive RepN {α : Type} (z : α) : Nat → List α → Prop
  | z : RepN z 0 []
  | s {n l} : RepN z n l → RepN z (n + 1) (z :: l)
theorem RepN.ok {α : Type} {z : α} {n : Nat} {l : List α} (h : RepN z n l) : List.replicate n z = l := by
  induction h with
  | z => rfl
  | s _ ih => rw [List.replicate_succ, ih]
theorem w_bl {α : Type} [ia : Rp α] {e n : Nat} {z : α} {ps : List (Nat × Operand)} {l r : List α} [k1 : Ks c.P t e α] [k2 : Zr c.P e z] (hz : RepN z n l := by repeat (first | exact RepN.z | apply RepN.s))
    (hf : FillsN c E L l ps r := by repeat (first | exact FillsN.nil | (apply FillsN.cons; (first | exact lk | exact look_nil); (repeat (first | exact SetL.z | apply SetL.s))))) (hs : Nat.beq (Rp.size α) 0 = false := by rfl) (hn' : Nat.ble (n * Rp.size α) 16777216 = true := by rfl) :
    HR c E L ⟨d, .buildSlice t n ps.toArray, ty, pos, af, g⟩ (.of r) := r_bsl k1.hu k1.te k2 hs hn' (hz.ok ▸ hf.f)
theorem w_c0 {f : FuncId} {ats : Array TypeId} {ρ : Type} {L_ : Option ρ} {π : ρ → VP} [k : K0 c.P f ρ L_ π] {r : ρ} (h : L_ = some r := by exact fact) : HR c E L ⟨d, .call ⟨.value (.func f), [].toArray, ats⟩, ty, pos, af, g⟩ (π r) := r_call k.en (k.m _ h) trivial
theorem w_c1 {f : FuncId} {ats : Array TypeId} {α ρ : Type} {L_ : α → Option ρ} {τ : α → VP} {π : ρ → VP} [k : K1 c.P f α ρ L_ τ π] {a : α} {r : ρ} (h1 : Look c E L x (τ a) := by exact lk) (h : L_ a = some r := by exact fact) :
    HR c E L ⟨d, .call ⟨.value (.func f), [x].toArray, ats⟩, ty, pos, af, g⟩ (π r) := r_call k.en (k.m _ _ h) ⟨h1, trivial⟩
theorem w_c2 {f : FuncId} {ats : Array TypeId} {α β ρ : Type} {L_ : α → β → Option ρ} {τ : α → VP} {σ : β → VP} {π : ρ → VP} [k : K2 c.P f α β ρ L_ τ σ π] {a : α} {b : β} {r : ρ} (h1 : Look c E L x (τ a) := by exact lk) (h2 : Look c E L y (σ b) := by exact lk) (h : L_ a b = some r := by exact fact) :
    HR c E L ⟨d, .call ⟨.value (.func f), [x, y].toArray, ats⟩, ty, pos, af, g⟩ (π r) := r_call k.en (k.m _ _ _ h) ⟨h1, h2, trivial⟩
theorem w_c3 {f : FuncId} {ats : Array TypeId} {α β γ ρ : Type} {L_ : α → β → γ → Option ρ} {τ : α → VP} {σ : β → VP} {υ : γ → VP} {π : ρ → VP} {x3 : Operand} [k : K3 c.P f α β γ ρ L_ τ σ υ π] {a : α} {b : β} {e : γ} {r : ρ} (h1 : Look c E L x (τ a) := by exact lk) (h2 : Look c E L y (σ b) := by exact lk) (h3 : Look c E L x3 (υ e) := by exact lk) (h : L_ a b e = some r := by exact fact) :
    HR c E L ⟨d, .call ⟨.value (.func f), [x, y, x3].toArray, ats⟩, ty, pos, af, g⟩ (π r) := r_call k.en (k.m _ _ _ _ h) ⟨h1, h2, h3, trivial⟩
theorem w_cv {src dst : TypeId} {e r : TypeDesc} {σ τ : VP} [k1 : Ku c.P src e] [k2 : Ku c.P dst r] (h : c.P.underlying src = some e → c.P.underlying dst = some r → Look c E L x σ → HR c E L ⟨d, .convert src dst x, ty, pos, af, g⟩ τ) (hx : Look c E L x σ := by exact lk) :
    HR c E L ⟨d, .convert src dst x, ty, pos, af, g⟩ τ := h k1.hu k2.hu hx
theorem w_2u {r : TypeDesc} {σ σ2 τ : VP} [k1 : Ku c.P t r] (h : c.P.underlying t = some r → Look c E L x σ → Look c E L y σ2 → HR c E L o τ) (hx : Look c E L x σ := by exact lk) (hy : Look c E L y σ2 := by exact lk) : HR c E L o τ := h k1.hu hx hy
theorem w_quo {a b r : Int} (hx : Look c E L x (.of a) := by exact lk) (hy : Look c E L y (.of b) := by exact lk) (hk : divM a b = some r := by exact fact) : HR c E L ⟨d, .binOp .quo t x y t2, ty, pos, af, g⟩ (.of r) := r_quo hx hy (divM_some hk)
theorem w_rem {a b r : Int} (hx : Look c E L x (.of a) := by exact lk) (hy : Look c E L y (.of b) := by exact lk) (hk : modM a b = some r := by exact fact) : HR c E L ⟨d, .binOp .rem t x y t2, ty, pos, af, g⟩ (.of r) := r_rem hx hy (modM_some hk)
theorem w_shl {a : BitVec 64} {b : Int} {n : Nat} (hx : Look c E L x (.of a) := by exact lk) (hy : Look c E L y (.of b) := by exact lk) (hk : cntM b = some n := by exact fact) : HR c E L ⟨d, .binOp .shl t x y t2, ty, pos, af, g⟩ (.of (a <<< n)) := r_shl64i hx hy (cntM_some hk)
theorem w_shr {a : BitVec 64} {b : Int} {n : Nat} (hx : Look c E L x (.of a) := by exact lk) (hy : Look c E L y (.of b) := by exact lk) (hk : cntM b = some n := by exact fact) : HR c E L ⟨d, .binOp .shr t x y t2, ty, pos, af, g⟩ (.of (a >>> n)) := r_shr64i hx hy (cntM_some hk)
theorem w_nl {p : Nat} {β γ : Type} [Rp β] [Rp γ] {l : Lens β γ} (hx : Look c E L x (.lp p l) := by exact lk) : HR c E L ⟨d, .nilCheck x, ty, pos, af, g⟩ (.lp p l) := r_nck hx
theorem w_ial {p n s k : Nat} {i : Int} {β α : Type} [Rp β] [Rp α] [Inhabited α] {l : Lens β (Vector α n)} [ar : Ar c.P t n s] (hx : Look c E L x (.lp p l) := by exact lk) (hs : Rp.size α = s := by rfl) (hy : Look c E L y (.of i) := by exact lk) (hk : idx n i = some k := by exact fact) :
    HR c E L ⟨d, .indexAddr t x y, ty, pos, af, g⟩ (.lp p (l.comp (Lens.idx (α := α) n k (idx_some hk).1))) := by subst hs; exact r_ia ar hx hy (idx_some hk)
/-- what type a block is of -/
def TyW (L : List Ent) {β : Type} [Rp β] (p : Nat) (b : β) : Prop := True
theorem TyW.m {β : Type} [Rp β] {p j : Nat} {b : β} (h : L[j]? = some ⟨some p, .var b⟩) : TyW L p b := trivial
theorem w_ia0 {p n s k : Nat} {i : Int} {α : Type} [Rp α] [Inhabited α] {b : Vector α n} [ar : Ar c.P t n s] (hx : Look c E L x (.pb p) := by exact lk) (hL : TyW L p b := by first | exact TyW.m At.g | exact TyW.m (hL _ _ At.g rfl) | exact hT _ _ At.g) (hs : Rp.size α = s := by rfl) (hy : Look c E L y (.of i) := by exact lk) (hk : idx n i = some k := by exact fact) :
    HR c E L ⟨d, .indexAddr t x y, ty, pos, af, g⟩ (.lp p (Lens.idx (α := α) n k (idx_some hk).1)) := by
  subst hs
  have := r_ia (d := d) (ty := ty) (pos := pos) (af := af) (g := g) ar hx hy (idx_some hk)
  rwa [Nat.zero_add] at this
theorem w_iap {n s k : Nat} {i : Int} {α : Type} [Rp α] [Inhabited α] {v : Vector α n} [ar : Ar c.P t n s] (hx : Look c E L x (.ptr v) := by exact lk) (hs : Rp.size α = s := by rfl) (hy : Look c E L y (.of i) := by exact lk) (hk : idx n i = some k := by exact fact) :
    HR c E L ⟨d, .indexAddr t x y, ty, pos, af, g⟩ (.ptr (vget v k)) := r_iap ar hs hx hy (idx_some hk)
/-- operators by their numbers' kinds -/
class Bop (op : BinOp) (α : Type) {β : outParam Type} [Rp α] [Rp β] (f : outParam (α → α → β)) : Prop where
  h : ∀ {c : Cx} {E L d ty pos af g x y t t2} {a b : α}, Look c E L x (.of a) → Look c E L y (.of b) → HR c E L ⟨d, .binOp op t x y t2, ty, pos, af, g⟩ (.of (f a b))
instance : Bop .add Int (fun a b => w64 (a + b)) := ⟨r_add⟩
instance : Bop .sub Int (fun a b => w64 (a - b)) := ⟨r_sub⟩
instance : Bop .mul Int (fun a b => w64 (a * b)) := ⟨r_mul⟩
instance : Bop .lss Int (fun a b => decide (a < b)) := ⟨r_lss⟩
instance : Bop .gtr Int (fun a b => decide (a > b)) := ⟨r_gtr⟩
instance : Bop .geq Int (fun a b => decide (a ≥ b)) := ⟨r_geq⟩
instance : Bop .eql Int (fun a b => a == b) := ⟨r_eql⟩
instance : Bop .neq Int (fun a b => a != b) := ⟨r_neq⟩
instance : Bop .add (BitVec 64) (fun a b => a + b) := ⟨r_add64⟩
instance : Bop .lss (BitVec 64) (fun a b => decide (a < b)) := ⟨r_lss64⟩
theorem w_bin {op : BinOp} {α β : Type} [Rp α] [Rp β] {f : α → α → β} {a b : α} [k : Bop op α f] (hx : Look c E L x (.of a) := by exact lk) (hy : Look c E L y (.of b) := by exact lk) : HR c E L ⟨d, .binOp op t x y t2, ty, pos, af, g⟩ (.of (f a b)) := k.h hx hy
theorem g_bin {op : BinOp} {τ : VP} (h : HR c E L ⟨d, .binOp op t x y t2, ty, pos, af, g⟩ τ) : HR c E L ⟨d, .binOp op t x y t2, ty, pos, af, g⟩ τ := h
theorem g_ld  {τ : VP} (h : HR c E L ⟨d, .load t x, ty, pos, af, g⟩ τ) : HR c E L ⟨d, .load t x, ty, pos, af, g⟩ τ := h
theorem g_fa {s f : Nat} {τ : VP} (h : HR c E L ⟨d, .fieldAddr s x f, ty, pos, af, g⟩ τ) : HR c E L ⟨d, .fieldAddr s x f, ty, pos, af, g⟩ τ := h
theorem g_ca {k : Call} {τ : VP} (h : HR c E L ⟨d, .call k, ty, pos, af, g⟩ τ) : HR c E L ⟨d, .call k, ty, pos, af, g⟩ τ := h
theorem g_un {op : UnOp} {τ : VP} (h : HR c E L ⟨d, .unOp op t x, ty, pos, af, g⟩ τ) : HR c E L ⟨d, .unOp op t x, ty, pos, af, g⟩ τ := h
theorem g_ix  {τ : VP} (h : HR c E L ⟨d, .indexAddr t x y, ty, pos, af, g⟩ τ) : HR c E L ⟨d, .indexAddr t x y, ty, pos, af, g⟩ τ := h
theorem g_cv {src dst : TypeId} {τ : VP} (h : HR c E L ⟨d, .convert src dst x, ty, pos, af, g⟩ τ) : HR c E L ⟨d, .convert src dst x, ty, pos, af, g⟩ τ := h
theorem g_nc  {τ : VP} (h : HR c E L ⟨d, .nilCheck x, ty, pos, af, g⟩ τ) : HR c E L ⟨d, .nilCheck x, ty, pos, af, g⟩ τ := h
theorem g_mv  {τ : VP} (h : HR c E L ⟨d, .move x, ty, pos, af, g⟩ τ) : HR c E L ⟨d, .move x, ty, pos, af, g⟩ τ := h
theorem g_as  {τ : VP} (h : HR c E L ⟨d, .assign x, ty, pos, af, g⟩ τ) : HR c E L ⟨d, .assign x, ty, pos, af, g⟩ τ := h
theorem g_ex {i : Nat} {τ : VP} (h : HR c E L ⟨d, .extract x i, ty, pos, af, g⟩ τ) : HR c E L ⟨d, .extract x i, ty, pos, af, g⟩ τ := h
theorem g_pk {z w : Operand} {τ : VP} (h : HR c E L ⟨d, .pick z x w, ty, pos, af, g⟩ τ) : HR c E L ⟨d, .pick z x w, ty, pos, af, g⟩ τ := h
theorem g_bd {ps : Array (Nat × Operand)} {τ : VP} (h : HR c E L ⟨d, .build t ps, ty, pos, af, g⟩ τ) : HR c E L ⟨d, .build t ps, ty, pos, af, g⟩ τ := h
theorem g_bl {n : Nat} {ps : Array (Nat × Operand)} {τ : VP} (h : HR c E L ⟨d, .buildSlice t n ps, ty, pos, af, g⟩ τ) : HR c E L ⟨d, .buildSlice t n ps, ty, pos, af, g⟩ τ := h
/-- whatever operation it is -/
theorem hr {τ : VP} (h : HR c E L o τ := by first
  | (apply g_mv; exact r_move lk)
  | (apply g_as; exact r_asg lk)
  | (apply g_ld; first | exact w_lp | exact w_l0 | exact w_ptr)
  | (apply g_fa; first | exact w_fp | exact w_fl | exact w_f0)
  | (apply g_bin; first | exact w_bin | exact w_rn | exact w_rs | exact w_eqA | exact w_neA | exact w_2u r_beq | exact w_2u r_bne)
  | (apply g_ca; first | exact w_len | exact w_lens | exact w2 r_min | exact w2 r_max | exact w2 r_minu64)
  | (apply g_ex; exact w_ext)
  | (apply g_pk; first | exact w_or | exact w_and)
  | (apply g_un; first | exact w1 r_not | exact w1 r_neg)
  | (apply g_bd; exact w_bd)
  | (apply g_bl; exact w_bl)
  | (apply g_cv; first | exact w_cv r_ci64 | exact w_cv r_c64i | exact w_cv r_c8i | exact w_cv r_cii | exact w_cv r_ci8 | exact w_cv r_c64_64)
  | (apply g_nc; first | exact w_nl | exact w1 r_nck | exact w1 r_nckp)) : HR c E L o τ := h

/-- an operation that may fail: what is known of it stands among the hypotheses -/
theorem hrp {τ : VP} (h : HR c E L o τ := by first
  | (apply g_ix; first | exact w_ix | exact w_ial | exact w_ia0 | exact w_iap)
  | (apply g_ca; first | exact w_c1 | exact w_c2 | exact w_c3 | exact w_c0)
  | (apply g_nc; exact w_nr) | (apply g_ld; first | exact w_lm | exact w_lx)
  | (apply g_bin; first | exact w_rem | exact w_quo | exact w_shl | exact w_shr)) : HR c E L o τ := h
class Pop (op : BinOp) : Prop where
  h : True
instance : Pop .quo := ⟨trivial⟩
instance : Pop .rem := ⟨trivial⟩
instance : Pop .shl := ⟨trivial⟩
instance : Pop .shr := ⟨trivial⟩
theorem q_nc (h : Sq c ops Q (⟨d, .nilCheck x, ty, pos, af, g⟩ :: rest) E L) : Sq c ops Q (⟨d, .nilCheck x, ty, pos, af, g⟩ :: rest) E L := h
theorem q_ld (h : Sq c ops Q (⟨d, .load t x, ty, pos, af, g⟩ :: rest) E L) : Sq c ops Q (⟨d, .load t x, ty, pos, af, g⟩ :: rest) E L := h
theorem q_ix (h : Sq c ops Q (⟨d, .indexAddr t x y, ty, pos, af, g⟩ :: rest) E L) : Sq c ops Q (⟨d, .indexAddr t x y, ty, pos, af, g⟩ :: rest) E L := h
theorem q_ca {f : FuncId} {xs : Array Operand} {ats : Array TypeId} (h : Sq c ops Q (⟨d, .call ⟨.value (.func f), xs, ats⟩, ty, pos, af, g⟩ :: rest) E L) : Sq c ops Q (⟨d, .call ⟨.value (.func f), xs, ats⟩, ty, pos, af, g⟩ :: rest) E L := h
theorem q_bin {op : BinOp} [k : Pop op] (h : Sq c ops Q (⟨d, .binOp op t x y t2, ty, pos, af, g⟩ :: rest) E L) : Sq c ops Q (⟨d, .binOp op t x y t2, ty, pos, af, g⟩ :: rest) E L := h

/-! ### Steps -/

inductive Nm : VP → VP → Prop
  | i {τ} : Nm τ τ
  | n {α : Type} [Rp α] {a b : α} : some a = some b → Nm (.of a) (.of b)
theorem Nm.hr {τ σ : VP} (h : Nm τ σ) (k : HR c E L o τ) : HR c E L o σ := by
  cases h with
  | i => exact k
  | n e => cases e; exact k
theorem s_gg {τ : VP} {j g : Nat} {p : Prop} {b want : Bool} (k : Sq c ops Q rest ((dd, .cond (p ∧ b = want) τ) :: E) L) (hg : o.guard = some (j, want) := by rfl) (hj : (ops[j]?).bind (·.dst) = some g := by rfl) (hl : look E g = some (.cond p (.of b)) := by rfl)
    (h : p ∧ b = want → HR c E L o τ := by intro hb; exact hr) (hd : o.dst = some dd := by rfl) (hn : Nat.blt dd c.n = true := by rfl) : Sq c ops Q (o :: rest) E L := .gg h hg hj hl hd hn k
theorem e_o0 {fn : Func} {Lo : Unit → List Ent} (hs : (Lo ()).Sublist L := by repeat (first | exact List.Sublist.refl _ | exact List.nil_sublist _ | apply List.Sublist.cons_cons | apply List.Sublist.cons)) (hr : fn.results = #[] := by rfl) (hds : c.ds = [] := by rfl) :
    To c (bodyPost c.P fn (PostO c.X c.A0 c.W0 (fun _ : Unit => .tup []) Lo)) .ret E L := .endO0 () hs hr rfl hds
theorem e_o1 {fn : Func} {r : ResultVar} {τ : VP} {ρ : Unit → VP} {Lo : Unit → List Ent} (hs : (Lo ()).Sublist L := by repeat (first | exact List.Sublist.refl _ | exact List.nil_sublist _ | apply List.Sublist.cons_cons | apply List.Sublist.cons)) (hr : fn.results = #[r] := by rfl) (h : RVO c E L r τ := by exact rvo) (hρ : ρ () = τ := by rfl) (hds : c.ds = [] := by rfl) :
    To c (bodyPost c.P fn (PostO c.X c.A0 c.W0 ρ Lo)) .ret E L := .endO1 () hs hr hρ h hds
theorem e_o2 {fn : Func} {r r2 : ResultVar} {τ τ2 : VP} {ρ : Unit → VP} {Lo : Unit → List Ent} (hs : (Lo ()).Sublist L := by repeat (first | exact List.Sublist.refl _ | exact List.nil_sublist _ | apply List.Sublist.cons_cons | apply List.Sublist.cons)) (hr : fn.results = #[r, r2] := by rfl) (h : RVO c E L r τ := by exact rvo) (h2 : RVO c E L r2 τ2 := by exact rvo) (hρ : ρ () = .tup [τ, τ2] := by rfl) (hds : c.ds = [] := by rfl) :
    To c (bodyPost c.P fn (PostO c.X c.A0 c.W0 ρ Lo)) .ret E L := .endO2 () hs hr hρ h h2 hds
theorem t_c {R : Type} {b : Bool} {A B : Option R} {r : R} (h : cond b A B = some r) : True := trivial
theorem t_w {R : Type} {b : Bool} {A B : Wm R} {r : R → Prop} (h : cond b A B r) : True := trivial
theorem g_al (h : Sq c ops Q (⟨some dd, .alloc t, ty, pos, af, none⟩ :: rest) E L) : Sq c ops Q (⟨some dd, .alloc t, ty, pos, af, none⟩ :: rest) E L := h
theorem g_bx (h : Sq c ops Q (⟨some dd, .box t x, ty, pos, af, none⟩ :: rest) E L) : Sq c ops Q (⟨some dd, .box t x, ty, pos, af, none⟩ :: rest) E L := h
theorem g_st (h : Sq c ops Q (⟨none, .store t x y, ty, pos, af, none⟩ :: rest) E L) : Sq c ops Q (⟨none, .store t x y, ty, pos, af, none⟩ :: rest) E L := h
theorem g_cd {z : Operand} {u v : Code} (h : Wp c Q (.cond z u v) E L) : Wp c Q (.cond z u v) E L := h
theorem s_v {τ : VP} (k : Sq c ops Q rest ((dd, τ) :: E) L) (hg : o.guard = none := by rfl) (hd : o.dst = some dd := by rfl) (h : HR c E L o τ := by exact hr) (hn : Nat.blt dd c.n = true := by rfl) : Sq c ops Q (o :: rest) E L := .v h hg hd hn k
theorem s_g {τ : VP} {j g : Nat} {b want : Bool} (k : Sq c ops Q rest ((dd, .cond (b = want) τ) :: E) L) (hg : o.guard = some (j, want) := by rfl) (hj : (ops[j]?).bind (·.dst) = some g := by rfl) (hl : look E g = some (.of b) := by rfl)
    (h : b = want → HR c E L o τ := by intro hb; exact hr) (hd : o.dst = some dd := by rfl) (hn : Nat.blt dd c.n = true := by rfl) : Sq c ops Q (o :: rest) E L := .g h hg hj hl hd hn k
theorem s_al {α : Type} [ia : Rp α] {z : α} [zr : Zr c.P t z] (k : ∀ p, Sq c ops Q rest ((dd, .pb p) :: E) (⟨some p, .var z⟩ :: L)) (hn : Nat.blt dd c.n = true := by rfl) : Sq c ops Q (⟨some dd, .alloc t, ty, pos, af, none⟩ :: rest) E L := .alloc zr hn k
theorem s_bx {α : Type} [Rp α] {z : α} (k : ∀ p, Sq c ops Q rest ((dd, .pb p) :: E) (⟨some p, .var z⟩ :: L)) (hx : Look c E L x (.of z) := by exact lk) (hn : Nat.blt dd c.n = true := by rfl) : Sq c ops Q (⟨some dd, .box t x, ty, pos, af, none⟩ :: rest) E L := .box hx hn k
theorem s_st {p : Nat} {β γ : Type} [Rp β] [Rp γ] {b : β} {v : γ} {l : Lens β γ} [tt : Ty c.P t γ] (k : Sq c ops Q rest E L') (hx : Look c E L x (.lp p l) := by exact lk) (hy : Look c E L y (.of v) := by first | exact lk | exact look_nil)
    (hL : Up L ⟨some p, .var b⟩ ⟨some p, .var (l.set b v)⟩ L' := by repeat (first | exact Up.z | apply Up.s)) : Sq c ops Q (⟨none, .store t x y, ty, pos, af, none⟩ :: rest) E L := by
  obtain ⟨j, h1, rfl⟩ := hL.get
  exact .store l tt hx hy h1 rfl rfl k
theorem s_s0 {p : Nat} {β : Type} [Rp β] {b v : β} [tt : Ty c.P t β] (k : Sq c ops Q rest E L') (hx : Look c E L x (.pb p) := by exact lk) (hy : Look c E L y (.of v) := by first | exact lk | exact look_nil)
    (hL : Up L ⟨some p, .var b⟩ ⟨some p, .var v⟩ L' := by repeat (first | exact Up.z | apply Up.s)) : Sq c ops Q (⟨none, .store t x y, ty, pos, af, none⟩ :: rest) E L := by
  obtain ⟨j, h1, rfl⟩ := hL.get
  exact .store (Lens.id β) tt hx hy h1 rfl rfl k
theorem s_nb {α R : Type} {a : α} {f : α → Option R} {r : R} {G : Prop} (h : (some a).bind f = some r) (k : ∀ y, some a = some y → f y = some r → G) : G := k a rfl h
theorem s_vn {α : Type} [Rp α] {a a' : α} {K : α → Prop} (k : ∀ y, some a = some y → K y → Sq c ops Q rest ((dd, .of y) :: E) L) (hg : o.guard = none := by rfl) (hd : o.dst = some dd := by rfl) (h : HR c E L o (.of a') := by exact hr) (e : a' = a := by with_reducible rfl) (hn : Nat.blt dd c.n = true := by rfl) :
    ∀ y, some a = some y → K y → Sq c ops Q (o :: rest) E L := fun y hy hk => by subst e; exact .v ((Nm.n hy).hr h) hg hd hn (k y hy hk)
theorem s_nw {α R : Type} {a : α} {f : α → Wm R} {r : R → Prop} {G : Prop} (h : Wm.bind (Wm.of (some a)) f r) (k : ∀ y, some a = some y → f y r → G) : G := by obtain ⟨y, h1, h2⟩ := h; exact k y h1 h2
theorem s_b {α R : Type} {m : Option α} {f : α → Option R} {r : R} (h : m.bind f = some r) (k : ∀ y, m = some y → f y = some r → Sq c ops Q (o :: rest) E L) : Sq c ops Q (o :: rest) E L := Qbf h k
theorem s_bw {α R : Type} {m : Option α} {f : α → Wm R} {r : R → Prop} (h : Wm.bind (Wm.of m) f r) (k : ∀ y, m = some y → f y r → Sq c ops Q (o :: rest) E L) : Sq c ops Q (o :: rest) E L := Wm.obf h k
theorem rvc {u j p : Nat} {α : Type} [Rp α] {x : α} [k : Ty c.P ty α] (h : look E u = some (.pb p) := by rfl) (hL : L[j]? = some ⟨some p, .var x⟩ := by first | exact At.g | exact hL _ _ At.g rfl) : RV c E L (.cell u ty) (.of x) := rv_c k h hL
theorem rv {r : ResultVar} {τ : VP} (h : RV c E L r τ := by first | exact rv_t rfl | exact rvc) : RV c E L r τ := h
theorem rvoc {u j p : Nat} {α : Type} [Rp α] {x : α} [k : Ty c.P ty α] (h : look E u = some (.pb p) := by rfl) (hL : L[j]? = some ⟨some p, .var x⟩ := by first | exact At.g | exact hL _ _ At.g rfl) : RVO c E L (.cell u ty) (.of x) := rvo_c k h hL
theorem rvo {r : ResultVar} {τ : VP} (h : RVO c E L r τ := by first | exact rvo_t rfl | exact rvoc) : RVO c E L r τ := h
theorem e_0 {fn : Func} (hr : fn.results = #[] := by rfl) (hds : c.ds = [] := by rfl) : To c (bodyPost c.P fn (Post c (.tup []))) .ret E L := .end0 hr hds
theorem e_1 {fn : Func} {r : ResultVar} {τ : VP} (hr : fn.results = #[r] := by rfl) (h : RV c E L r τ := by exact rv) (hds : c.ds = [] := by rfl) : To c (bodyPost c.P fn (Post c τ)) .ret E L := .end1 hr h hds
theorem e_2 {fn : Func} {r1 r2 : ResultVar} {τ τ2 : VP} (hr : fn.results = #[r1, r2] := by rfl) (h : RV c E L r1 τ := by exact rv) (h2 : RV c E L r2 τ2 := by exact rv) (hds : c.ds = [] := by rfl) : To c (bodyPost c.P fn (Post c (.tup [τ, τ2]))) .ret E L := .end2 hr h h2 hds
theorem e_3 {fn : Func} {r1 r2 r3 : ResultVar} {τ τ2 τ3 : VP} (hr : fn.results = #[r1, r2, r3] := by rfl) (h : RV c E L r1 τ := by exact rv) (h2 : RV c E L r2 τ2 := by exact rv) (h3 : RV c E L r3 τ3 := by exact rv) (hds : c.ds = [] := by rfl) : To c (bodyPost c.P fn (Post c (.tup [τ, τ2, τ3]))) .ret E L := .end3 hr h h2 h3 hds
end
inductive HV (c : Cx) (ops : Array Oper) (E : List (Nat × VP)) (L : List Ent) (hs : List Hd) : List Oper → List (Option Nat) → List (List Nat) → List VP → Prop
  | nil {os} : HV c ops E L hs os [] [] []
  | cons {o os s ss d ds τ ts} : (∀ L' : List Ent, (∀ (j : Nat) (e : Ent), L[j]? = some e → unsto (fun _ => false) j 0 [] = true → L'[j]? = some e) → HO c ops (heD (fun _ _ => none) hs E d) L' o τ) → HV c ops E L hs os ss ds ts → HV c ops E L hs (o :: os) (s :: ss) (d :: ds) (τ :: ts)
theorem HV.h {c : Cx} {ops : Array Oper} {E : List (Nat × VP)} {L : List Ent} {hs : List Hd} {os ss ds ts} (h : HV c ops E L hs os ss ds ts) : HeadsV c ops E L hs os ss ds ts := by
  induction h with
  | nil => simp [HeadsV]
  | cons h1 _ ih => exact ⟨h1, ih⟩
section
variable {c : Cx} {E : List (Nat × VP)} {L : List Ent} {ops : Array Oper} {Q : Exit → Act → World → Prop} {o : Oper}
theorem hov {τ σ : VP} (hg : o.guard = none := by rfl) (h : HR c E L o τ := by first | exact hr | exact hrp | exact w_lxo) (n : Nm τ σ := by first | exact Nm.n (by with_reducible assumption) | exact Nm.i) : HO c ops E L o σ := HO.v (n.hr h) hg
theorem hog {τ : VP} {j g : Nat} {b want : Bool} (hg : o.guard = some (j, want) := by rfl) (hj : (ops[j]?).bind (·.dst) = some g := by rfl) (hl : look E g = some (.of b) := by rfl) (h : b = want → HR c E L o τ := by intro hb; first | exact hr | exact hrp | exact w_lxo) :
    HO c ops E L o (.cond (b = want) τ) := HO.g h hg hj hl
end
/-! ### Drawn regions with operations that change entries -/
theorem msk_self {up : List Nat} {i : Nat} {hd : Nat → Hid} {x : Hid} : msk up i (upd hd i x) i = x := by
  unfold msk upd
  simp
/-- a new variable at entry j -/
def Hal (s : Nat) (up : List Nat) (j i : Nat) {α : Type} [Rp α] (z : α) : Hd := ⟨some s, up, [j], [j], fun hd => VP.pb ((hd i 0).getD 0), fun hd _ => vr ((hd i 0).getD 0) z⟩
inductive StO (c : Cx) (E : List (Nat × VP)) (L : List Ent) (t : TypeId) (x y : Operand) (j : Nat) (e : Ent) : Prop
  | mk {p : Nat} {β γ : Type} [Rp β] [Rp γ] {b : β} {v : γ} (l : Lens β γ) : Ty c.P t γ → Look c E L x (.lp p l) → Look c E L y (.of v) → L[j]? = some ⟨some p, .var b⟩ → ⟨some p, .var (l.set b v)⟩ = e → StO c E L t x y j e
  | z {p : Nat} {β : Type} [Rp β] {b v : β} : Ty c.P t β → Look c E L x (.pb p) → Look c E L y (.of v) → L[j]? = some ⟨some p, .var b⟩ → ⟨some p, .var v⟩ = e → StO c E L t x y j e
section
variable {c : Cx} {E : List (Nat × VP)} {L : List Ent} {ops : Array Oper} {Q : Exit → Act → World → Prop} {o : Oper} {hs : List Hd} {np i dd : Nat} {up rd : List Nat} {t ty : TypeId} {pos : String} {af : Array Edge} {x y : Operand}
theorem vq {p : Nat} {β : Type} [Rp β] {a b : β} (h : some a = some b) : (⟨some p, .var a⟩ : Ent) = ⟨some p, .var b⟩ := by cases h; rfl
theorem so {p j : Nat} {β γ : Type} [Rp β] [Rp γ] {b : β} {v : γ} {l : Lens β γ} {e : Ent} [k : Ty c.P t γ] (hx : Look c E L x (.lp p l) := by exact lk) (hy : Look c E L y (.of v) := by first | exact lk | exact look_nil) (h : L[j]? = some ⟨some p, .var b⟩ := by exact hL _ _ rfl rfl) (he : ⟨some p, .var (l.set b v)⟩ = e := by first | rfl | exact vq (by assumption)) : StO c E L t x y j e := .mk l k hx hy h he
theorem sz {p j : Nat} {β : Type} [Rp β] {b v : β} {e : Ent} [k : Ty c.P t β] (hx : Look c E L x (.pb p) := by exact lk) (hy : Look c E L y (.of v) := by first | exact lk | exact look_nil) (h : L[j]? = some ⟨some p, .var b⟩ := by exact hL _ _ rfl rfl) (he : ⟨some p, .var v⟩ = e := by first | rfl | exact vq (by assumption)) : StO c E L t x y j e := .z k hx hy h he
inductive HN (c : Cx) (E : List (Nat × VP)) (L : List Ent) (o : Oper) (σ : VP) : Prop
  | mk {τ : VP} : HR c E L o τ → Nm τ σ → HN c E L o σ
theorem HN.h {σ : VP} (h : HN c E L o σ) : HR c E L o σ := by cases h with | mk h n => exact n.hr h
theorem hn {τ σ : VP} (h : HR c E L o τ := by first | exact hr | exact hrp) (n : Nm τ σ := by first | exact Nm.n (by with_reducible assumption) | exact Nm.i) : HN c E L o σ := .mk h n
theorem dho {σ : VP} (h : ∀ (hd : Nat → Hid) (E' : List (Nat × VP)) (L' : List Ent), (∀ t τ, look (heD hd hs E up) t = some τ → look E' t = some τ) → (∀ j e, (Lf (fun _ => true) hd 0 (hs.take i) L)[j]? = some e → rd.contains j = true → L'[j]? = some e) → (∀ {β : Type} [Rp β] (p : Nat) (b : β) {j : Nat}, (Lf (fun _ => true) hd 0 (hs.take i) L)[j]? = some ⟨some p, .var b⟩ → TyW L' p b) → L'.drop np = L.drop np → HN c E' L' o σ := by intro hd E' L' hE hL hT hP; exact hn)
    (hg : o.guard = none := by rfl) (hd : o.dst = some dd := by rfl) (hn : Nat.blt dd c.n = true := by rfl) : HeadDP c ops Q hs E L np i o (Hp dd up rd σ) :=
  fun a b c' d e f => Sq.v (h a b c' d e (fun _ _ _ _ => trivial) f).h hg hd hn (Sq.nil (To.fin (fun _ => none) rfl rfl))
theorem dhg {τ : VP} {j g : Nat} {b want : Bool} (hg : o.guard = some (j, want) := by rfl) (hj : (ops[j]?).bind (·.dst) = some g := by rfl) (hl : ∀ hd, look (heD hd hs E up) g = some (.of b) := by intro hd; rfl)
    (h : ∀ (hd : Nat → Hid) (E' : List (Nat × VP)) (L' : List Ent), (∀ t τ, look (heD hd hs E up) t = some τ → look E' t = some τ) → (∀ j e, (Lf (fun _ => true) hd 0 (hs.take i) L)[j]? = some e → rd.contains j = true → L'[j]? = some e) → (∀ {β : Type} [Rp β] (p : Nat) (b : β) {j : Nat}, (Lf (fun _ => true) hd 0 (hs.take i) L)[j]? = some ⟨some p, .var b⟩ → TyW L' p b) → L'.drop np = L.drop np → b = want → HN c E' L' o τ := by intro hd E' L' hE hL hT hP hb; exact hn)
    (hd : o.dst = some dd := by rfl) (hn : Nat.blt dd c.n = true := by rfl) : HeadDP c ops Q hs E L np i o (Hp dd up rd (.cond (b = want) τ)) :=
  fun a b' c' d e f => Sq.g (fun z => (h a b' c' d e (fun _ _ _ _ => trivial) f z).h) hg hj (d _ _ (hl a)) hd hn (Sq.nil (To.fin (fun _ => none) rfl rfl))
theorem dal {α : Type} [ia : Rp α] {z : α} [zr : Zr c.P t z] {s j : Nat} (hj : ∀ hd, (Lf (fun _ => true) hd 0 (hs.take i) L)[j]? = some ⟨none, .dead⟩ := by intro hd; rfl) (hn : Nat.blt s c.n = true := by rfl) : HeadDP c ops Q hs E L np i ⟨some s, .alloc t, ty, pos, af, none⟩ (Hal s up j i z) :=
  fun hd E' L' hE hL hP => .alloc zr hn fun p => .nil (.place j (hL j _ (hj hd) (by simp [Hal])) (.fin (gm [some p]) (by simp [Hal, addE, msk_self, gm]) (by simp [Hal, setE, msk_self, gm])))
theorem dst {j : Nat} {e : (Nat → Hid) → Ent} (h : ∀ (hd : Nat → Hid) (E' : List (Nat × VP)) (L' : List Ent), (∀ t τ, look (heD hd hs E up) t = some τ → look E' t = some τ) → (∀ k e, (Lf (fun _ => true) hd 0 (hs.take i) L)[k]? = some e → [j].contains k = true → L'[k]? = some e) → L'.drop np = L.drop np → StO c E' L' t x y j (e (msk up i (upd hd i fun _ => none))) := by intro hd E' L' hE hL hP; first | exact so | exact sz) :
    HeadDP c ops Q hs E L np i ⟨none, .store t x y, ty, pos, af, none⟩ (Hs up [j] [j] e) := fun hd E' L' hE hL hP => by
  cases h hd E' L' hE hL hP with
  | mk l tt hx hy h1 h2 => exact .store l tt hx hy h1 rfl rfl (.nil (.fin (fun _ => none) rfl (congrArg (L'.set j) h2)))
  | z tt hx hy h1 h2 => exact .store (Lens.id _) tt hx hy h1 rfl rfl (.nil (.fin (fun _ => none) rfl (congrArg (L'.set j) h2)))
end
inductive HX (c : Cx) (ops : Array Oper) (Q : Exit → Act → World → Prop) (hs : List Hd) (E : List (Nat × VP)) (L : List Ent) (np : Nat) : Nat → List Oper → List Hd → Prop
  | nil {i} : HX c ops Q hs E L np i [] []
  | cons {i o os h r} : HeadDP c ops Q hs E L np i o h → HX c ops Q hs E L np (i + 1) os r → HX c ops Q hs E L np i (o :: os) (h :: r)
theorem HX.h {c : Cx} {ops : Array Oper} {Q : Exit → Act → World → Prop} {hs : List Hd} {E : List (Nat × VP)} {L : List Ent} {np i : Nat} {os r} (h : HX c ops Q hs E L np i os r) : HeadsDP c ops Q hs E L np i os r := by
  induction h with
  | nil => simp [HeadsDP]
  | cons h1 _ ih => exact ⟨h1, ih⟩
section
variable {c : Cx} {E : List (Nat × VP)} {L : List Ent} {Q : Exit → Act → World → Prop} {rid : Nat} {l : List Oper} {ds : List (Option Nat × List Nat × List Nat × List Nat)} {es : List Nat} [kx : Kx c.P] (np : Nat) (hs : List Hd)
include kx
theorem Wp.en {K : Prop} (k : K) (ht : ∀ hd, To c Q .normal (zipD (fun _ => true) hd E 0 hs) (Lf (fun _ => true) hd 0 hs L)) (hh : Kw K → HX c l.toArray Q hs E L np 0 l hs := by intro k; repeat (first | apply HX.nil | (apply HX.cons; first | exact dal | exact dst | exact dho | exact dhg | exact k.k.1 | exact k.k.2.1 | exact k.k.2.2.1 | exact k.k.2.2.2.1 | exact k.k.2.2.2.2.1 | exact k.k.2.2.2.2.2.1 | exact k.k.2.2.2.2.2.2.1 | exact k.k.2.2.2.2.2.2.2.1 | exact k.k.2.2.2.2.2.2.2.2.1 | exact k.k.2.2.2.2.2.2.2.2.2.1 | exact k.k.2.2.2.2.2.2.2.2.2.2.1 | exact k.k.2.2.2.2.2.2.2.2.2.2.2.1 | exact k.k.2.2.2.2.2.2.2.2.2.2.2.2.1 | exact k.k.2.2.2.2.2.2.2.2.2.2.2.2.2.1)))
    (hds : dat hs = ds := by rfl) (hes : E.map (·.1) = es := by rfl) (hB : Gv.drawT l.toArray l.length ds es = true := by kernel_rfl) (hw : (ds.all fun d => d.2.2.2.all fun j => Nat.blt j np) = true := by kernel_rfl) : Wp c Q (.region rid l.toArray true) E L := .dQ np kx.m hs es (hh ⟨k⟩).h ht hds hes hB hw
end
/-! ### Drawn regions in phases -/
section
variable {c : Cx} {E : List (Nat × VP)} {L : List Ent} {l : List Oper} {Q : Exit → Act → World → Prop}
inductive LI (c : Cx) (l : List Oper) (E : List (Nat × VP)) (L : List Ent) (fs : List (Nat × Nat × VP)) : List Nat → Prop
  | nil : LI c l E L fs []
  | cons {i o τ r} : l[i]? = some o → fndN i fs = some τ → HO c l.toArray (gE (fun j => memN j (depN o)) E fs) L o τ → LI c l E L fs r → LI c l E L fs (i :: r)
theorem LI.h {fs : List (Nat × Nat × VP)} {nl : List Nat} (h : LI c l E L fs nl) : LP c l E L fs nl := by
  induction h with
  | nil => trivial
  | cons h1 h2 h3 _ ih => exact ⟨by rw [h1, h2]; exact h3, ih⟩
theorem AnyP.md {cn : Nat} {eff pe : List Nat} {fs : List (Nat × Nat × VP)} {ks : List (Nat × Nat)} {es : List Nat} (fc nl el : List Nat) (hE : EP c l Q eff pe fs E L el) (hL : LI c l E L fs nl := by repeat (first | apply LI.nil | (apply LI.cons; rfl; rfl; (first | exact hov | exact hog)))) (hn : eff.all (fun k => memN k pe) = false := by rfl)
    (hks : fs.map (fun x => (x.1, x.2.1)) = ks := by rfl) (hes : E.map (·.1) = es := by rfl) (hcn : c.n = cn := by rfl) (hB : phB l cn eff pe fc nl el ks es = true := by kernel_rfl) : AnyP c l Q eff pe fs E L := .mid fc nl el hL.h hE hn hks hes hcn hB
end
/-- the walk: as far as it goes; what is left is k1, k2, .. -/
theorem go {G : Prop} (h : G := by
  repeat (first
  | (change Sq _ _ _ (_ :: _) _ _
     first
     | ((with_reducible refine s_nb h ?_); refine s_vn ?_; (try clear h); intro zv zw h; have zc := True.intro) | ((with_reducible refine s_nw h ?_); refine s_vn ?_; (try clear h); intro zv zw h; have zc := True.intro)
     | (apply g_al; refine s_al ?_; intro zv) | (apply g_bx; refine s_bx ?_; intro zv)
     | (apply g_st; first | refine s_st ?_ | refine s_s0 ?_)
     | (apply q_nc; (first | (with_reducible refine s_b h ?_) | (with_reducible refine s_bw h ?_)); (try clear h); (intro zv zw h; have zc := True.intro); first | (refine s_v ?_ (h := by exact hrp); change Sq _ _ _ _ ((_, VP.pb zv) :: _) _) | (refine s_g ?_ (h := by intro hb; exact hrp); change Sq _ _ _ _ ((_, VP.cond _ (VP.pb zv)) :: _) _))
     | ((first | apply q_nc | apply q_ld); first | refine s_v ?_ (h := by exact hrp) | refine s_g ?_ (h := by intro hb; exact hrp))
     | ((first | apply q_ix | apply q_ca | apply q_bin | apply q_ld); (first | (with_reducible refine s_b h ?_) | (with_reducible refine s_bw h ?_)); (try clear h); (intro zv zw h; have zc := True.intro); first | refine s_v ?_ (h := by exact hrp) | refine s_g ?_ (h := by intro hb; exact hrp))
     | refine s_v ?_ | refine s_g ?_ | refine s_gg ?_ | refine s_v ?_ (h := by exact hrp) | refine s_g ?_ (h := by intro hb; exact hrp))
  | (change Sq _ _ _ [] _ _
     first | apply Qnr | apply Qns | apply Qnx | apply Sq.nil)
  | (change Wp _ _ _ _ _
     first | apply Qsr | (apply g_cd; first | ((with_reducible have zc := t_c h); refine Qcd h ?_ ?_ <;> ((try clear h); intro h)) | ((with_reducible have zc := t_w h); refine Qcw h ?_ ?_ <;> ((try clear h); intro h))) | apply Qkn | apply Wp.seq | apply Wp.block | apply Wp.reg | apply Wp.ret | apply Wp.exit | apply Wp.skip)
  | (change To _ _ _ _ _
     first | apply To.next | apply To.ret | apply To.exit | apply To.bret | apply To.bexit | apply To.bnorm | refine To.bother rfl ?_ | (cases h; first | exact e_1 | exact e_2 | exact e_o1 | exact e_o2 | exact e_0 | exact e_3 | exact e_o0 | exact Qrd () 0 | exact Qrd () 1 | exact Qrd () 2 | exact Qrd () 3 | exact Qlv () 0 | exact Qlv () 1 | exact Qlv () 2 | exact Qlv () 3 | exact Qmt 0 (hm ()) | exact Qmt 1 (hm ()) | exact Qmt 2 (hm ())))
  | ((first | ((guard_hyp zc); (clear zc); revert h) | skip); (repeat (revert zv)); first | exact k1.k | exact k2.k | exact k3.k | exact k4.k | exact k5.k | exact k6.k))) : G := h
theorem go1 {G K : Prop} (k : K) (h : Kw K → G := by intro k1; exact go) : G := h ⟨k⟩
end Gv

namespace Gv
open Go
set_option linter.unusedVariables false
set_option linter.unusedSimpArgs false

/-- a function without parameters: what it returns; none: nobody says -/
structure Th (P : Program) (α : Type) where
  r : Option α
instance {P : Program} {α : Type} : Inhabited (Th P α) := ⟨⟨none⟩⟩
instance {P : Program} {α : Type} [Rp α] : Rp (Th P α) where
  size := 1
  agg := false
  rep A W cs x := ∃ v, cs = [v] ∧ v.oneCell' = true ∧ ∀ r, x.r = some r → ∃ f fst cap, v = .func (.func f) fst cap ∧ En P f ∧ ∀ A' W', Ext A W A' W' → (∀ k ∈ A', k < W'.heap.size) →
    Calls P f (fst ++ cap) W' fun e W'' => ∃ v, e = .returned v ∧ Fr [] W' W'' ∧ (VP.of r).holds A' W'' v
  len h := by obtain ⟨v, rfl, _⟩ := h; rfl
  one h := by
    obtain ⟨v, rfl, h, _⟩ := h
    intro u hu
    rw [List.mem_singleton.1 hu]; exact h
  flat _ := rfl
  mono e h := let ⟨v, h1, h2, h3⟩ := h
    ⟨v, h1, h2, fun r hr => let ⟨f, fst, cap, h4, h5, h6⟩ := h3 r hr; ⟨f, fst, cap, h4, h5, fun A' W' e' => h6 A' W' (e.trans e')⟩⟩
instance {P : Program} {α : Type} [Rp α] : Zc (Th P α) := ⟨[.nilFunc], fun _ _ => ⟨_, rfl, rfl, fun r h => by cases h⟩⟩
section
variable {c : Cx} {E : List (Nat × VP)} {L : List Ent} {d : Option Tmp} {ty : TypeId} {pos : String} {af : Array Edge} {g : Option (Nat × Bool)}
theorem r_eqS {x y : Operand} {t t2 : TypeId} {u v : ByteArray} (hu : c.P.underlying t = some .string) (hx : Look c E L x (.of u)) (hy : Look c E L y (.of v)) : HR c E L ⟨d, .binOp .eql t x y t2, ty, pos, af, g⟩ (.of (u.data.toList == v.data.toList)) := .pure fun a W s => by
  have h1 : a.eval x = .string u := of_str.1 (hx a W s)
  have h2 : a.eval y = .string v := of_str.1 (hy a W s)
  exact ⟨.bool (u.data.toList == v.data.toList), by simp [execOp, eqGuard, binOp, h1, h2, Op.stringOp, ByteArray.toList_eq], of_bool.2 rfl⟩
theorem r_neS {x y : Operand} {t t2 : TypeId} {u v : ByteArray} (hu : c.P.underlying t = some .string) (hx : Look c E L x (.of u)) (hy : Look c E L y (.of v)) : HR c E L ⟨d, .binOp .neq t x y t2, ty, pos, af, g⟩ (.of (u.data.toList != v.data.toList)) := .pure fun a W s => by
  have h1 : a.eval x = .string u := of_str.1 (hx a W s)
  have h2 : a.eval y = .string v := of_str.1 (hy a W s)
  exact ⟨.bool (u.data.toList != v.data.toList), by simp [execOp, eqGuard, binOp, h1, h2, Op.stringOp, ByteArray.toList_eq, bne], of_bool.2 rfl⟩
end
end Gv

namespace Gv
open Go
set_option linter.unusedVariables false
set_option linter.unusedSimpArgs false

/-- a function with what it has captured, deferred -/
def dfn (f : FuncId) (us : List Value) : Deferred := { target := .fn (.func f) us.toArray, args := #[] }
section
variable {c : Cx} {E : List (Nat × VP)} {L : List Ent} {ops : Array Oper} {Q : Exit → Act → World → Prop} {d : Option Tmp} {ty : TypeId} {pos : String} {af : Array Edge}
theorem Sq.defer {rest : List Oper} {fo : Operand} {ats : Array TypeId} {f : FuncId} {us : List Value} (hc : c.rd = Option.none) (hf : Look c E L fo (.of (⟨f, Option.some us⟩ : Raw)))
    (k : Sq { c with ds := dfn f us :: c.ds } ops Q rest E L) : Sq c ops Q (⟨Option.none, .defer ⟨.value fo, #[], ats⟩, ty, pos, af, Option.none⟩ :: rest) E L := fun a W s => by
  have h1 : a.eval fo = .func (.func f) #[] us.toArray := of_raw.1 (hf a W s)
  refine wpListIn_plain rfl fun K hK => ⟨fun _ _ => trivial, ?_⟩
  have hr : ((⟨Option.none, .defer ⟨.value fo, #[], ats⟩, ty, pos, af, Option.none⟩ : Oper).semAt c.F.round a.eval).run c.P W = .ok (.defer (dfn f us)) W := by
    show ((⟨Option.none, .defer ⟨.value fo, #[], ats⟩, ty, pos, af, Option.none⟩ : Oper).semAt c.rd a.eval).run c.P W = _
    rw [hc, Oper.semAt_none]
    simp [execOp, resolve, Deferred.ofValue, h1, dfn]
  rw [hr, Oper.uponIn_defer]
  refine hK _ _ (k _ _ ?_)
  exact { defers := by show dfn f us :: a.defers = dfn f us :: c.ds; rw [s.defers], size := s.size, env := s.env, fr := s.fr, own := s.own, nodup := s.nodup, lt := s.lt, mine := s.mine, old := s.old }
end

/-- as MeetsO, of a call that is deferred -/
def MeetsD (P : Program) (f : FuncId) (τs : List VP) (Lin : List Ent) {δ : Type} (Lo : δ → List Ent) : Prop :=
  ∀ (A : List Nat) (W : World) (vs : List Value), (∀ k ∈ A, k < W.heap.size ∧ k ∉ ks Lin) → (ks Lin).Nodup → (∀ k ∈ ks Lin, k < W.heap.size) → (∀ e ∈ Lin, e.ok (ks Lin ++ A) W) → HoldsAll (ks Lin ++ A) W τs vs →
    ∀ u, CallsDIn Fence.wide 8 P f vs.toArray u W fun e u' W' => u' = u ∧ PostO (ks Lin) A W (fun _ : δ => VP.tup []) Lo e W'
theorem MeetsD.of {P : Program} {f : FuncId} {fn : Func} {code : Code} {n : Nat} {τs : List VP} {Lin : List Ent} {δ : Type} {Lo : δ → List Ent} (hf : P.funcs[f]? = some fn) (hb : fn.body = some code) (hn : fn.ntmps = n) (hlen : Nat.ble τs.length n = true)
    (h : ∀ W A, Wp ⟨P, n, W, ks Lin, A, none, []⟩ (bodyPost P fn (PostO (ks Lin) A W (fun _ : δ => VP.tup []) Lo)) code (params 0 τs) Lin) : MeetsD P f τs Lin Lo := by
  intro A W vs hA hnd hlt hok hv u
  refine callsDIn_of_wp hf hb trivial (wpIn_wide.2 (wpIn_wide.1 (h W A _ _ ?_)))
  have hl := hv.length
  have hle : τs.length ≤ n := Nat.le_of_ble_eq_true hlen
  exact
  { defers := rfl
    size := by simp [hn, hl]; omega
    env := fun t τ hl' => by
      obtain ⟨_, v, h2, h3⟩ := look_params hv 0 t τ hl'
      refine ⟨v, ?_, h3⟩
      have hlt : t < vs.length := (List.getElem?_eq_some_iff.1 h2).1
      rw [Array.getElem?_append_left (by simpa using hlt)]
      simpa using h2
    fr := .refl _ _
    own := hok
    nodup := hnd
    lt := hlt
    mine := fun k hk _ => hk
    old := hA }

instance : Inhabited Ex := ⟨⟨.slice none 0 0⟩⟩
theorem look_xe {c : Cx} {E : List (Nat × VP)} {L : List Ent} {x : Operand} {u : Value} (h : Look c E L x (.of (⟨u⟩ : Ex))) : Look c E L x (.eq u) := fun a W s => (of_ex.1 (h a W s)).1
theorem Sq.inv0 {c : Cx} {E : List (Nat × VP)} {L : List Ent} {ops : Array Oper} {Q : Exit → Act → World → Prop} {ty : TypeId} {pos : String} {af : Array Edge} {x : Operand} {rest : List Oper} {dd : Nat} {name : String} {ats : Array TypeId} {τ ρ : VP} (h : MeetsV c.P name τ [] [] (fun _ : Unit => ρ) (fun _ => []))
    (hx : Look c E L x τ) (hn : Nat.blt dd c.n = true) (k : Sq c ops Q rest ((dd, ρ) :: E) L) : Sq c ops Q (⟨some dd, .call ⟨.invoke x name, #[], ats⟩, ty, pos, af, none⟩ :: rest) E L := fun a W s =>
  wpList_op rfl (opto_inv (xs := []) (Lin := []) (Lr := L) h s (.cons (hx a W s) .nil)) fun v W' ⟨_, s', hv⟩ => k _ _ (s'.put (by simpa using hn) hv)
end Gv

namespace Gv
open Go
set_option linter.unusedVariables false
set_option linter.unusedSimpArgs false

/-- a part of a string; none: out of range -/
def substr (s : ByteArray) (lo hi : Int) : Option ByteArray := if 0 ≤ lo ∧ lo ≤ hi ∧ hi ≤ s.size then some (s.extract lo.toNat hi.toNat) else none
section
variable {c : Cx} {E : List (Nat × VP)} {L : List Ent} {ops : Array Oper} {Q : Exit → Act → World → Prop}
variable {d : Option Tmp} {ty : TypeId} {pos : String} {af : Array Edge} {g : Option (Nat × Bool)} {x y : Operand} {t t2 : TypeId}
theorem r_slcS {s0 r : ByteArray} {lo hi : Option Operand} {i j : Int} (hu : c.P.underlying t = some .string) (hx : Look c E L x (.of s0)) (hlo : Bd c E L lo i 0) (hhi : Bd c E L hi j s0.size)
    (h : substr s0 i j = some r) : HR c E L ⟨d, .slice t x lo hi none, ty, pos, af, g⟩ (.of r) := .pure fun a W s => by
  unfold substr at h
  split at h
  case isFalse => cases h
  rename_i hc
  cases h
  obtain ⟨m, n, rfl, rfl⟩ : ∃ m n : Nat, i = m ∧ j = n := ⟨i.toNat, j.toNat, by omega, by omega⟩
  have hmn : m ≤ n := by omega
  have hn : n ≤ s0.size := by omega
  have hL : ∀ v, v = Value.int .i64 m → (Instr.sliceBound v n .sliceB).run c.P W = .ok m W := fun v hv => run_sliceB hmn hv
  have hH : ∀ v, v = Value.int .i64 n → (Instr.sliceBound v s0.size .sliceAlen).run c.P W = .ok n W := fun v hv => run_sliceB hn hv
  refine ⟨.string (s0.extract m n), ?_, of_str.2 (by simp)⟩
  have hx' := of_str.1 (hx a W s)
  generalize hin : (n : Int) = nI at hhi
  generalize him : (m : Int) = mI at hlo
  generalize hxl : (s0.size : Int) = xl at hhi
  generalize hzz : (0 : Int) = zz at hlo
  cases hlo with
  | none =>
    have hm0 : m = 0 := by omega
    subst hm0
    cases hhi with
    | none =>
      have hnx : n = s0.size := by omega
      subst hnx
      simp [execOp, Instr.sliceAt, Instr.slice, Instr.sliceBounds, hx', run_underlying hu]
    | some h2 =>
      have h4 := hH _ ((of_int.1 (h2 a W s)).trans (by rw [hin]))
      simp [execOp, Instr.sliceAt, Instr.slice, Instr.sliceBounds, hx', run_underlying hu, h4]
  | some h1 =>
    cases hhi with
    | none =>
      have hnx : n = s0.size := by omega
      subst hnx
      have h3 := hL _ ((of_int.1 (h1 a W s)).trans (by rw [him]))
      simp [execOp, Instr.sliceAt, Instr.slice, Instr.sliceBounds, hx', run_underlying hu, h3]
    | some h2 =>
      have h3 := hL _ ((of_int.1 (h1 a W s)).trans (by rw [him]))
      have h4 := hH _ ((of_int.1 (h2 a W s)).trans (by rw [hin]))
      simp [execOp, Instr.sliceAt, Instr.slice, Instr.sliceBounds, hx', run_underlying hu, h3, h4]
/-- the bytes of a string -/
def bytesOf (s : ByteArray) : List (BitVec 8) := s.data.toList.map fun b => BitVec.ofNat 8 b.toNat
/-- a string as bytes; none: more than memory bears -/
def strB (s : ByteArray) : Option (List (BitVec 8)) := if s.size ≤ maxLen then some (bytesOf s) else none
end
/-- a deferred function that does nothing at a plain end (it recovers a panic, and there is none) -/
def Idle (P : Program) (f : FuncId) (us : List Value) : Prop := ∀ W, CallsDIn Fence.wide 8 P f us.toArray .returning W fun e u' W' => e = .returned (.tuple #[]) ∧ u' = .returning ∧ W' = W
theorem To.endR {c : Cx} {E : List (Nat × VP)} {L : List Ent} {fn : Func} {R : Ending → World → Prop} {f : FuncId} {us : List Value} (hds : c.ds = [dfn f us]) (en : En c.P f)
    (h : Idle c.P f us) (k : To { c with ds := [] } (bodyPost c.P fn R) .ret E L) : To c (bodyPostM Fence.wide 9 c.P fn R) .ret E L := fun a W s => by
  show LeavesInM Fence.wide 9 c.P fn a.tmps R a.defers .returning W
  rw [s.defers, hds]
  refine ⟨by simp, .inr ⟨(fun h => by cases h), Fn.func f, us.toArray, f, us.toArray, rfl, ?_, fun _ _ => trivial, ?_⟩⟩
  · simp [dfn, invoke, en.run]
  · refine (h W).mono fun e u' W' ⟨he, hu, hw⟩ => ?_
    subst he hu hw
    have s3 : St { c with ds := [] } E L { a with defers := [] } W' :=
      { defers := rfl, size := s.size, env := s.env, fr := s.fr, own := s.own, nodup := s.nodup, lt := s.lt, mine := s.mine, old := s.old }
    obtain ⟨_, v', h5, h6⟩ := k _ _ s3
    exact ⟨v', h5, h6⟩
/-- a method of an interface that touches nothing -/
structure MeetsF (P : Program) (name : String) (τ : VP) (τs : List VP) (ρ : VP) : Prop where
  go : ∀ (A : List Nat) (W : World) (u : Value) (vs : List Value), (∀ k ∈ A, k < W.heap.size) → HoldsAll A W (τ :: τs) (u :: vs) →
    ∃ f v, (∀ args, (callMethod u name args).run P W = .ok (.enter f (#[v] ++ args)) W) ∧ Calls P f (v :: vs).toArray W fun e W' => ∃ v, e = .returned v ∧ Fr [] W W' ∧ ρ.holds A W' v
theorem MeetsF.of {P : Program} {name : String} {t : TypeId} {f : FuncId} {τ σ ρ : VP} {τs : List VP} (mt : Mt P t name f) (hτ : ∀ A W u, τ.holds A W u → ∃ v, u = .iface t v ∧ σ.holds A W v) (h : Meets P f (σ :: τs) ρ) : MeetsF P name τ τs ρ where
  go A W u vs h1 h5 := by
    cases h5 with
    | cons h6 h7 =>
      obtain ⟨v, rfl, h8⟩ := hτ _ _ _ h6
      exact ⟨f, v, fun args => mt.run v W args, h A W (v :: vs) h1 (.cons h8 h7)⟩
section
variable {c : Cx} {E : List (Nat × VP)} {L : List Ent} {d : Option Tmp} {ty : TypeId} {pos : String} {af : Array Edge} {g : Option (Nat × Bool)} {x : Operand}
theorem HS.clo {f : FuncId} {fo : Operand} {xs : List Operand} {ats : Array TypeId} {τs τcs : List VP} {Lin : List Ent} {ρ : Unit → VP} {Lo : Unit → List Ent} (is : List Nat) (en : En c.P f) (hf : Look c E L fo (.clo f τcs)) (h : MeetsO c.P f (τs ++ τcs) Lin ρ Lo)
    (hx : Looks c E L xs τs) (hn : decide is.Nodup = true) (hp : Pick L is Lin) (hl : Lo () = Lin) : HS c E L ⟨d, .call ⟨.value fo, xs.toArray, ats⟩, ty, pos, af, g⟩ (ρ ()) := fun a W s => by
  obtain ⟨R, hR⟩ := hp.perm (of_decide_eq_true hn)
  have hkp := ks_perm hR
  have ho := OpS.clo (d := d) (ty := ty) (pos := pos) (af := af) (g := g) (ats := ats) (L := Lin ++ R) (Lr := R) Lin.length en (hf.perm hR) h (List.take_left' rfl) (List.drop_left' rfl) (hx.perm hR) a W (s.perm hR)
  unfold OpTo at ho ⊢
  refine Oper.wp_mono (fun a' W' ⟨v, h1, dd, h2, h3⟩ => ⟨v, h1, ?_, ?_⟩) ho
  · cases dd; have hl' : Lo PUnit.unit = Lin := hl; simp only [hl'] at h2; exact h2.perm hR.symm
  · cases dd
    have hl' : Lo PUnit.unit = Lin := hl
    simp only [hl'] at h3
    exact VP.mono _ (.drop fun k hm => by
      simp only [List.mem_append] at hm ⊢
      rwa [← hkp.mem_iff]) h3
end
/-- a function that leaves blocks behind which nobody asks for -/
theorem MeetsO.flat {P : Program} {f : FuncId} {τs : List VP} {δ : Type} {ρ : δ → VP} {Lo : δ → List Ent} {σ : VP} (h : MeetsO P f τs [] ρ Lo) (hs : ∀ d, ρ d = σ) : Meets P f τs σ := fun A W vs hA hv =>
  (h A W vs (fun k hk => ⟨hA k hk, fun h => by cases h⟩) .nil (fun k hk => by cases hk) (fun e he => by cases he) hv).mono fun e W' ⟨v, d, he, hf, _, _, _, h4⟩ => ⟨v, he, hf, by
    rw [hs d] at h4
    exact VP.mono _ (.drop fun k hm => List.mem_append.2 (.inr hm)) h4⟩
end Gv

namespace Gv
open Go
set_option linter.unusedVariables false
set_option linter.unusedSimpArgs false

/-- what a call leaves behind that ends in a panic with the value u -/
def PostX (X A0 : List Nat) (W0 : World) {δ : Type} (u : Value) (Lo : δ → List Ent) : Ending → World → Prop := fun e W' =>
  ∃ d, e = .panicked [{ v := u, recovered := false }] ∧ Fr X W0 W' ∧ (ks (Lo d)).Nodup ∧ (∀ k ∈ ks (Lo d), k < W'.heap.size ∧ (k < W0.heap.size → k ∈ X) ∧ k ∉ A0) ∧ (∀ e ∈ Lo d, e.ok (ks (Lo d) ++ A0) W')

/-- the function f, called with values that are as τs say and with the blocks of Lin, panics with u and leaves the blocks of Lo -/
def Panics (P : Program) (f : FuncId) (τs : List VP) (Lin : List Ent) (u : Value) {δ : Type} (Lo : δ → List Ent) : Prop :=
  ∀ (A : List Nat) (W : World) (vs : List Value), (∀ k ∈ A, k < W.heap.size ∧ k ∉ ks Lin) → (ks Lin).Nodup → (∀ k ∈ ks Lin, k < W.heap.size) → (∀ e ∈ Lin, e.ok (ks Lin ++ A) W) → HoldsAll (ks Lin ++ A) W τs vs →
    Calls P f vs.toArray W (PostX (ks Lin) A W u Lo)

theorem Panics.of {P : Program} {f : FuncId} {fn : Func} {code : Code} {n : Nat} {τs : List VP} {Lin : List Ent} {δ : Type} {u : Value} {Lo : δ → List Ent} (hf : P.funcs[f]? = some fn) (hb : fn.body = some code) (hn : fn.ntmps = n) (hlen : Nat.ble τs.length n = true)
    (h : ∀ W A, Wp ⟨P, n, W, ks Lin, A, none, []⟩ (bodyPost P fn (PostX (ks Lin) A W u Lo)) code (params 0 τs) Lin) : Panics P f τs Lin u Lo := by
  intro A W vs hA hnd hlt hok hv
  refine calls_of_wp hf hb (wpIn_wide.1 (h W A _ _ ?_))
  have hl := hv.length
  have hle : τs.length ≤ n := Nat.le_of_ble_eq_true hlen
  exact
  { defers := rfl
    size := by simp [hn, hl]; omega
    env := fun t τ hl' => by
      obtain ⟨_, v, h2, h3⟩ := look_params hv 0 t τ hl'
      refine ⟨v, ?_, h3⟩
      have hlt : t < vs.length := (List.getElem?_eq_some_iff.1 h2).1
      rw [Array.getElem?_append_left (by simpa using hlt)]
      simpa using h2
    fr := .refl _ _
    own := hok
    nodup := hnd
    lt := hlt
    mine := fun k hk _ => hk
    old := hA }

section
variable {c : Cx} {E : List (Nat × VP)} {L : List Ent} {ops : Array Oper} {Q : Exit → Act → World → Prop}
variable {d : Option Tmp} {ty : TypeId} {pos : String} {af : Array Edge} {g : Option (Nat × Bool)} {x y : Operand} {t t2 : TypeId}

/-- a function's end by a panic -/
theorem To.endX {fn : Func} {X A0 : List Nat} {W0 : World} {u : Value} {δ : Type} {Lo : δ → List Ent} (q : δ) (n : Nat) (hX : c.X = X) (hA : c.A0 = A0) (hW : c.W0 = W0) (hds : c.ds = []) (hL : L.drop n = Lo q) :
    To c (bodyPost c.P fn (PostX X A0 W0 u Lo)) (.panic [{ v := u, recovered := false }]) E L := fun a W s => by
  subst hX hA hW
  have s2 := s.dropL n
  rw [hL] at s2
  exact ⟨by rw [s.defers, hds], q, rfl, s2.fr, s2.nodup, fun k hk => ⟨s2.lt k hk, s2.mine k hk, fun h => (s2.old k h).2 hk⟩, s2.own⟩

/-- an operation that panics -/
theorem Sq.pan {rest : List Oper} {t : TypeId} {v : Value} (hx : ∀ a W, St c E L a W → a.eval x = .iface t v)
    (k : To c Q (.panic [{ v := .iface t v, recovered := false }]) E L) : Sq c ops Q (⟨d, .panic x, ty, pos, af, none⟩ :: rest) E L := fun a W s => wpListIn_plain rfl fun K hK => by
  refine ⟨fun _ _ => trivial, ?_⟩
  have h1 : (Oper.semAt c.F.round a.eval ⟨d, .panic x, ty, pos, af, none⟩).run c.P W = .halt (.panic (.iface t v)) W := by
    rw [Oper.semAt_eq _ _ _ (by intro c h; cases h)]
    show ((Instr.panic (a.eval x)).bind _).run c.P W = _
    rw [hx a W s]
    rfl
  rw [h1]
  exact k a W s
/-- a call that panics -/
theorem Sq.callX {rest : List Oper} {f : FuncId} {xs : List Operand} {ats : Array TypeId} {τs : List VP} {Lin Lr : List Ent} {u : Value} {δ : Type} {Lo : δ → List Ent} (en : En c.P f) (h : Panics c.P f τs Lin u Lo)
    (hx : Looks c E (Lin ++ Lr) xs τs) (k : ∀ q, To c Q (.panic [{ v := u, recovered := false }]) E (Lo q ++ Lr)) :
    Sq c ops Q (⟨d, .call ⟨.value (.func f), xs.toArray, ats⟩, ty, pos, af, none⟩ :: rest) E (Lin ++ Lr) := fun a W s => wpListIn_plain rfl fun K hK => by
  have hnd0 := s.nodup
  rw [ks_append] at hnd0
  obtain ⟨hn1, hn2, hn3⟩ := List.nodup_append.1 hnd0
  have hset : Ext (ks (Lin ++ Lr) ++ c.A0) W (ks Lin ++ (ks Lr ++ c.A0)) W := .drop fun k hm => by
    rw [ks_append]
    simp only [List.mem_append] at hm ⊢
    rcases hm with hm | hm | hm
    · exact .inl (.inl hm)
    · exact .inl (.inr hm)
    · exact .inr hm
  have hA : ∀ k ∈ ks Lr ++ c.A0, k < W.heap.size ∧ k ∉ ks Lin := fun k hm => by
    rcases List.mem_append.1 hm with hm | hm
    · exact ⟨s.lt k (by rw [ks_append]; exact List.mem_append.2 (.inr hm)), fun h => hn3 k h k hm rfl⟩
    · obtain ⟨h1, h2⟩ := s.old k hm
      exact ⟨h1, fun h => h2 (by rw [ks_append]; exact List.mem_append.2 (.inl h))⟩
  have hlt : ∀ k ∈ ks Lin, k < W.heap.size := fun k hm => s.lt k (by rw [ks_append]; exact List.mem_append.2 (.inl hm))
  refine ⟨fun _ _ => trivial, ?_⟩
  have h1 : (Oper.semAt c.F.round a.eval ⟨d, .call ⟨.value (.func f), xs.toArray, ats⟩, ty, pos, af, none⟩).run c.P W = .ok (.enter f (xs.map a.eval).toArray) W := by
    rw [Oper.semAt_eq _ _ _ (by intro c h; cases h)]
    simp [execOp, resolve, Deferred.ofValue, Act.eval, invoke, en.run]
  rw [h1]
  refine ⟨fun h => by simp at h, CallsIn.ofCalls ?_⟩
  refine (h (ks Lr ++ c.A0) W (xs.map a.eval) hA hn1 hlt (fun e he => Ent.ok_mono (s.own e (List.mem_append.2 (.inl he))) hset fun _ _ => rfl) ((hx.holds a W s).mono hset)).mono fun e W' ⟨q, he, hf, h1, h2, h3⟩ => ?_
  subst he
  exact k q a W' (s.after hf h1 h2 h3)
/-- bytes as a string -/
def strOf (xs : List (BitVec 8)) : ByteArray := ⟨(xs.map fun b => UInt8.ofNat b.toNat).toArray⟩
theorem r_b2s {xs : List (BitVec 8)} {e : TypeId} (hu : c.P.underlying t = some (.slice e)) (he : c.P.underlying e = some (.int .u8)) (hd : c.P.underlying t2 = some .string) (hx : Look c E L x (.of xs)) :
    HR c E L ⟨d, .convert t t2 x, ty, pos, af, g⟩ (.of (strOf xs)) := .pure fun a W s => by
  rcases of_list.1 (hx a W s) with ⟨⟨a0, h0⟩, rfl⟩ | ⟨b, off, cap, cur, T, fz, h1, h2, h3, h4, h7, h8, h9⟩
  · refine ⟨.string .empty, ?_, of_str.2 rfl⟩
    have h5 := run_convert_bytes_string (P := c.P) W t t2 e a0 0 0 hu he hd
    cases a0 <;> simp [execOp, h0, h5, Conv.bytesToString, loadCells, loadCellsFrom]
  · refine ⟨.string (strOf xs), ?_, of_str.2 rfl⟩
    have h5 := run_convert_bytes_back (P := c.P) W t t2 e ⟨b, off, none⟩ cap (xs.map fun b => UInt8.ofNat b.toNat) hu he hd fun j hj => by
      have hj' : j < xs.length := by simpa using hj
      have h6 := h9.2 j hj'
      have hsz : Rp.size (BitVec 8) = 1 := rfl
      have hlt : off + j < cur.size := by rw [hsz] at h8; omega
      have h10 : ((((cur.toList.drop off).take (xs.length * Rp.size (BitVec 8))).drop (j * Rp.size (BitVec 8))).take (Rp.size (BitVec 8))) = [cur[off + j]] := by
        rw [hsz, Nat.mul_one, Nat.mul_one]
        apply List.ext_getElem?
        intro i
        rcases i with _ | i
        · simp [List.getElem?_take, List.getElem?_drop, hj', hlt]
        · simp; omega
      rw [h10] at h6
      have ho : (cur[off + j]).oneCell' = true := Rp.one h6 _ (by simp)
      have h11 := (of_u8 (A := ks L ++ c.A0) (W := W) (v := cur[off + j]) (x := xs[j])).1 ⟨ho, by rw [cells_one ho]; exact h6⟩
      have h12 : (xs[j].toNat) < 256 := xs[j].isLt
      rw [addr_add, cell_of_row W b (off + j) cur T fz h3]
      simp [hlt, h11, UInt8.toNat_ofNat', Nat.mod_eq_of_lt h12]
    simp only [List.length_map] at h5
    simp [execOp, h1, h5, strOf]
/-- two strings one behind the other; none: longer than an int counts -/
def catM (a b : ByteArray) : Option ByteArray := if a.size + b.size ≤ 9223372036854775807 then some (a ++ b) else none
theorem r_cat {u v r : ByteArray} (hx : Look c E L x (.of u)) (hy : Look c E L y (.of v)) (h : catM u v = some r) : HR c E L ⟨d, .binOp .add t x y t2, ty, pos, af, g⟩ (.of r) := .pure fun a W s => by
  unfold catM at h
  split at h
  case isFalse => cases h
  rename_i hn
  cases h
  refine ⟨.string (u ++ v), ?_, of_str.2 rfl⟩
  have h1 := of_str.1 (hx a W s)
  have h2 := of_str.1 (hy a W s)
  have h3 : (Op.stringOp .add u v).run c.P W = .ok (.string (u ++ v)) W := by apply run_string_add_sum; exact hn
  simp [execOp, h1, h2, eqGuard, binOp, h3]
end
end Gv

namespace Gv
open Go
set_option linter.unusedVariables false
set_option linter.unusedSimpArgs false

/-- variables that stay as they are: their blocks, and what they hold -/
structure Gr where
  keys : List Nat
  is : World → Prop
  keep : ∀ {W W' : World}, (∀ k ∈ keys, W'.heap[k]? = W.heap[k]?) → is W → is W'
  lt : ∀ {W : World}, is W → ∀ k ∈ keys, k < W.heap.size
def Gr.on (G : Gr) (X : List Nat) (W : World) : Prop := G.is W ∧ ∀ k ∈ G.keys, k ∉ X
theorem Gr.on.fr {G : Gr} {X : List Nat} {W W' : World} (h : G.on X W) (f : Fr X W W') : G.on X W' :=
  ⟨G.keep (fun k hk => f.block k (G.lt h.1 k hk) (h.2 k hk)) h.1, h.2⟩
theorem Gr.on.st {G : Gr} {c : Cx} {E : List (Nat × VP)} {L : List Ent} {a : Act} {W : World} (h : G.on c.X c.W0) (s : St c E L a W) : G.on (ks L) W :=
  ⟨(h.fr s.fr).1, fun k hk hm => h.2 k hk (s.mine k hm (G.lt h.1 k hk))⟩
theorem Gr.on.sub {G : Gr} {X Y : List Nat} {W : World} (h : G.on X W) (hs : ∀ k ∈ Y, k ∈ X) : G.on Y W := ⟨h.1, fun k hk hm => h.2 k hk (hs k hm)⟩

/-- f, called with values that are as τs say, with the blocks of Lin and in a world that G is about, ends as R says -/
def MeetsH (G : Gr) (P : Program) (f : FuncId) (τs : List VP) (Lin : List Ent) (R : List Nat → World → Ending → World → Prop) : Prop :=
  ∀ (A : List Nat) (W : World) (vs : List Value), G.on (ks Lin) W → (∀ k ∈ A, k < W.heap.size ∧ k ∉ ks Lin) → (ks Lin).Nodup → (∀ k ∈ ks Lin, k < W.heap.size) → (∀ e ∈ Lin, e.ok (ks Lin ++ A) W) → HoldsAll (ks Lin ++ A) W τs vs →
    Calls P f vs.toArray W (R A W)
section
variable {G : Gr} {P : Program} {f : FuncId} {fn : Func} {code : Code} {n : Nat} {τs : List VP} {Lin : List Ent} {R : List Nat → World → Ending → World → Prop}
theorem MeetsH.st {a : Act} {W : World} {A : List Nat} {vs : List Value} (hn : fn.ntmps = n) (hlen : Nat.ble τs.length n = true) (hA : ∀ k ∈ A, k < W.heap.size ∧ k ∉ ks Lin) (hnd : (ks Lin).Nodup) (hlt : ∀ k ∈ ks Lin, k < W.heap.size) (hok : ∀ e ∈ Lin, e.ok (ks Lin ++ A) W) (hv : HoldsAll (ks Lin ++ A) W τs vs) :
    St ⟨P, n, W, ks Lin, A, none, []⟩ (params 0 τs) Lin { tmps := vs.toArray ++ Array.replicate (fn.ntmps - vs.toArray.size) undef, defers := [] } W := by
  have hl := hv.length
  have hle : τs.length ≤ n := Nat.le_of_ble_eq_true hlen
  exact
  { defers := rfl
    size := by simp [hn, hl]; omega
    env := fun t τ hl' => by
      obtain ⟨_, v, h2, h3⟩ := look_params hv 0 t τ hl'
      refine ⟨v, ?_, h3⟩
      have hlt : t < vs.length := (List.getElem?_eq_some_iff.1 h2).1
      rw [Array.getElem?_append_left (by simpa using hlt)]
      simpa using h2
    fr := .refl _ _
    own := hok
    nodup := hnd
    lt := hlt
    mine := fun k hk _ => hk
    old := hA }
theorem MeetsH.of (hf : P.funcs[f]? = some fn) (hb : fn.body = some code) (hn : fn.ntmps = n) (hlen : Nat.ble τs.length n = true)
    (h : ∀ W A, G.on (ks Lin) W → Wp ⟨P, n, W, ks Lin, A, none, []⟩ (bodyPost P fn (R A W)) code (params 0 τs) Lin) : MeetsH G P f τs Lin R := fun A W vs hG hA hnd hlt hok hv =>
  calls_of_wp hf hb (wpIn_wide.1 (h W A hG _ _ (MeetsH.st (a := ⟨#[], []⟩) hn hlen hA hnd hlt hok hv)))
theorem MeetsH.ofM (hf : P.funcs[f]? = some fn) (hb : fn.body = some code) (hn : fn.ntmps = n) (hlen : Nat.ble τs.length n = true)
    (h : ∀ W A, G.on (ks Lin) W → Wp ⟨P, n, W, ks Lin, A, none, []⟩ (bodyPostM Fence.wide 9 P fn (R A W)) code (params 0 τs) Lin) : MeetsH G P f τs Lin R := fun A W vs hG hA hnd hlt hok hv =>
  (callsIn_wide (n := 9)).1 (callsIn_of_wp_marks hf hb trivial (h W A hG _ _ (MeetsH.st (a := ⟨#[], []⟩) hn hlen hA hnd hlt hok hv)))
theorem MeetsH.mono {R' : List Nat → World → Ending → World → Prop} (h : MeetsH G P f τs Lin R) (hr : ∀ A W e W', R A W e W' → R' A W e W') : MeetsH G P f τs Lin R' := fun A W vs hG hA hnd hlt hok hv => (h A W vs hG hA hnd hlt hok hv).mono (hr A W)
end

/-- with a value, or with a panic -/
def PostE (X A0 : List Nat) (W0 : World) {δ β : Type} (r : β ⊕ Value) (ρ : β → VP) (Lo : δ → List Ent) : Ending → World → Prop :=
  match r with
  | .inl b => PostO X A0 W0 (fun _ => ρ b) Lo
  | .inr u => PostX X A0 W0 u Lo

section
variable {c : Cx} {E : List (Nat × VP)} {L : List Ent} {ops : Array Oper} {Q : Exit → Act → World → Prop}
variable {d : Option Tmp} {ty : TypeId} {pos : String} {af : Array Edge} {g : Option (Nat × Bool)} {x y : Operand} {t t2 : TypeId}
theorem To.pthen {y : Act → World → Prop} {ch : List PanicEntry} (h : To c Q (.panic ch) E L) : To c (Exit.then y Q) (.panic ch) E L := fun a W s => h a W s
theorem To.bpan {id : Nat} {ch : List PanicEntry} (h : To c Q (.panic ch) E L) : To c (Exit.inBlock id Q) (.panic ch) E L := fun a W s => h a W s
theorem St.call {a : Act} {W : World} {Lin Lr : List Ent} {f : FuncId} {τs : List VP} {xs : List Operand} {G : Gr} {R : List Nat → World → Ending → World → Prop} (s : St c E (Lin ++ Lr) a W) (hG : G.on c.X c.W0) (h : MeetsH G c.P f τs Lin R) (hx : HoldsAll (ks (Lin ++ Lr) ++ c.A0) W τs (xs.map a.eval)) :
    Calls c.P f (xs.map a.eval).toArray W (R (ks Lr ++ c.A0) W) := by
  have hnd0 := s.nodup
  rw [ks_append] at hnd0
  obtain ⟨hn1, hn2, hn3⟩ := List.nodup_append.1 hnd0
  have hset : Ext (ks (Lin ++ Lr) ++ c.A0) W (ks Lin ++ (ks Lr ++ c.A0)) W := .drop fun k hm => by
    rw [ks_append]
    simp only [List.mem_append] at hm ⊢
    rcases hm with hm | hm | hm
    · exact .inl (.inl hm)
    · exact .inl (.inr hm)
    · exact .inr hm
  have hA : ∀ k ∈ ks Lr ++ c.A0, k < W.heap.size ∧ k ∉ ks Lin := fun k hm => by
    rcases List.mem_append.1 hm with hm | hm
    · exact ⟨s.lt k (by rw [ks_append]; exact List.mem_append.2 (.inr hm)), fun h => hn3 k h k hm rfl⟩
    · obtain ⟨h1, h2⟩ := s.old k hm
      exact ⟨h1, fun h => h2 (by rw [ks_append]; exact List.mem_append.2 (.inl h))⟩
  exact h (ks Lr ++ c.A0) W _ ((hG.st s).sub fun k hk => by rw [ks_append]; exact List.mem_append.2 (.inl hk)) hA hn1 (fun k hm => s.lt k (by rw [ks_append]; exact List.mem_append.2 (.inl hm))) (fun e he => Ent.ok_mono (s.own e (List.mem_append.2 (.inl he))) hset fun _ _ => rfl) (hx.mono hset)
theorem opto_callH {a : Act} {W : World} {G : Gr} {f : FuncId} {xs : List Operand} {ats : Array TypeId} {τs : List VP} {Lin Lr : List Ent} {δ : Type} {ρ : δ → VP} {Lo : δ → List Ent} (en : En c.P f) (hG : G.on c.X c.W0) (h : MeetsH G c.P f τs Lin fun A W => PostO (ks Lin) A W ρ Lo)
    (s : St c E (Lin ++ Lr) a W) (hx : HoldsAll (ks (Lin ++ Lr) ++ c.A0) W τs (xs.map a.eval)) :
    OpTo c.P ⟨d, .call ⟨.value (.func f), xs.toArray, ats⟩, ty, pos, af, g⟩ a W fun v W' => ∃ dd, St c E (Lo dd ++ Lr) a W' ∧ (ρ dd).holds (ks (Lo dd ++ Lr) ++ c.A0) W' v := by
  refine .of_enter (f := f) (args := (xs.map a.eval).toArray) (W' := W) (by simp [execOp, resolve, Deferred.ofValue, Act.eval, invoke, en.run]) ?_
  refine (s.call hG h hx).mono fun e W' ⟨v, dd, he, hf, h1, h2, h3, h4⟩ => ?_
  refine ⟨v, he, dd, s.after hf h1 h2 h3, (ρ dd).mono (.drop fun k hm => ?_) h4⟩
  rw [ks_append] at hm
  simp only [List.mem_append] at hm ⊢
  rcases hm with (hm | hm) | hm
  · exact .inl hm
  · exact .inr (.inl hm)
  · exact .inr (.inr hm)
/-- a call in a world that G is about -/
theorem Sq.callH {rest : List Oper} {dd : Nat} {G : Gr} {f : FuncId} {xs : List Operand} {ats : Array TypeId} {τs : List VP} {Lin Lr : List Ent} {δ : Type} {ρ : δ → VP} {Lo : δ → List Ent} (hG : G.on c.X c.W0) (en : En c.P f) (h : MeetsH G c.P f τs Lin fun A W => PostO (ks Lin) A W ρ Lo)
    (hx : Looks c E (Lin ++ Lr) xs τs) (hn : Nat.blt dd c.n = true) (k : ∀ q, Sq c ops Q rest ((dd, ρ q) :: E) (Lo q ++ Lr)) :
    Sq c ops Q (⟨some dd, .call ⟨.value (.func f), xs.toArray, ats⟩, ty, pos, af, none⟩ :: rest) E (Lin ++ Lr) := fun a W s =>
  wpList_op rfl (opto_callH en hG h s (hx.holds a W s)) fun v W' ⟨q, s', hv⟩ => k q _ _ (s'.put (by simpa using hn) hv)
/-- .. that panics -/
theorem Sq.callHX {rest : List Oper} {G : Gr} {f : FuncId} {xs : List Operand} {ats : Array TypeId} {τs : List VP} {Lin Lr : List Ent} {u : Value} {δ : Type} {Lo : δ → List Ent} (hG : G.on c.X c.W0) (en : En c.P f) (h : MeetsH G c.P f τs Lin fun A W => PostX (ks Lin) A W u Lo)
    (hx : Looks c E (Lin ++ Lr) xs τs) (k : ∀ q, To c Q (.panic [{ v := u, recovered := false }]) E (Lo q ++ Lr)) :
    Sq c ops Q (⟨d, .call ⟨.value (.func f), xs.toArray, ats⟩, ty, pos, af, none⟩ :: rest) E (Lin ++ Lr) := fun a W s => wpListIn_plain rfl fun K hK => by
  refine ⟨fun _ _ => trivial, ?_⟩
  have h1 : (Oper.semAt c.F.round a.eval ⟨d, .call ⟨.value (.func f), xs.toArray, ats⟩, ty, pos, af, none⟩).run c.P W = .ok (.enter f (xs.map a.eval).toArray) W := by
    rw [Oper.semAt_eq _ _ _ (by intro c h; cases h)]
    simp [execOp, resolve, Deferred.ofValue, Act.eval, invoke, en.run]
  rw [h1]
  refine ⟨fun h => by simp at h, CallsIn.ofCalls ?_⟩
  refine (s.call hG h (hx.holds a W s)).mono fun e W' ⟨q, he, hf, h1, h2, h3⟩ => ?_
  subst he
  exact k q a W' (s.after hf h1 h2 h3)
/-- a call of the library's own that touches nothing of ours -/
def MeetsL (G : Gr) (P : Program) (f : FuncId) (τs : List VP) (ρ : VP) : Prop := ∀ (A : List Nat) (W : World) (vs : List Value), G.is W → (∀ k ∈ A, k < W.heap.size) → HoldsAll A W τs vs →
    Calls P f vs.toArray W fun e W' => ∃ v, e = .returned v ∧ Fr [] W W' ∧ ρ.holds A W' v
theorem MeetsL.of {G : Gr} {P : Program} {f : FuncId} {fn : Func} {code : Code} {n : Nat} {τs : List VP} {ρ : VP} (hf : P.funcs[f]? = some fn) (hb : fn.body = some code) (hn : fn.ntmps = n) (hlen : Nat.ble τs.length n = true)
    (h : ∀ W A, G.on [] W → Wp ⟨P, n, W, [], A, none, []⟩ (bodyPost P fn (Post ⟨P, n, W, [], A, none, []⟩ ρ)) code (params 0 τs) []) : MeetsL G P f τs ρ := fun A W vs hG hA hv =>
  calls_of_wp hf hb (wpIn_wide.1 (h W A ⟨hG, fun k hk => by simp⟩ _ _ (MeetsH.st (Lin := []) (a := ⟨#[], []⟩) hn hlen (fun k hk => ⟨hA k hk, by simp [ks]⟩) .nil (fun k hk => by cases hk) (fun e he => by cases he) hv)))
theorem r_callG {G : Gr} {f : FuncId} {xs : List Operand} {ats : Array TypeId} {τs : List VP} {ρ : VP} (hG : G.on c.X c.W0) (en : En c.P f) (h : MeetsL G c.P f τs ρ) (hx : Looks c E L xs τs) :
    HR c E L ⟨d, .call ⟨.value (.func f), xs.toArray, ats⟩, ty, pos, af, g⟩ ρ := fun a W s => by
  refine .of_enter (f := f) (args := (xs.map a.eval).toArray) (W' := W) (by simp [execOp, resolve, Deferred.ofValue, Act.eval, invoke, en.run]) ?_
  exact h _ W _ (hG.fr s.fr).1 s.all_lt (hx.holds a W s)
theorem MeetsH.flat {G : Gr} {P : Program} {f : FuncId} {τs : List VP} {δ : Type} {ρ : δ → VP} {Lo : δ → List Ent} {σ : VP} (h : MeetsH G P f τs [] fun A W => PostO [] A W ρ Lo) (hs : ∀ d, ρ d = σ) : MeetsL G P f τs σ := fun A W vs hG hA hv =>
  (h A W vs ⟨hG, fun k hm => by simp [ks]⟩ (fun k hk => ⟨hA k hk, fun h => by cases h⟩) .nil (fun k hk => by cases hk) (fun e he => by cases he) hv).mono fun e W' ⟨v, d, he, hf, _, _, _, h4⟩ => ⟨v, he, hf, by
    rw [hs d] at h4
    exact VP.mono _ (.drop fun k hm => List.mem_append.2 (.inr hm)) h4⟩
/-- an interface value that is nil or is not -/
def VP.nilq (b : Bool) : VP where
  holds _ _ v := if b = true then v = .nilIface else ∃ t u, v = .iface t u
  mono _ h := h
/-- the bytes of a string in a row of their own -/
theorem bytesWorld_alloc (W : World) (e : TypeId) (s0 : ByteArray) : Lib.bytesWorld W e s0 = W.drew.alloc (.cells (Lib.bytesCells W e s0) e ((Lib.bytesCells W e s0).size, (Lib.bytesCells W e s0).size + 1)) := by
  have ext : ∀ a b : World, a.heap = b.heap → a.tape = b.tape → a.drawn = b.drawn → a.os = b.os → a.output = b.output → a = b := by
    rintro ⟨⟩ ⟨⟩ h1 h2 h3 h4 h5
    simp only at h1 h2 h3 h4 h5
    subst h1 h2 h3 h4 h5
    rfl
  refine ext _ _ (Array.ext_getElem? fun i => ?_) rfl rfl rfl rfl
  rcases Nat.lt_trichotomy i W.heap.size with h | h | h
  · rw [Lib.bytesWorld_at_old W e s0 i h]; exact (ha_old W.drew _ i h).symm
  · subst h; rw [Lib.bytesWorld_at_new W e s0]; exact (ha_new W.drew _).symm
  · rw [Array.getElem?_eq_none (by rw [Lib.bytesWorld_size]; omega), Array.getElem?_eq_none (by show (W.heap.push _).size ≤ i; rw [Array.size_push]; omega)]
theorem Sq.s2bO {rest : List Oper} {dd e : Nat} {s0 : ByteArray} {r : List (BitVec 8)} (hu : c.P.underlying t = some .string) (hd : c.P.underlying t2 = some (.slice e)) (he : c.P.underlying e = some (.int .u8)) (hx : Look c E L x (.of s0)) (h : strB s0 = some r) (hN : Nat.blt dd c.n = true)
    (k : ∀ p cap, Sq c ops Q rest ((dd, .eq (slv p r.length cap)) :: E) (⟨p, .row e r cap⟩ :: L)) : Sq c ops Q (⟨some dd, .convert t t2 x, ty, pos, af, none⟩ :: rest) E L := fun a W s => by
  unfold strB at h
  split at h
  case isFalse => cases h
  rename_i hn
  cases h
  refine wpList_op rfl (R := fun v W' => v = .slice (some ⟨W.heap.size, 0, none⟩) s0.size (grownCap W s0.size 0 e) ∧ W' = Lib.bytesWorld W e s0) (.of_run ?_ ⟨rfl, rfl⟩) fun v W' ⟨h1, h2⟩ => ?_
  · have h1 := Lib.run_convert_string_bytes W t t2 e s0 hu hd he
    simp [execOp, of_str.1 (hx a W s), h1]
  · subst h1 h2
    rw [bytesWorld_alloc]
    have hl : (bytesOf s0).length = s0.size := by simp [bytesOf]
    have hg := grownCap_ge W s0.size 0 e
    have hm := grownCap_le_maxLen W s0.size 0 e hn
    have hcs : (Lib.bytesCells W e s0).size = grownCap W s0.size 0 e := by simp [Lib.bytesCells]; omega
    have s' := (s.world (Fr.drew W)).alloc (o := .cells (Lib.bytesCells W e s0) e ((Lib.bytesCells W e s0).size, (Lib.bytesCells W e s0).size + 1)) (cp := .row e (bytesOf s0) (grownCap W s0.size 0 e)) ⟨_, ⟨_, .inr (Nat.le_refl _), rfl⟩, by rw [hcs]; show _ = _ * 1; omega, by omega, hm, by
      have e1 : (Lib.bytesCells W e s0).toList.take ((bytesOf s0).length * Rp.size (BitVec 8)) = s0.data.toList.map fun b => Value.int .u8 b.toNat := by
        rw [hl]
        show (Lib.bytesCells W e s0).toList.take (s0.size * 1) = _
        simp only [Lib.bytesCells]
        rw [Array.toList_append, List.take_left' (by simp)]
        simp
      rw [e1]
      refine ⟨by rw [hl]; show _ = s0.size * 1; simp, fun i hi => ?_⟩
      have hi' : i < s0.data.toList.length := by rw [hl] at hi; simpa using hi
      have e2 : ((s0.data.toList.map fun b => Value.int .u8 b.toNat).drop (i * 1)).take 1 = [Value.int .u8 ((bytesOf s0)[i].toNat : Int)] := by
        rw [Nat.mul_one, List.drop_eq_getElem_cons (by simpa using hi'), List.take_succ_cons, List.take_zero]
        have hlt : s0.data.toList[i].toNat < 256 := s0.data.toList[i].toNat_lt
        simp [bytesOf, BitVec.toNat_ofNat, Nat.mod_eq_of_lt hlt]
      show Rp.rep _ _ (((s0.data.toList.map fun b => Value.int .u8 b.toNat).drop (i * 1)).take 1) _
      rw [e2]
      exact (of_u8 (A := ks L ++ c.A0) (W := W.drew) (v := .int .u8 ((bytesOf s0)[i].toNat : Int)) (x := (bytesOf s0)[i])).1 |> fun _ => (of_u8.2 rfl).2⟩
    refine k (some W.heap.size) _ _ _ (s'.put (τ := .eq (slv (some W.heap.size) (bytesOf s0).length (grownCap W s0.size 0 e))) (by simpa using hN) ?_)
    show _ = _
    rw [hl]; rfl
end
end Gv

