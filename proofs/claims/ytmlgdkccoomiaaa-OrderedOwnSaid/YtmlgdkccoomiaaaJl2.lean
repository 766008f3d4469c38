/-
  The library of the decompiler, as far as it is needed here. Conditions: none.
-/
import Derived.Test.YtmlgdkccoomiaaaJl1
namespace Gv
open Go
set_option linter.unusedVariables false
set_option linter.unusedSimpArgs false

/-! ### What is known of the program's tables, to be found by its numbers -/
class Kf (P : Program) (s f : Nat) {β γ : outParam Type} [ib : Rp β] [ig : Rp γ] (l : outParam (Lens β γ)) : Prop where
  fd : FdA P s f l.off
class Ks (P : Program) (t : TypeId) (e : outParam TypeId) (α : outParam Type) [ia : Rp α] : Prop where
  hu : P.underlying t = some (.slice e)
  te : Ty P e α
class Kq (P : Program) (t : TypeId) (α : Type) [Rp α] [DecidableEq α] (k : outParam Nat) : Prop where
  ev : Eqv P t α k
  gd : P.eqGuardType P.depth t = false
  hn : Nat.ble k 10000 = true
class Ku (P : Program) (t : TypeId) (d : outParam TypeDesc) : Prop where
  hu : P.underlying t = some d
class Kv (P : Program) (s f : Nat) (t : outParam Nat) {β γ : outParam Type} [ib : Rp β] [ig : Rp γ] (l : outParam (Lens β γ)) : Prop where
  fv : Fv P s f t l.off
/-- contracts -/
class K0 (P : Program) (f : FuncId) (ρ : outParam Type) (L : outParam (Option ρ)) (π : outParam (ρ → VP)) : Prop where
  en : En P f
  m : ∀ r, L = some r → Meets P f [] (π r)
class K1 (P : Program) (f : FuncId) (α ρ : outParam Type) (L : outParam (α → Option ρ)) (τ : outParam (α → VP)) (π : outParam (ρ → VP)) : Prop where
  en : En P f
  m : ∀ x r, L x = some r → Meets P f [τ x] (π r)
class K2 (P : Program) (f : FuncId) (α β ρ : outParam Type) (L : outParam (α → β → Option ρ)) (τ : outParam (α → VP)) (σ : outParam (β → VP)) (π : outParam (ρ → VP)) : Prop where
  en : En P f
  m : ∀ x y r, L x y = some r → Meets P f [τ x, σ y] (π r)
class K3 (P : Program) (f : FuncId) (α β γ ρ : outParam Type) (L : outParam (α → β → γ → Option ρ)) (τ : outParam (α → VP)) (σ : outParam (β → VP)) (υ : outParam (γ → VP)) (π : outParam (ρ → VP)) : Prop where
  en : En P f
  m : ∀ x y z r, L x y z = some r → Meets P f [τ x, σ y, υ z] (π r)

theorem K1.i {P : Program} {f : FuncId} {α ρ : Type} {L : α → Option ρ} {τ : α → VP} {π : ρ → VP} {fn : Func} {code : Code} {n : Nat} (hf : P.funcs[f]? = some fn) (hb : fn.body = some code) (hn : fn.ntmps = n) (hl : Nat.ble 1 n = true)
    (h : ∀ x r, L x = some r → ∀ W A, Wp ⟨P, n, W, [], A, none, []⟩ (bodyPost P fn (Post ⟨P, n, W, [], A, none, []⟩ (π r))) code (params 0 [τ x]) []) (hm : (fn.name == "runtime.NumGoroutine") = false := by kernel_rfl) : K1 P f α ρ L τ π :=
  ⟨⟨fn, hf, by rw [hb]; rfl, hm⟩, fun x r e => .of hf hb hn hl (h x r e)⟩
theorem K2.i {P : Program} {f : FuncId} {α β ρ : Type} {L : α → β → Option ρ} {τ : α → VP} {σ : β → VP} {π : ρ → VP} {fn : Func} {code : Code} {n : Nat} (hf : P.funcs[f]? = some fn) (hb : fn.body = some code) (hn : fn.ntmps = n) (hl : Nat.ble 2 n = true)
    (h : ∀ x y r, L x y = some r → ∀ W A, Wp ⟨P, n, W, [], A, none, []⟩ (bodyPost P fn (Post ⟨P, n, W, [], A, none, []⟩ (π r))) code (params 0 [τ x, σ y]) []) (hm : (fn.name == "runtime.NumGoroutine") = false := by kernel_rfl) : K2 P f α β ρ L τ σ π :=
  ⟨⟨fn, hf, by rw [hb]; rfl, hm⟩, fun x y r e => .of hf hb hn hl (h x y r e)⟩
theorem K3.i {P : Program} {f : FuncId} {α β γ ρ : Type} {L : α → β → γ → Option ρ} {τ : α → VP} {σ : β → VP} {υ : γ → VP} {π : ρ → VP} {fn : Func} {code : Code} {n : Nat} (hf : P.funcs[f]? = some fn) (hb : fn.body = some code) (hn : fn.ntmps = n) (hl : Nat.ble 3 n = true)
    (h : ∀ x y z r, L x y z = some r → ∀ W A, Wp ⟨P, n, W, [], A, none, []⟩ (bodyPost P fn (Post ⟨P, n, W, [], A, none, []⟩ (π r))) code (params 0 [τ x, σ y, υ z]) []) (hm : (fn.name == "runtime.NumGoroutine") = false := by kernel_rfl) : K3 P f α β γ ρ L τ σ υ π :=
  ⟨⟨fn, hf, by rw [hb]; rfl, hm⟩, fun x y z r e => .of hf hb hn hl (h x y z r e)⟩
/-! ### What contracts of functions with a pool say -/
section
variable (P : Program) (f : FuncId) (τs : List VP) {κ : Type} [Cl κ] (hp : Pool κ)
/-- changes a variable -/
abbrev MV (p : Nat) {α : Type} [Rp α] (x : α) (ρ : VP) (y : α) : Prop := MeetsO P f τs [vr p x] (δ := Unit) (fun _ => ρ) (fun _ => [vr p y])
end
theorem lvc {q : Prop} {u : Value} (hb : q) : ∀ A W v, (VP.cond q (.eq u)).holds A W v → v = u := fun _ _ _ h => h.1 hb
abbrev VP.lp (p : Nat) {β γ : Type} [Rp β] [Rp γ] (l : Lens β γ) : VP := .eq (.pointer (some ⟨p, l.off, none⟩))

/-- a residue: so that no other step takes it for its own -/
structure Kw (p : Prop) : Prop where
  k : p
theorem ki {p q : Prop} (a : p) (b : q) : p ∧ q := ⟨a, b⟩
theorem kn : True := trivial
/-- entry j of a list -/
inductive At : List Ent → Nat → Ent → Prop
  | z {e r} : At (e :: r) 0 e
  | s {e f r j} : At r j e → At (f :: r) (j + 1) e
theorem At.get : ∀ {L j e}, At L j e → L[j]? = some e
  | _, _, _, .z => rfl
  | _, _, _, .s h => by simpa using h.get
theorem At.g {L : List Ent} {j : Nat} {e : Ent} (h : At L j e := by repeat (first | exact At.z | apply At.s)) : L[j]? = some e := h.get
/-- a list with one entry changed -/
inductive Up : List Ent → Ent → Ent → List Ent → Prop
  | z {e f r} : Up (e :: r) e f (f :: r)
  | s {e f g r s} : Up r e f s → Up (g :: r) e f (g :: s)
theorem Up.get : ∀ {L e f M}, Up L e f M → ∃ j, L[j]? = some e ∧ L.set j f = M
  | _, _, _, _, .z => ⟨0, rfl, rfl⟩
  | _, _, _, _, .s h => let ⟨j, h1, h2⟩ := h.get; ⟨j + 1, by simpa using h1, by simp [h2]⟩

/-- the pool behind the own entries -/
inductive Dn {κ : Type} [Cl κ] : List Ent → Pool κ → Prop
  | z {hp} : Dn (Ents hp) hp
  | s {e r hp} : Dn r hp → Dn (e :: r) hp
theorem Dn.get {κ : Type} [Cl κ] {L : List Ent} {hp : Pool κ} (h : Dn L hp) : ∃ n, L.drop n = Ents hp := by
  induction h with
  | z => exact ⟨0, rfl⟩
  | s _ ih => exact ⟨ih.choose + 1, ih.choose_spec⟩
/-- blocks of a pool that hold one value -/
class Pv (β : Type) [Rp β] {κ : outParam Type} [Cl κ] (rd : outParam (Pool κ → Nat → Option β)) : Prop where
  ok : ∀ {hp p x}, rd hp p = some x → ∃ k, pat hp p = some k ∧ Cl.ents p k = [⟨some p, .var x⟩]
class Kx (P : Program) : Prop where
  m : P.follows .mixedOrders = true
section
variable {c : Cx} {E : List (Nat × VP)} {L L' : List Ent} {ops : Array Oper} {Q : Exit → Act → World → Prop} {rest : List Oper} {o : Oper} {d : Option Tmp} {dd : Nat}
variable {ty : TypeId} {pos : String} {af : Array Edge} {g : Option (Nat × Bool)} {x y : Operand} {t t2 : TypeId}

theorem fact {p : Prop} (h : p := by first | with_reducible assumption | (apply condM_some (hb := hb); with_reducible assumption)) : p := h
theorem look_u64k (k : Nat) (h : Nat.blt k 18446744073709551616 = true := by rfl) : Look c E L (.const (.int .u64 (Int.ofNat k))) (.of (BitVec.ofNat 64 k)) := look_u64 _ (by simp [Nat.blt] at h ⊢; omega)
theorem lk {σ : VP} (h : Look c E L x σ := by first | exact look_tc rfl hb | exact look_tc rfl hb.1 | exact look_t rfl | exact look_int _ | exact look_bool _ | exact look_str _ | exact look_u64k _ | exact look_tc (hE _ _ rfl) hb | exact look_tc (hE _ _ rfl) hb.1 | exact look_t (hE _ _ rfl)) : Look c E L x σ := h

/-! ### One operation that yields a value -/

theorem w1 {σ τ : VP} (h : Look c E L x σ → HR c E L o τ) (hx : Look c E L x σ := by exact lk) : HR c E L o τ := h hx
theorem w2 {σ σ2 τ : VP} (h : Look c E L x σ → Look c E L y σ2 → HR c E L o τ) (hx : Look c E L x σ := by exact lk) (hy : Look c E L y σ2 := by exact lk) : HR c E L o τ := h hx hy
theorem w_ext {i : Nat} {τs : List VP} {τ : VP} (hx : Look c E L x (.tup τs) := by exact lk) (hi : τs[i]? = some τ := by rfl) : HR c E L ⟨d, .extract x i, ty, pos, af, g⟩ τ := r_ext hx hi
theorem w_lp {p j : Nat} {β γ : Type} [Rp β] [Rp γ] {b : β} {l : Lens β γ} [k : Ty c.P t γ] (hx : Look c E L x (.lp p l) := by exact lk) (hL : L[j]? = some ⟨some p, .var b⟩ := by first | exact At.g | exact hL _ _ At.g rfl) : HR c E L ⟨d, .load t x, ty, pos, af, g⟩ (.of (l.get b)) :=
  r_load l k hx hL rfl rfl
theorem w_l0 {p j : Nat} {β : Type} [Rp β] {b : β} [k : Ty c.P t β] (hx : Look c E L x (.pb p) := by exact lk) (hL : L[j]? = some ⟨some p, .var b⟩ := by first | exact At.g | exact hL _ _ At.g rfl) : HR c E L ⟨d, .load t x, ty, pos, af, g⟩ (.of b) :=
  r_load (Lens.id β) k hx hL rfl rfl
theorem pm {κ β : Type} [Rp β] [Cl κ] {rd : Pool κ → Nat → Option β} {hp : Pool κ} {p : Nat} {b : β} [k : Pv β rd] (hd : Dn L hp := by repeat (first | exact Dn.z | apply Dn.s)) (hc : rd hp p = some b := by exact fact) : (⟨some p, .var b⟩ : Ent) ∈ L := by
  obtain ⟨n, h1⟩ := hd.get
  obtain ⟨q, h2, h3⟩ := k.ok hc
  exact pmem h1 h2 h3
/-- cells of a struct and the row behind one of its fields -/
class Px (β : Type) [Rp β] {κ ξ : outParam Type} [Cl κ] (rd : outParam (Pool κ → Nat → Option ξ)) (q : outParam (ξ → β)) (os : outParam (ξ → List (Nat × Value))) : Prop where
  ok : ∀ {hp p x}, rd hp p = some x → ∃ k es, pat hp p = some k ∧ Cl.ents p k = ⟨some p, .varX (q x) (os x)⟩ :: es
theorem px {κ ξ β : Type} [Rp β] [Cl κ] {rd : Pool κ → Nat → Option ξ} {q : ξ → β} {os : ξ → List (Nat × Value)} {hp : Pool κ} {p : Nat} {x : ξ} [k : Px β rd q os] (hd : Dn L hp := by repeat (first | exact Dn.z | apply Dn.s)) (hc : rd hp p = some x := by exact fact) : (⟨some p, .varX (q x) (os x)⟩ : Ent) ∈ L := by
  obtain ⟨n, h1⟩ := hd.get
  obtain ⟨_, _, h2, h3⟩ := k.ok hc
  exact pmem1 h1 h2 h3
theorem pP {e : Ent} {np : Nat} (hP : L'.drop np = L.drop np) (h : e ∈ L.drop np) : e ∈ L' := List.mem_of_mem_drop (hP ▸ h)
theorem w_lx {p : Nat} {β γ : Type} [Rp β] [Rp γ] {b : β} {os : List (Nat × Value)} {l : Lens β γ} [k : Ty c.P t γ] (hx : Look c E L x (.lp p l) := by exact lk) (hm : (⟨some p, .varX b os⟩ : Ent) ∈ L := by first | exact pP hP px | exact dmem (fun i e q => hL i e q rfl) px | exact px) (ha : apartB os l.off (Rp.size γ) = true := by rfl) : HR c E L ⟨d, .load t x, ty, pos, af, g⟩ (.of (l.get b)) :=
  r_loadMX l k hx hm rfl rfl ha
theorem w_lm {p : Nat} {β γ : Type} [Rp β] [Rp γ] {b : β} {l : Lens β γ} [k : Ty c.P t γ] (hx : Look c E L x (.lp p l) := by exact lk) (hm : (⟨some p, .var b⟩ : Ent) ∈ L := by first | exact pP hP pm | exact dmem (fun i e q => hL i e q rfl) pm | exact pm) : HR c E L ⟨d, .load t x, ty, pos, af, g⟩ (.of (l.get b)) :=
  r_loadM l k hx hm rfl rfl
theorem w_nr {r : Ref} {a : Nat} (hx : Look c E L x (.of r) := by exact lk) (hr : r = some a := by first | with_reducible rfl | exact fact) : HR c E L ⟨d, .nilCheck x, ty, pos, af, g⟩ (.pb a) := r_nck (look_ref hx hr)
theorem w_rn {r : Ref} {e : TypeId} [k : Ku c.P t (.pointer e)] (hx : Look c E L x (.of r) := by exact lk) : HR c E L ⟨d, .binOp .eql t x (.const (.pointer none)) t2, ty, pos, af, g⟩ (.of r.isNone) := r_refnil k.hu hx
theorem w_rs {r : Ref} {e : TypeId} [k : Ku c.P t (.pointer e)] (hx : Look c E L x (.of r) := by exact lk) : HR c E L ⟨d, .binOp .neq t x (.const (.pointer none)) t2, ty, pos, af, g⟩ (.of r.isSome) := r_refnnil k.hu hx
theorem w_ptr {γ : Type} [Rp γ] {r : γ} [k : Ty c.P t γ] (hx : Look c E L x (.ptr r) := by exact lk) : HR c E L ⟨d, .load t x, ty, pos, af, g⟩ (.of r) := r_loadp k hx
theorem w_fp {s f : Nat} {β γ : Type} [ib : Rp β] [ig : Rp γ] {b : β} {l : Lens β γ} [k : Kf c.P s f l] (hx : Look c E L x (.ptr b) := by exact lk) : HR c E L ⟨d, .fieldAddr s x f, ty, pos, af, g⟩ (.ptr (l.get b)) := r_fap l k.fd hx rfl rfl
theorem w_fl {s f p : Nat} {α β γ : Type} [Rp α] [ib : Rp β] [ig : Rp γ] {m : Lens α β} {l : Lens β γ} [k : Kf c.P s f l] (hx : Look c E L x (.lp p m) := by exact lk) : HR c E L ⟨d, .fieldAddr s x f, ty, pos, af, g⟩ (.lp p (m.comp l)) := r_fa k.fd hx
theorem w_f0 {s f p : Nat} {β γ : Type} [ib : Rp β] [ig : Rp γ] {l : Lens β γ} [k : Kf c.P s f l] (hx : Look c E L x (.pb p) := by exact lk) : HR c E L ⟨d, .fieldAddr s x f, ty, pos, af, g⟩ (.lp p l) := by
  have := r_fa (d := d) (ty := ty) (pos := pos) (af := af) (g := g) k.fd hx
  rwa [Nat.zero_add] at this
theorem w_ix {α : Type} [ia : Rp α] [Inhabited α] {xs : List α} {e : TypeId} {i : Int} {j : Nat} [k : Ks c.P t e α] (hx : Look c E L x (.of xs) := by exact lk) (hy : Look c E L y (.of i) := by exact lk) (hk : idx xs.length i = some j := by exact fact) :
    HR c E L ⟨d, .indexAddr t x y, ty, pos, af, g⟩ (.ptr (lget xs j)) := r_ias k.hu k.te hx hy (idx_some hk)
theorem w_len {α : Type} [ia : Rp α] {xs : List α} {e : TypeId} [k : Ks c.P t e α] (hx : Look c E L x (.of xs) := by exact lk) : HR c E L ⟨d, .call ⟨.builtin .len, #[x], #[t]⟩, ty, pos, af, g⟩ (.of (xs.length : Int)) := r_len k.hu hx
theorem w_lens {s0 : ByteArray} [k : Ku c.P t .string] (hx : Look c E L x (.of s0) := by exact lk) : HR c E L ⟨d, .call ⟨.builtin .len, #[x], #[t]⟩, ty, pos, af, g⟩ (.of (s0.size : Int)) := r_lens k.hu hx
theorem w_or {b e : Bool} {p : Prop} (hx : Look c E L x (.of b) := by exact lk) (hy : Look c E L y (.cond p (.of e)) := by first | exact look_t rfl | exact look_t (hE _ _ rfl)) (hp : b = false → p := by exact fun h => h) : HR c E L ⟨d, .pick x (.const (.bool true)) y, ty, pos, af, g⟩ (.of (b || e)) := r_or hx hy hp
theorem w_and {b e : Bool} {p : Prop} (hx : Look c E L x (.of b) := by exact lk) (hy : Look c E L y (.cond p (.of e)) := by first | exact look_t rfl | exact look_t (hE _ _ rfl)) (hp : b = true → p := by exact fun h => h) : HR c E L ⟨d, .pick x y (.const (.bool false)), ty, pos, af, g⟩ (.of (b && e)) := r_and hx hy hp
theorem w_eqA {α : Type} [Rp α] [DecidableEq α] {n : Nat} {a b : α} [k : Kq c.P t α n] (hx : Look c E L x (.of a) := by exact lk) (hy : Look c E L y (.of b) := by exact lk) (ha : Rp.agg α = true := by rfl) :
    HR c E L ⟨d, .binOp .eql t x y t2, ty, pos, af, g⟩ (.of (decide (a = b))) := r_eqA k.ev k.hn k.gd ha hx hy
theorem w_neA {α : Type} [Rp α] [DecidableEq α] {n : Nat} {a b : α} [k : Kq c.P t α n] (hx : Look c E L x (.of a) := by exact lk) (hy : Look c E L y (.of b) := by exact lk) (ha : Rp.agg α = true := by rfl) :
    HR c E L ⟨d, .binOp .neq t x y t2, ty, pos, af, g⟩ (.of (!decide (a = b))) := r_neA k.ev k.hn k.gd ha hx hy
inductive FillsW (c : Cx) (E : List (Nat × VP)) (L : List Ent) (t : TypeId) (place : Nat → Option (Nat × Nat)) {β : Type} [ib : Rp β] : β → List (Nat × Operand) → β → Prop
  | nil {b} : FillsW c E L t place b [] b
  | cons {b b' : β} {γ : Type} [ig : Rp γ] {v : γ} {i : Nat} {x : Operand} {r : List (Nat × Operand)} {l : Lens β γ} [k : Kf c.P t i l] : place i = some (l.off, Rp.size γ) → Look c E L x (.of v) → FillsW c E L t place (l.set b v) r b' → FillsW c E L t place b ((i, x) :: r) b'
theorem FillsW.f {place : Nat → Option (Nat × Nat)} {β : Type} [ib : Rp β] {b b' : β} {r : List (Nat × Operand)} (h : FillsW c E L t place b r b') : Fills c E L place b r b' := by
  induction h with
  | nil => exact .nil
  | cons h1 h2 _ ih => exact .cons _ h1 h2 rfl ih
theorem w_bd {β : Type} [ib : Rp β] {z b : β} {ps : List (Nat × Operand)} {pl : Array (Nat × Nat)} [k1 : Bu c.P t pl] [k2 : Zr c.P t z] (hf : FillsW c E L t (pl[·]?) z ps b := by repeat (first | exact FillsW.nil | (apply FillsW.cons; rfl; first | exact lk | exact look_nil))) (ha : Rp.agg β = true := by rfl) :
    HR c E L ⟨d, .build t ps.toArray, ty, pos, af, g⟩ (.of b) := r_build ha k1 k2 hf.f
inductive SetL {α : Type} : List α → Nat → α → List α → Prop
  | z {x v r} : SetL (x :: r) 0 v (v :: r)
  | s {x v r s i} : SetL r i v s → SetL (x :: r) (i + 1) v (x :: s)
theorem SetL.ok {α : Type} {b c : List α} {i : Nat} {v : α} (h : SetL b i v c) : i < b.length ∧ b.set i v = c := by
  induction h with
  | z => simp
  | s _ ih => exact ⟨by simp only [List.length_cons]; omega, by simp [ih.2]⟩
inductive FillsN (c : Cx) (E : List (Nat × VP)) (L : List Ent) {α : Type} [Rp α] : List α → List (Nat × Operand) → List α → Prop
  | nil {b} : FillsN c E L b [] b
  | cons {b b1 b' : List α} {v : α} {i : Nat} {x : Operand} {r : List (Nat × Operand)} : Look c E L x (.of v) → SetL b i v b1 → FillsN c E L b1 r b' → FillsN c E L b ((i, x) :: r) b'
theorem FillsN.f {α : Type} [Rp α] {b b' : List α} {r : List (Nat × Operand)} (h : FillsN c E L b r b') : FillsL c E L b r b' := by
  induction h with
  | nil => exact .nil
  | cons h1 h2 _ ih => obtain ⟨h3, rfl⟩ := h2.ok; exact .cons h3 h1 ih
inductive RepN {α : Type} (z : α) : Nat → List α → Prop
  | z : RepN z 0 []
  | s {n l} : RepN z n l → RepN z (n + 1) (z :: l)
theorem RepN.ok {α : Type} {z : α} {n : Nat} {l : List α} (h : RepN z n l) : List.replicate n z = l := by
  induction h with
  | z => rfl
  | s _ ih => rw [List.replicate_succ, ih]
theorem w_bl {α : Type} [ia : Rp α] {e n : Nat} {z : α} {ps : List (Nat × Operand)} {l r : List α} [k1 : Ks c.P t e α] [k2 : Zr c.P e z] (hz : RepN z n l := by repeat (first | exact RepN.z | apply RepN.s))
    (hf : FillsN c E L l ps r := by repeat (first | exact FillsN.nil | (apply FillsN.cons; (first | exact lk | exact look_nil); (repeat (first | exact SetL.z | apply SetL.s))))) (hs : Nat.beq (Rp.size α) 0 = false := by rfl) (hn' : Nat.ble (n * Rp.size α) 16777216 = true := by rfl) :
    HR c E L ⟨d, .buildSlice t n ps.toArray, ty, pos, af, g⟩ (.of r) := r_bsl k1.hu k1.te k2 hs hn' (hz.ok ▸ hf.f)
theorem w_c0 {f : FuncId} {ats : Array TypeId} {ρ : Type} {L_ : Option ρ} {π : ρ → VP} [k : K0 c.P f ρ L_ π] {r : ρ} (h : L_ = some r := by exact fact) : HR c E L ⟨d, .call ⟨.value (.func f), [].toArray, ats⟩, ty, pos, af, g⟩ (π r) := r_call k.en (k.m _ h) trivial
theorem w_c1 {f : FuncId} {ats : Array TypeId} {α ρ : Type} {L_ : α → Option ρ} {τ : α → VP} {π : ρ → VP} [k : K1 c.P f α ρ L_ τ π] {a : α} {r : ρ} (h1 : Look c E L x (τ a) := by exact lk) (h : L_ a = some r := by exact fact) :
    HR c E L ⟨d, .call ⟨.value (.func f), [x].toArray, ats⟩, ty, pos, af, g⟩ (π r) := r_call k.en (k.m _ _ h) ⟨h1, trivial⟩
theorem w_c2 {f : FuncId} {ats : Array TypeId} {α β ρ : Type} {L_ : α → β → Option ρ} {τ : α → VP} {σ : β → VP} {π : ρ → VP} [k : K2 c.P f α β ρ L_ τ σ π] {a : α} {b : β} {r : ρ} (h1 : Look c E L x (τ a) := by exact lk) (h2 : Look c E L y (σ b) := by exact lk) (h : L_ a b = some r := by exact fact) :
    HR c E L ⟨d, .call ⟨.value (.func f), [x, y].toArray, ats⟩, ty, pos, af, g⟩ (π r) := r_call k.en (k.m _ _ _ h) ⟨h1, h2, trivial⟩
theorem w_c3 {f : FuncId} {ats : Array TypeId} {α β γ ρ : Type} {L_ : α → β → γ → Option ρ} {τ : α → VP} {σ : β → VP} {υ : γ → VP} {π : ρ → VP} {x3 : Operand} [k : K3 c.P f α β γ ρ L_ τ σ υ π] {a : α} {b : β} {e : γ} {r : ρ} (h1 : Look c E L x (τ a) := by exact lk) (h2 : Look c E L y (σ b) := by exact lk) (h3 : Look c E L x3 (υ e) := by exact lk) (h : L_ a b e = some r := by exact fact) :
    HR c E L ⟨d, .call ⟨.value (.func f), [x, y, x3].toArray, ats⟩, ty, pos, af, g⟩ (π r) := r_call k.en (k.m _ _ _ _ h) ⟨h1, h2, h3, trivial⟩
theorem w_cv {src dst : TypeId} {e r : TypeDesc} {σ τ : VP} [k1 : Ku c.P src e] [k2 : Ku c.P dst r] (h : c.P.underlying src = some e → c.P.underlying dst = some r → Look c E L x σ → HR c E L ⟨d, .convert src dst x, ty, pos, af, g⟩ τ) (hx : Look c E L x σ := by exact lk) :
    HR c E L ⟨d, .convert src dst x, ty, pos, af, g⟩ τ := h k1.hu k2.hu hx
theorem w_2u {r : TypeDesc} {σ σ2 τ : VP} [k1 : Ku c.P t r] (h : c.P.underlying t = some r → Look c E L x σ → Look c E L y σ2 → HR c E L o τ) (hx : Look c E L x σ := by exact lk) (hy : Look c E L y σ2 := by exact lk) : HR c E L o τ := h k1.hu hx hy
theorem w_quo {a b r : Int} (hx : Look c E L x (.of a) := by exact lk) (hy : Look c E L y (.of b) := by exact lk) (hk : divM a b = some r := by exact fact) : HR c E L ⟨d, .binOp .quo t x y t2, ty, pos, af, g⟩ (.of r) := r_quo hx hy (divM_some hk)
theorem w_rem {a b r : Int} (hx : Look c E L x (.of a) := by exact lk) (hy : Look c E L y (.of b) := by exact lk) (hk : modM a b = some r := by exact fact) : HR c E L ⟨d, .binOp .rem t x y t2, ty, pos, af, g⟩ (.of r) := r_rem hx hy (modM_some hk)
theorem w_shl {a : BitVec 64} {b : Int} {n : Nat} (hx : Look c E L x (.of a) := by exact lk) (hy : Look c E L y (.of b) := by exact lk) (hk : cntM b = some n := by exact fact) : HR c E L ⟨d, .binOp .shl t x y t2, ty, pos, af, g⟩ (.of (a <<< n)) := r_shl64i hx hy (cntM_some hk)
theorem w_shr {a : BitVec 64} {b : Int} {n : Nat} (hx : Look c E L x (.of a) := by exact lk) (hy : Look c E L y (.of b) := by exact lk) (hk : cntM b = some n := by exact fact) : HR c E L ⟨d, .binOp .shr t x y t2, ty, pos, af, g⟩ (.of (a >>> n)) := r_shr64i hx hy (cntM_some hk)
theorem w_nl {p : Nat} {β γ : Type} [Rp β] [Rp γ] {l : Lens β γ} (hx : Look c E L x (.lp p l) := by exact lk) : HR c E L ⟨d, .nilCheck x, ty, pos, af, g⟩ (.lp p l) := r_nck hx
theorem w_ial {p n s k : Nat} {i : Int} {β α : Type} [Rp β] [Rp α] [Inhabited α] {l : Lens β (Vector α n)} [ar : Ar c.P t n s] (hx : Look c E L x (.lp p l) := by exact lk) (hs : Rp.size α = s := by rfl) (hy : Look c E L y (.of i) := by exact lk) (hk : idx n i = some k := by exact fact) :
    HR c E L ⟨d, .indexAddr t x y, ty, pos, af, g⟩ (.lp p (l.comp (Lens.idx (α := α) n k (idx_some hk).1))) := by subst hs; exact r_ia ar hx hy (idx_some hk)
/-- what type a block is of -/
def TyW (L : List Ent) {β : Type} [Rp β] (p : Nat) (b : β) : Prop := True
theorem TyW.m {β : Type} [Rp β] {p j : Nat} {b : β} (h : L[j]? = some ⟨some p, .var b⟩) : TyW L p b := trivial
theorem w_ia0 {p n s k : Nat} {i : Int} {α : Type} [Rp α] [Inhabited α] {b : Vector α n} [ar : Ar c.P t n s] (hx : Look c E L x (.pb p) := by exact lk) (hL : TyW L p b := by first | exact TyW.m At.g | exact TyW.m (hL _ _ At.g rfl) | exact hT _ _ At.g) (hs : Rp.size α = s := by rfl) (hy : Look c E L y (.of i) := by exact lk) (hk : idx n i = some k := by exact fact) :
    HR c E L ⟨d, .indexAddr t x y, ty, pos, af, g⟩ (.lp p (Lens.idx (α := α) n k (idx_some hk).1)) := by
  subst hs
  have := r_ia (d := d) (ty := ty) (pos := pos) (af := af) (g := g) ar hx hy (idx_some hk)
  rwa [Nat.zero_add] at this
theorem w_iap {n s k : Nat} {i : Int} {α : Type} [Rp α] [Inhabited α] {v : Vector α n} [ar : Ar c.P t n s] (hx : Look c E L x (.ptr v) := by exact lk) (hs : Rp.size α = s := by rfl) (hy : Look c E L y (.of i) := by exact lk) (hk : idx n i = some k := by exact fact) :
    HR c E L ⟨d, .indexAddr t x y, ty, pos, af, g⟩ (.ptr (vget v k)) := r_iap ar hs hx hy (idx_some hk)
/-- operators by their numbers' kinds -/
class Bop (op : BinOp) (α : Type) {β : outParam Type} [Rp α] [Rp β] (f : outParam (α → α → β)) : Prop where
  h : ∀ {c : Cx} {E L d ty pos af g x y t t2} {a b : α}, Look c E L x (.of a) → Look c E L y (.of b) → HR c E L ⟨d, .binOp op t x y t2, ty, pos, af, g⟩ (.of (f a b))
instance : Bop .add Int (fun a b => w64 (a + b)) := ⟨r_add⟩
instance : Bop .sub Int (fun a b => w64 (a - b)) := ⟨r_sub⟩
instance : Bop .mul Int (fun a b => w64 (a * b)) := ⟨r_mul⟩
instance : Bop .lss Int (fun a b => decide (a < b)) := ⟨r_lss⟩
instance : Bop .leq Int (fun a b => decide (a ≤ b)) := ⟨r_leq⟩
instance : Bop .gtr Int (fun a b => decide (a > b)) := ⟨r_gtr⟩
instance : Bop .geq Int (fun a b => decide (a ≥ b)) := ⟨r_geq⟩
instance : Bop .eql Int (fun a b => a == b) := ⟨r_eql⟩
instance : Bop .neq Int (fun a b => a != b) := ⟨r_neq⟩
instance : Bop .and (BitVec 64) (fun a b => a &&& b) := ⟨r_and64⟩
instance : Bop .or (BitVec 64) (fun a b => a ||| b) := ⟨r_or64⟩
instance : Bop .xor (BitVec 64) (fun a b => a ^^^ b) := ⟨r_xor64⟩
instance : Bop .add (BitVec 64) (fun a b => a + b) := ⟨r_add64⟩
instance : Bop .sub (BitVec 64) (fun a b => a - b) := ⟨r_sub64⟩
instance : Bop .shl (BitVec 64) (fun a b => a <<< b.toNat) := ⟨r_shl64⟩
instance : Bop .shr (BitVec 64) (fun a b => a >>> b.toNat) := ⟨r_shr64⟩
instance : Bop .eql (BitVec 64) (fun a b => a == b) := ⟨r_eql64⟩
instance : Bop .neq (BitVec 64) (fun a b => a != b) := ⟨r_neq64⟩
instance : Bop .lss (BitVec 64) (fun a b => decide (a < b)) := ⟨r_lss64⟩
theorem w_bin {op : BinOp} {α β : Type} [Rp α] [Rp β] {f : α → α → β} {a b : α} [k : Bop op α f] (hx : Look c E L x (.of a) := by exact lk) (hy : Look c E L y (.of b) := by exact lk) : HR c E L ⟨d, .binOp op t x y t2, ty, pos, af, g⟩ (.of (f a b)) := k.h hx hy
theorem g_bin {op : BinOp} {τ : VP} (h : HR c E L ⟨d, .binOp op t x y t2, ty, pos, af, g⟩ τ) : HR c E L ⟨d, .binOp op t x y t2, ty, pos, af, g⟩ τ := h
theorem g_ld  {τ : VP} (h : HR c E L ⟨d, .load t x, ty, pos, af, g⟩ τ) : HR c E L ⟨d, .load t x, ty, pos, af, g⟩ τ := h
theorem g_fa {s f : Nat} {τ : VP} (h : HR c E L ⟨d, .fieldAddr s x f, ty, pos, af, g⟩ τ) : HR c E L ⟨d, .fieldAddr s x f, ty, pos, af, g⟩ τ := h
theorem g_ca {k : Call} {τ : VP} (h : HR c E L ⟨d, .call k, ty, pos, af, g⟩ τ) : HR c E L ⟨d, .call k, ty, pos, af, g⟩ τ := h
theorem g_un {op : UnOp} {τ : VP} (h : HR c E L ⟨d, .unOp op t x, ty, pos, af, g⟩ τ) : HR c E L ⟨d, .unOp op t x, ty, pos, af, g⟩ τ := h
theorem g_ix  {τ : VP} (h : HR c E L ⟨d, .indexAddr t x y, ty, pos, af, g⟩ τ) : HR c E L ⟨d, .indexAddr t x y, ty, pos, af, g⟩ τ := h
theorem g_cv {src dst : TypeId} {τ : VP} (h : HR c E L ⟨d, .convert src dst x, ty, pos, af, g⟩ τ) : HR c E L ⟨d, .convert src dst x, ty, pos, af, g⟩ τ := h
theorem g_nc  {τ : VP} (h : HR c E L ⟨d, .nilCheck x, ty, pos, af, g⟩ τ) : HR c E L ⟨d, .nilCheck x, ty, pos, af, g⟩ τ := h
theorem g_mv  {τ : VP} (h : HR c E L ⟨d, .move x, ty, pos, af, g⟩ τ) : HR c E L ⟨d, .move x, ty, pos, af, g⟩ τ := h
theorem g_as  {τ : VP} (h : HR c E L ⟨d, .assign x, ty, pos, af, g⟩ τ) : HR c E L ⟨d, .assign x, ty, pos, af, g⟩ τ := h
theorem g_ex {i : Nat} {τ : VP} (h : HR c E L ⟨d, .extract x i, ty, pos, af, g⟩ τ) : HR c E L ⟨d, .extract x i, ty, pos, af, g⟩ τ := h
theorem g_pk {z w : Operand} {τ : VP} (h : HR c E L ⟨d, .pick z x w, ty, pos, af, g⟩ τ) : HR c E L ⟨d, .pick z x w, ty, pos, af, g⟩ τ := h
theorem g_bd {ps : Array (Nat × Operand)} {τ : VP} (h : HR c E L ⟨d, .build t ps, ty, pos, af, g⟩ τ) : HR c E L ⟨d, .build t ps, ty, pos, af, g⟩ τ := h
theorem g_bl {n : Nat} {ps : Array (Nat × Operand)} {τ : VP} (h : HR c E L ⟨d, .buildSlice t n ps, ty, pos, af, g⟩ τ) : HR c E L ⟨d, .buildSlice t n ps, ty, pos, af, g⟩ τ := h
/-- whatever operation it is -/
theorem hr {τ : VP} (h : HR c E L o τ := by first
  | (apply g_mv; exact r_move lk)
  | (apply g_as; exact r_asg lk)
  | (apply g_ld; first | exact w_lp | exact w_l0 | exact w_ptr)
  | (apply g_fa; first | exact w_fp | exact w_fl | exact w_f0)
  | (apply g_bin; first | exact w_bin | exact w_rn | exact w_rs | exact w_eqA | exact w_neA | exact w_2u r_beq | exact w_2u r_bne)
  | (apply g_ca; first | exact w_len | exact w_lens | exact w2 r_min | exact w2 r_max | exact w2 r_minu64)
  | (apply g_ex; exact w_ext)
  | (apply g_pk; first | exact w_or | exact w_and)
  | (apply g_un; first | exact w1 r_not | exact w1 r_neg)
  | (apply g_bd; exact w_bd)
  | (apply g_bl; exact w_bl)
  | (apply g_cv; first | exact w_cv r_ci64 | exact w_cv r_c64i | exact w_cv r_c8i | exact w_cv r_cii | exact w_cv r_ci8 | exact w_cv r_c64_64)
  | (apply g_nc; first | exact w_nl | exact w1 r_nck | exact w1 r_nckp)) : HR c E L o τ := h

/-- an operation that may fail: what is known of it stands among the hypotheses -/
theorem hrp {τ : VP} (h : HR c E L o τ := by first
  | (apply g_ix; first | exact w_ix | exact w_ial | exact w_ia0 | exact w_iap)
  | (apply g_ca; first | exact w_c1 | exact w_c2 | exact w_c3 | exact w_c0)
  | (apply g_nc; exact w_nr) | (apply g_ld; first | exact w_lm | exact w_lx)
  | (apply g_bin; first | exact w_rem | exact w_quo | exact w_shl | exact w_shr)) : HR c E L o τ := h
class Pop (op : BinOp) : Prop where
  h : True
instance : Pop .quo := ⟨trivial⟩
instance : Pop .rem := ⟨trivial⟩
instance : Pop .shl := ⟨trivial⟩
instance : Pop .shr := ⟨trivial⟩
theorem q_nc (h : Sq c ops Q (⟨d, .nilCheck x, ty, pos, af, g⟩ :: rest) E L) : Sq c ops Q (⟨d, .nilCheck x, ty, pos, af, g⟩ :: rest) E L := h
theorem q_ld (h : Sq c ops Q (⟨d, .load t x, ty, pos, af, g⟩ :: rest) E L) : Sq c ops Q (⟨d, .load t x, ty, pos, af, g⟩ :: rest) E L := h
theorem q_ix (h : Sq c ops Q (⟨d, .indexAddr t x y, ty, pos, af, g⟩ :: rest) E L) : Sq c ops Q (⟨d, .indexAddr t x y, ty, pos, af, g⟩ :: rest) E L := h
theorem q_ca {f : FuncId} {xs : Array Operand} {ats : Array TypeId} (h : Sq c ops Q (⟨d, .call ⟨.value (.func f), xs, ats⟩, ty, pos, af, g⟩ :: rest) E L) : Sq c ops Q (⟨d, .call ⟨.value (.func f), xs, ats⟩, ty, pos, af, g⟩ :: rest) E L := h
theorem q_bin {op : BinOp} [k : Pop op] (h : Sq c ops Q (⟨d, .binOp op t x y t2, ty, pos, af, g⟩ :: rest) E L) : Sq c ops Q (⟨d, .binOp op t x y t2, ty, pos, af, g⟩ :: rest) E L := h

/-! ### Steps -/

inductive Nm : VP → VP → Prop
  | i {τ} : Nm τ τ
  | n {α : Type} [Rp α] {a b : α} : some a = some b → Nm (.of a) (.of b)
theorem Nm.hr {τ σ : VP} (h : Nm τ σ) (k : HR c E L o τ) : HR c E L o σ := by
  cases h with
  | i => exact k
  | n e => cases e; exact k
theorem s_gg {τ : VP} {j g : Nat} {p : Prop} {b want : Bool} (k : Sq c ops Q rest ((dd, .cond (p ∧ b = want) τ) :: E) L) (hg : o.guard = some (j, want) := by rfl) (hj : (ops[j]?).bind (·.dst) = some g := by rfl) (hl : look E g = some (.cond p (.of b)) := by rfl)
    (h : p ∧ b = want → HR c E L o τ := by intro hb; exact hr) (hd : o.dst = some dd := by rfl) (hn : Nat.blt dd c.n = true := by rfl) : Sq c ops Q (o :: rest) E L := .gg h hg hj hl hd hn k
theorem e_o0 {fn : Func} {Lo : Unit → List Ent} (hs : (Lo ()).Sublist L := by repeat (first | exact List.Sublist.refl _ | exact List.nil_sublist _ | apply List.Sublist.cons_cons | apply List.Sublist.cons)) (hr : fn.results = #[] := by rfl) (hds : c.ds = [] := by rfl) :
    To c (bodyPost c.P fn (PostO c.X c.A0 c.W0 (fun _ : Unit => .tup []) Lo)) .ret E L := .endO0 () hs hr rfl hds
theorem e_o1 {fn : Func} {r : ResultVar} {τ : VP} {ρ : Unit → VP} {Lo : Unit → List Ent} (hs : (Lo ()).Sublist L := by repeat (first | exact List.Sublist.refl _ | exact List.nil_sublist _ | apply List.Sublist.cons_cons | apply List.Sublist.cons)) (hr : fn.results = #[r] := by rfl) (h : RVO c E L r τ := by exact rvo) (hρ : ρ () = τ := by rfl) (hds : c.ds = [] := by rfl) :
    To c (bodyPost c.P fn (PostO c.X c.A0 c.W0 ρ Lo)) .ret E L := .endO1 () hs hr hρ h hds
theorem e_o2 {fn : Func} {r r2 : ResultVar} {τ τ2 : VP} {ρ : Unit → VP} {Lo : Unit → List Ent} (hs : (Lo ()).Sublist L := by repeat (first | exact List.Sublist.refl _ | exact List.nil_sublist _ | apply List.Sublist.cons_cons | apply List.Sublist.cons)) (hr : fn.results = #[r, r2] := by rfl) (h : RVO c E L r τ := by exact rvo) (h2 : RVO c E L r2 τ2 := by exact rvo) (hρ : ρ () = .tup [τ, τ2] := by rfl) (hds : c.ds = [] := by rfl) :
    To c (bodyPost c.P fn (PostO c.X c.A0 c.W0 ρ Lo)) .ret E L := .endO2 () hs hr hρ h h2 hds
theorem t_c {R : Type} {b : Bool} {A B : Option R} {r : R} (h : cond b A B = some r) : True := trivial
theorem t_w {R : Type} {b : Bool} {A B : Wm R} {r : R → Prop} (h : cond b A B r) : True := trivial
theorem g_al (h : Sq c ops Q (⟨some dd, .alloc t, ty, pos, af, none⟩ :: rest) E L) : Sq c ops Q (⟨some dd, .alloc t, ty, pos, af, none⟩ :: rest) E L := h
theorem g_bx (h : Sq c ops Q (⟨some dd, .box t x, ty, pos, af, none⟩ :: rest) E L) : Sq c ops Q (⟨some dd, .box t x, ty, pos, af, none⟩ :: rest) E L := h
theorem g_st (h : Sq c ops Q (⟨none, .store t x y, ty, pos, af, none⟩ :: rest) E L) : Sq c ops Q (⟨none, .store t x y, ty, pos, af, none⟩ :: rest) E L := h
theorem g_cd {z : Operand} {u v : Code} (h : Wp c Q (.cond z u v) E L) : Wp c Q (.cond z u v) E L := h
theorem s_v {τ : VP} (k : Sq c ops Q rest ((dd, τ) :: E) L) (hg : o.guard = none := by rfl) (hd : o.dst = some dd := by rfl) (h : HR c E L o τ := by exact hr) (hn : Nat.blt dd c.n = true := by rfl) : Sq c ops Q (o :: rest) E L := .v h hg hd hn k
theorem s_g {τ : VP} {j g : Nat} {b want : Bool} (k : Sq c ops Q rest ((dd, .cond (b = want) τ) :: E) L) (hg : o.guard = some (j, want) := by rfl) (hj : (ops[j]?).bind (·.dst) = some g := by rfl) (hl : look E g = some (.of b) := by rfl)
    (h : b = want → HR c E L o τ := by intro hb; exact hr) (hd : o.dst = some dd := by rfl) (hn : Nat.blt dd c.n = true := by rfl) : Sq c ops Q (o :: rest) E L := .g h hg hj hl hd hn k
theorem s_al {α : Type} [ia : Rp α] {z : α} [zr : Zr c.P t z] (k : ∀ p, Sq c ops Q rest ((dd, .pb p) :: E) (⟨some p, .var z⟩ :: L)) (hn : Nat.blt dd c.n = true := by rfl) : Sq c ops Q (⟨some dd, .alloc t, ty, pos, af, none⟩ :: rest) E L := .alloc zr hn k
theorem s_bx {α : Type} [Rp α] {z : α} (k : ∀ p, Sq c ops Q rest ((dd, .pb p) :: E) (⟨some p, .var z⟩ :: L)) (hx : Look c E L x (.of z) := by exact lk) (hn : Nat.blt dd c.n = true := by rfl) : Sq c ops Q (⟨some dd, .box t x, ty, pos, af, none⟩ :: rest) E L := .box hx hn k
theorem s_st {p : Nat} {β γ : Type} [Rp β] [Rp γ] {b : β} {v : γ} {l : Lens β γ} [tt : Ty c.P t γ] (k : Sq c ops Q rest E L') (hx : Look c E L x (.lp p l) := by exact lk) (hy : Look c E L y (.of v) := by first | exact lk | exact look_nil)
    (hL : Up L ⟨some p, .var b⟩ ⟨some p, .var (l.set b v)⟩ L' := by repeat (first | exact Up.z | apply Up.s)) : Sq c ops Q (⟨none, .store t x y, ty, pos, af, none⟩ :: rest) E L := by
  obtain ⟨j, h1, rfl⟩ := hL.get
  exact .store l tt hx hy h1 rfl rfl k
theorem s_s0 {p : Nat} {β : Type} [Rp β] {b v : β} [tt : Ty c.P t β] (k : Sq c ops Q rest E L') (hx : Look c E L x (.pb p) := by exact lk) (hy : Look c E L y (.of v) := by first | exact lk | exact look_nil)
    (hL : Up L ⟨some p, .var b⟩ ⟨some p, .var v⟩ L' := by repeat (first | exact Up.z | apply Up.s)) : Sq c ops Q (⟨none, .store t x y, ty, pos, af, none⟩ :: rest) E L := by
  obtain ⟨j, h1, rfl⟩ := hL.get
  exact .store (Lens.id β) tt hx hy h1 rfl rfl k
theorem s_nb {α R : Type} {a : α} {f : α → Option R} {r : R} {G : Prop} (h : (some a).bind f = some r) (k : ∀ y, some a = some y → f y = some r → G) : G := k a rfl h
theorem s_vn {α : Type} [Rp α] {a a' : α} {K : α → Prop} (k : ∀ y, some a = some y → K y → Sq c ops Q rest ((dd, .of y) :: E) L) (hg : o.guard = none := by rfl) (hd : o.dst = some dd := by rfl) (h : HR c E L o (.of a') := by exact hr) (e : a' = a := by with_reducible rfl) (hn : Nat.blt dd c.n = true := by rfl) :
    ∀ y, some a = some y → K y → Sq c ops Q (o :: rest) E L := fun y hy hk => by subst e; exact .v ((Nm.n hy).hr h) hg hd hn (k y hy hk)
theorem s_nw {α R : Type} {a : α} {f : α → Wm R} {r : R → Prop} {G : Prop} (h : Wm.bind (Wm.of (some a)) f r) (k : ∀ y, some a = some y → f y r → G) : G := by obtain ⟨y, h1, h2⟩ := h; exact k y h1 h2
theorem s_b {α R : Type} {m : Option α} {f : α → Option R} {r : R} (h : m.bind f = some r) (k : ∀ y, m = some y → f y = some r → Sq c ops Q (o :: rest) E L) : Sq c ops Q (o :: rest) E L := Qbf h k
theorem s_bw {α R : Type} {m : Option α} {f : α → Wm R} {r : R → Prop} (h : Wm.bind (Wm.of m) f r) (k : ∀ y, m = some y → f y r → Sq c ops Q (o :: rest) E L) : Sq c ops Q (o :: rest) E L := Wm.obf h k
theorem rvc {u j p : Nat} {α : Type} [Rp α] {x : α} [k : Ty c.P ty α] (h : look E u = some (.pb p) := by rfl) (hL : L[j]? = some ⟨some p, .var x⟩ := by first | exact At.g | exact hL _ _ At.g rfl) : RV c E L (.cell u ty) (.of x) := rv_c k h hL
theorem rv {r : ResultVar} {τ : VP} (h : RV c E L r τ := by first | exact rv_t rfl | exact rvc) : RV c E L r τ := h
theorem rvoc {u j p : Nat} {α : Type} [Rp α] {x : α} [k : Ty c.P ty α] (h : look E u = some (.pb p) := by rfl) (hL : L[j]? = some ⟨some p, .var x⟩ := by first | exact At.g | exact hL _ _ At.g rfl) : RVO c E L (.cell u ty) (.of x) := rvo_c k h hL
theorem rvo {r : ResultVar} {τ : VP} (h : RVO c E L r τ := by first | exact rvo_t rfl | exact rvoc) : RVO c E L r τ := h
theorem e_0 {fn : Func} (hr : fn.results = #[] := by rfl) (hds : c.ds = [] := by rfl) : To c (bodyPost c.P fn (Post c (.tup []))) .ret E L := .end0 hr hds
theorem e_1 {fn : Func} {r : ResultVar} {τ : VP} (hr : fn.results = #[r] := by rfl) (h : RV c E L r τ := by exact rv) (hds : c.ds = [] := by rfl) : To c (bodyPost c.P fn (Post c τ)) .ret E L := .end1 hr h hds
theorem e_2 {fn : Func} {r1 r2 : ResultVar} {τ τ2 : VP} (hr : fn.results = #[r1, r2] := by rfl) (h : RV c E L r1 τ := by exact rv) (h2 : RV c E L r2 τ2 := by exact rv) (hds : c.ds = [] := by rfl) : To c (bodyPost c.P fn (Post c (.tup [τ, τ2]))) .ret E L := .end2 hr h h2 hds
theorem e_3 {fn : Func} {r1 r2 r3 : ResultVar} {τ τ2 τ3 : VP} (hr : fn.results = #[r1, r2, r3] := by rfl) (h : RV c E L r1 τ := by exact rv) (h2 : RV c E L r2 τ2 := by exact rv) (h3 : RV c E L r3 τ3 := by exact rv) (hds : c.ds = [] := by rfl) : To c (bodyPost c.P fn (Post c (.tup [τ, τ2, τ3]))) .ret E L := .end3 hr h h2 h3 hds
end
inductive HV (c : Cx) (ops : Array Oper) (E : List (Nat × VP)) (L : List Ent) (hs : List Hd) : List Oper → List (Option Nat) → List (List Nat) → List VP → Prop
  | nil {os} : HV c ops E L hs os [] [] []
  | cons {o os s ss d ds τ ts} : (∀ L' : List Ent, (∀ (j : Nat) (e : Ent), L[j]? = some e → unsto (fun _ => false) j 0 [] = true → L'[j]? = some e) → HO c ops (heD (fun _ _ => none) hs E d) L' o τ) → HV c ops E L hs os ss ds ts → HV c ops E L hs (o :: os) (s :: ss) (d :: ds) (τ :: ts)
theorem HV.h {c : Cx} {ops : Array Oper} {E : List (Nat × VP)} {L : List Ent} {hs : List Hd} {os ss ds ts} (h : HV c ops E L hs os ss ds ts) : HeadsV c ops E L hs os ss ds ts := by
  induction h with
  | nil => simp [HeadsV]
  | cons h1 _ ih => exact ⟨h1, ih⟩
def dps (l : List Oper) : List (List Nat) := l.map fun o => o.after.toList.filterMap fun e => match e.ground with | .data => some e.on | .guard => some e.on | _ => none
section
variable {c : Cx} {E : List (Nat × VP)} {L : List Ent} {ops : Array Oper} {Q : Exit → Act → World → Prop} {o : Oper}
theorem hov {τ σ : VP} (hg : o.guard = none := by rfl) (h : HR c E L o τ := by first | exact hr | exact hrp) (n : Nm τ σ := by first | exact Nm.n (by with_reducible assumption) | exact Nm.i) : HO c ops E L o σ := HO.v (n.hr h) hg
theorem hog {τ : VP} {j g : Nat} {b want : Bool} (hg : o.guard = some (j, want) := by rfl) (hj : (ops[j]?).bind (·.dst) = some g := by rfl) (hl : look E g = some (.of b) := by rfl) (h : b = want → HR c E L o τ := by intro hb; first | exact hr | exact hrp) :
    HO c ops E L o (.cond (b = want) τ) := HO.g h hg hj hl
theorem Wp.dw {rid a : Nat} {l : List Oper} {es : List Nat} {ts : List VP} [k : Kx c.P] (n : Nat) (ht : Sq c l.toArray Q (l.drop n) (zipV E (rg a n) (dps (l.take n)) ts) L) (ha : (l[0]?).bind (·.dst) = Option.some a := by rfl)
    (hh : HV c l.toArray E L (mkH (rg a n) (dps (l.take n)) ts) l (rg a n) (dps (l.take n)) ts := by repeat (first | apply HV.nil | (apply HV.cons; (intro L' hL; first | exact hov | exact hog))))
    (hds : dat (mkH (rg a n) (dps (l.take n)) ts) = datV (rg a n) (dps (l.take n)) := by rfl) (hes : E.map (·.1) = es := by rfl) (hB : Gv.drawT l.toArray n (datV (rg a n) (dps (l.take n))) es = true := by kernel_rfl) (hs : slB (l.take n) (rg a n) c.n = true := by rfl) : Wp c Q (.region rid l.toArray true) E L :=
  .dv k.m n (rg a n) (dps (l.take n)) ts hh.h ht hds hes hB hs
end
/-! ### Drawn regions with operations that change entries -/
theorem msk_self {up : List Nat} {i : Nat} {hd : Nat → Hid} {x : Hid} : msk up i (upd hd i x) i = x := by
  unfold msk upd
  simp
/-- a new variable at entry j -/
def Hal (s : Nat) (up : List Nat) (j i : Nat) {α : Type} [Rp α] (z : α) : Hd := ⟨some s, up, [j], [j], fun hd => VP.pb ((hd i 0).getD 0), fun hd _ => vr ((hd i 0).getD 0) z⟩
inductive StO (c : Cx) (E : List (Nat × VP)) (L : List Ent) (t : TypeId) (x y : Operand) (j : Nat) (e : Ent) : Prop
  | mk {p : Nat} {β γ : Type} [Rp β] [Rp γ] {b : β} {v : γ} (l : Lens β γ) : Ty c.P t γ → Look c E L x (.lp p l) → Look c E L y (.of v) → L[j]? = some ⟨some p, .var b⟩ → ⟨some p, .var (l.set b v)⟩ = e → StO c E L t x y j e
  | z {p : Nat} {β : Type} [Rp β] {b v : β} : Ty c.P t β → Look c E L x (.pb p) → Look c E L y (.of v) → L[j]? = some ⟨some p, .var b⟩ → ⟨some p, .var v⟩ = e → StO c E L t x y j e
section
variable {c : Cx} {E : List (Nat × VP)} {L : List Ent} {ops : Array Oper} {Q : Exit → Act → World → Prop} {o : Oper} {hs : List Hd} {np i dd : Nat} {up rd : List Nat} {t ty : TypeId} {pos : String} {af : Array Edge} {x y : Operand}
theorem vq {p : Nat} {β : Type} [Rp β] {a b : β} (h : some a = some b) : (⟨some p, .var a⟩ : Ent) = ⟨some p, .var b⟩ := by cases h; rfl
theorem so {p j : Nat} {β γ : Type} [Rp β] [Rp γ] {b : β} {v : γ} {l : Lens β γ} {e : Ent} [k : Ty c.P t γ] (hx : Look c E L x (.lp p l) := by exact lk) (hy : Look c E L y (.of v) := by first | exact lk | exact look_nil) (h : L[j]? = some ⟨some p, .var b⟩ := by exact hL _ _ rfl rfl) (he : ⟨some p, .var (l.set b v)⟩ = e := by first | rfl | exact vq (by assumption)) : StO c E L t x y j e := .mk l k hx hy h he
theorem sz {p j : Nat} {β : Type} [Rp β] {b v : β} {e : Ent} [k : Ty c.P t β] (hx : Look c E L x (.pb p) := by exact lk) (hy : Look c E L y (.of v) := by first | exact lk | exact look_nil) (h : L[j]? = some ⟨some p, .var b⟩ := by exact hL _ _ rfl rfl) (he : ⟨some p, .var v⟩ = e := by first | rfl | exact vq (by assumption)) : StO c E L t x y j e := .z k hx hy h he
inductive HN (c : Cx) (E : List (Nat × VP)) (L : List Ent) (o : Oper) (σ : VP) : Prop
  | mk {τ : VP} : HR c E L o τ → Nm τ σ → HN c E L o σ
theorem HN.h {σ : VP} (h : HN c E L o σ) : HR c E L o σ := by cases h with | mk h n => exact n.hr h
theorem hn {τ σ : VP} (h : HR c E L o τ := by first | exact hr | exact hrp) (n : Nm τ σ := by first | exact Nm.n (by with_reducible assumption) | exact Nm.i) : HN c E L o σ := .mk h n
theorem dho {σ : VP} (h : ∀ (hd : Nat → Hid) (E' : List (Nat × VP)) (L' : List Ent), (∀ t τ, look (heD hd hs E up) t = some τ → look E' t = some τ) → (∀ j e, (Lf (fun _ => true) hd 0 (hs.take i) L)[j]? = some e → rd.contains j = true → L'[j]? = some e) → (∀ {β : Type} [Rp β] (p : Nat) (b : β) {j : Nat}, (Lf (fun _ => true) hd 0 (hs.take i) L)[j]? = some ⟨some p, .var b⟩ → TyW L' p b) → L'.drop np = L.drop np → HN c E' L' o σ := by intro hd E' L' hE hL hT hP; exact hn)
    (hg : o.guard = none := by rfl) (hd : o.dst = some dd := by rfl) (hn : Nat.blt dd c.n = true := by rfl) : HeadDP c ops Q hs E L np i o (Hp dd up rd σ) :=
  fun a b c' d e f => Sq.v (h a b c' d e (fun _ _ _ _ => trivial) f).h hg hd hn (Sq.nil (To.fin (fun _ => none) rfl rfl))
theorem dhg {τ : VP} {j g : Nat} {b want : Bool} (hg : o.guard = some (j, want) := by rfl) (hj : (ops[j]?).bind (·.dst) = some g := by rfl) (hl : ∀ hd, look (heD hd hs E up) g = some (.of b) := by intro hd; rfl)
    (h : ∀ (hd : Nat → Hid) (E' : List (Nat × VP)) (L' : List Ent), (∀ t τ, look (heD hd hs E up) t = some τ → look E' t = some τ) → (∀ j e, (Lf (fun _ => true) hd 0 (hs.take i) L)[j]? = some e → rd.contains j = true → L'[j]? = some e) → (∀ {β : Type} [Rp β] (p : Nat) (b : β) {j : Nat}, (Lf (fun _ => true) hd 0 (hs.take i) L)[j]? = some ⟨some p, .var b⟩ → TyW L' p b) → L'.drop np = L.drop np → b = want → HN c E' L' o τ := by intro hd E' L' hE hL hT hP hb; exact hn)
    (hd : o.dst = some dd := by rfl) (hn : Nat.blt dd c.n = true := by rfl) : HeadDP c ops Q hs E L np i o (Hp dd up rd (.cond (b = want) τ)) :=
  fun a b' c' d e f => Sq.g (fun z => (h a b' c' d e (fun _ _ _ _ => trivial) f z).h) hg hj (d _ _ (hl a)) hd hn (Sq.nil (To.fin (fun _ => none) rfl rfl))
theorem dal {α : Type} [ia : Rp α] {z : α} [zr : Zr c.P t z] {s j : Nat} (hj : ∀ hd, (Lf (fun _ => true) hd 0 (hs.take i) L)[j]? = some ⟨none, .dead⟩ := by intro hd; rfl) (hn : Nat.blt s c.n = true := by rfl) : HeadDP c ops Q hs E L np i ⟨some s, .alloc t, ty, pos, af, none⟩ (Hal s up j i z) :=
  fun hd E' L' hE hL hP => .alloc zr hn fun p => .nil (.place j (hL j _ (hj hd) (by simp [Hal])) (.fin (gm [some p]) (by simp [Hal, addE, msk_self, gm]) (by simp [Hal, setE, msk_self, gm])))
theorem dst {j : Nat} {e : (Nat → Hid) → Ent} (h : ∀ (hd : Nat → Hid) (E' : List (Nat × VP)) (L' : List Ent), (∀ t τ, look (heD hd hs E up) t = some τ → look E' t = some τ) → (∀ k e, (Lf (fun _ => true) hd 0 (hs.take i) L)[k]? = some e → [j].contains k = true → L'[k]? = some e) → L'.drop np = L.drop np → StO c E' L' t x y j (e (msk up i (upd hd i fun _ => none))) := by intro hd E' L' hE hL hP; first | exact so | exact sz) :
    HeadDP c ops Q hs E L np i ⟨none, .store t x y, ty, pos, af, none⟩ (Hs up [j] [j] e) := fun hd E' L' hE hL hP => by
  cases h hd E' L' hE hL hP with
  | mk l tt hx hy h1 h2 => exact .store l tt hx hy h1 rfl rfl (.nil (.fin (fun _ => none) rfl (congrArg (L'.set j) h2)))
  | z tt hx hy h1 h2 => exact .store (Lens.id _) tt hx hy h1 rfl rfl (.nil (.fin (fun _ => none) rfl (congrArg (L'.set j) h2)))
end
inductive HX (c : Cx) (ops : Array Oper) (Q : Exit → Act → World → Prop) (hs : List Hd) (E : List (Nat × VP)) (L : List Ent) (np : Nat) : Nat → List Oper → List Hd → Prop
  | nil {i} : HX c ops Q hs E L np i [] []
  | cons {i o os h r} : HeadDP c ops Q hs E L np i o h → HX c ops Q hs E L np (i + 1) os r → HX c ops Q hs E L np i (o :: os) (h :: r)
theorem HX.h {c : Cx} {ops : Array Oper} {Q : Exit → Act → World → Prop} {hs : List Hd} {E : List (Nat × VP)} {L : List Ent} {np i : Nat} {os r} (h : HX c ops Q hs E L np i os r) : HeadsDP c ops Q hs E L np i os r := by
  induction h with
  | nil => simp [HeadsDP]
  | cons h1 _ ih => exact ⟨h1, ih⟩
section
variable {c : Cx} {E : List (Nat × VP)} {L : List Ent} {Q : Exit → Act → World → Prop} {rid : Nat} {l : List Oper} {ds : List (Option Nat × List Nat × List Nat × List Nat)} {es : List Nat} [kx : Kx c.P] (np : Nat) (hs : List Hd)
include kx
theorem Wp.ew (ht : ∀ hd, To c Q .normal (zipD (fun _ => true) hd E 0 hs) (Lf (fun _ => true) hd 0 hs L)) (hh : HX c l.toArray Q hs E L np 0 l hs := by repeat (first | apply HX.nil | (apply HX.cons; first | exact dal | exact dst | exact dho | exact dhg)))
    (hds : dat hs = ds := by rfl) (hes : E.map (·.1) = es := by rfl) (hB : Gv.drawT l.toArray l.length ds es = true := by kernel_rfl) (hw : (ds.all fun d => d.2.2.2.all fun j => Nat.blt j np) = true := by kernel_rfl) : Wp c Q (.region rid l.toArray true) E L := .dQ np kx.m hs es hh.h ht hds hes hB hw
theorem Wp.en {K : Prop} (k : K) (ht : ∀ hd, To c Q .normal (zipD (fun _ => true) hd E 0 hs) (Lf (fun _ => true) hd 0 hs L)) (hh : Kw K → HX c l.toArray Q hs E L np 0 l hs := by intro k; repeat (first | apply HX.nil | (apply HX.cons; first | exact dal | exact dst | exact dho | exact dhg | exact k.k.1 | exact k.k.2.1 | exact k.k.2.2.1 | exact k.k.2.2.2.1 | exact k.k.2.2.2.2.1 | exact k.k.2.2.2.2.2.1 | exact k.k.2.2.2.2.2.2.1 | exact k.k.2.2.2.2.2.2.2.1 | exact k.k.2.2.2.2.2.2.2.2.1 | exact k.k.2.2.2.2.2.2.2.2.2.1 | exact k.k.2.2.2.2.2.2.2.2.2.2.1 | exact k.k.2.2.2.2.2.2.2.2.2.2.2.1 | exact k.k.2.2.2.2.2.2.2.2.2.2.2.2.1 | exact k.k.2.2.2.2.2.2.2.2.2.2.2.2.2.1)))
    (hds : dat hs = ds := by rfl) (hes : E.map (·.1) = es := by rfl) (hB : Gv.drawT l.toArray l.length ds es = true := by kernel_rfl) (hw : (ds.all fun d => d.2.2.2.all fun j => Nat.blt j np) = true := by kernel_rfl) : Wp c Q (.region rid l.toArray true) E L := .dQ np kx.m hs es (hh ⟨k⟩).h ht hds hes hB hw
end
/-! ### Drawn regions in phases -/
section
variable {c : Cx} {E : List (Nat × VP)} {L : List Ent} {l : List Oper} {Q : Exit → Act → World → Prop}
inductive LI (c : Cx) (l : List Oper) (E : List (Nat × VP)) (L : List Ent) (fs : List (Nat × Nat × VP)) : List Nat → Prop
  | nil : LI c l E L fs []
  | cons {i o τ r} : l[i]? = some o → fndN i fs = some τ → HO c l.toArray (gE (fun j => memN j (depN o)) E fs) L o τ → LI c l E L fs r → LI c l E L fs (i :: r)
theorem LI.h {fs : List (Nat × Nat × VP)} {nl : List Nat} (h : LI c l E L fs nl) : LP c l E L fs nl := by
  induction h with
  | nil => trivial
  | cons h1 h2 h3 _ ih => exact ⟨by rw [h1, h2]; exact h3, ih⟩
theorem AnyP.md {cn : Nat} {eff pe : List Nat} {fs : List (Nat × Nat × VP)} {ks : List (Nat × Nat)} {es : List Nat} (fc nl el : List Nat) (hE : EP c l Q eff pe fs E L el) (hL : LI c l E L fs nl := by repeat (first | apply LI.nil | (apply LI.cons; rfl; rfl; (first | exact hov | exact hog)))) (hn : eff.all (fun k => memN k pe) = false := by rfl)
    (hks : fs.map (fun x => (x.1, x.2.1)) = ks := by rfl) (hes : E.map (·.1) = es := by rfl) (hcn : c.n = cn := by rfl) (hB : phB l cn eff pe fc nl el ks es = true := by kernel_rfl) : AnyP c l Q eff pe fs E L := .mid fc nl el hL.h hE hn hks hes hcn hB
end
/-- the walk: as far as it goes; what is left is k1, k2, .. -/
theorem go {G : Prop} (h : G := by
  repeat (first
  | (change Sq _ _ _ (_ :: _) _ _
     first
     | ((with_reducible refine s_nb h ?_); refine s_vn ?_; (try clear h); intro zv zw h; have zc := True.intro) | ((with_reducible refine s_nw h ?_); refine s_vn ?_; (try clear h); intro zv zw h; have zc := True.intro)
     | (apply g_al; refine s_al ?_; intro zv) | (apply g_bx; refine s_bx ?_; intro zv)
     | (apply g_st; first | refine s_st ?_ | refine s_s0 ?_)
     | (apply q_nc; (first | (with_reducible refine s_b h ?_) | (with_reducible refine s_bw h ?_)); (try clear h); (intro zv zw h; have zc := True.intro); first | (refine s_v ?_ (h := by exact hrp); change Sq _ _ _ _ ((_, VP.pb zv) :: _) _) | (refine s_g ?_ (h := by intro hb; exact hrp); change Sq _ _ _ _ ((_, VP.cond _ (VP.pb zv)) :: _) _))
     | ((first | apply q_nc | apply q_ld); first | refine s_v ?_ (h := by exact hrp) | refine s_g ?_ (h := by intro hb; exact hrp))
     | ((first | apply q_ix | apply q_ca | apply q_bin | apply q_ld); (first | (with_reducible refine s_b h ?_) | (with_reducible refine s_bw h ?_)); (try clear h); (intro zv zw h; have zc := True.intro); first | refine s_v ?_ (h := by exact hrp) | refine s_g ?_ (h := by intro hb; exact hrp))
     | refine s_v ?_ | refine s_g ?_ | refine s_gg ?_ | refine s_v ?_ (h := by exact hrp) | refine s_g ?_ (h := by intro hb; exact hrp))
  | (change Sq _ _ _ [] _ _
     first | apply Qnr | apply Qns | apply Qnx | apply Sq.nil)
  | (change Wp _ _ _ _ _
     first | apply Qsr | (apply g_cd; first | ((with_reducible have zc := t_c h); refine Qcd h ?_ ?_ <;> ((try clear h); intro h)) | ((with_reducible have zc := t_w h); refine Qcw h ?_ ?_ <;> ((try clear h); intro h))) | apply Qkn | apply Wp.seq | apply Wp.block | apply Wp.reg | apply Wp.ret | apply Wp.exit | apply Wp.skip)
  | (change To _ _ _ _ _
     first | apply To.next | apply To.ret | apply To.exit | apply To.bret | apply To.bexit | apply To.bnorm | refine To.bother rfl ?_ | (cases h; first | exact e_1 | exact e_2 | exact e_o1 | exact e_o2 | exact e_0 | exact e_3 | exact e_o0 | exact Qrd () 0 | exact Qrd () 1 | exact Qrd () 2 | exact Qrd () 3 | exact Qlv () 0 | exact Qlv () 1 | exact Qlv () 2 | exact Qlv () 3 | exact Qmt 0 (hm ()) | exact Qmt 1 (hm ()) | exact Qmt 2 (hm ())))
  | ((first | ((guard_hyp zc); (clear zc); revert h) | skip); (repeat (revert zv)); first | exact k1.k | exact k2.k | exact k3.k | exact k4.k | exact k5.k | exact k6.k))) : G := h
theorem go1 {G K : Prop} (k : K) (h : Kw K → G := by intro k1; exact go) : G := h ⟨k⟩
theorem go2 {G K K2 : Prop} (k : K) (k' : K2) (h : Kw K → Kw K2 → G := by intro k1 k2; exact go) : G := h ⟨k⟩ ⟨k'⟩
theorem go3 {G K K2 K3 : Prop} (k : K) (k' : K2) (k'' : K3) (h : Kw K → Kw K2 → Kw K3 → G := by intro k1 k2 k3; exact go) : G := h ⟨k⟩ ⟨k'⟩ ⟨k''⟩
end Gv

