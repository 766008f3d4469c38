/-
  The library of the decompiler, part F: what a call hands back; tests of equality on arrays and structs; values put together. Conditions: none; it is about whatever program.
-/
import Derived.Test.YtodajdohokmjnaaGvE
namespace Gv
open Go
set_option linter.unusedVariables false
set_option linter.unusedSimpArgs false

/-! ### What a call hands back -/

def resOne (tmps : Array Value) : ResultVar → Sem Value
  | .tmp t => pure (tmps.getD t undef)
  | .cell a t => do loadVar t (← asAddr (tmps.getD a undef))

theorem results_eq (fn : Func) (tmps : Array Value) : results fn tmps = (do
    let vs ← fn.results.mapM (resOne tmps)
    pure (if h : vs.size = 1 then vs[0] else .tuple vs)) := by
  unfold results
  congr 1

section
variable {c : Cx} {E : List (Nat × VP)} {L : List Ent} {ops : Array Oper} {Q : Exit → Act → World → Prop}

def RV (c : Cx) (E : List (Nat × VP)) (L : List Ent) (r : ResultVar) (τ : VP) : Prop :=
  ∀ a W, St c E L a W → ∃ v, (resOne a.tmps r).run c.P W = .ok v W ∧ τ.holds c.A0 W v

theorem rv_t {t : Nat} {τ : VP} (h : look E t = some τ) : RV c E L (.tmp t) τ := fun a W s => by
  obtain ⟨v, h1, h2⟩ := s.env t τ h
  exact ⟨v, by simp [resOne, h1], holds_drop h2⟩

theorem rv_c {t : Nat} {ty : TypeId} {i p : Nat} {α : Type} [Rp α] {x : α} (tt : Ty c.P ty α) (h : look E t = some (.eq (.pointer (some ⟨p, 0, none⟩)))) (hL : L[i]? = some ⟨some p, .var x⟩) : RV c E L (.cell t ty) (.of x) := fun a W s => by
  obtain ⟨v, h1, h2⟩ := s.env t _ h
  subst h2
  obtain ⟨ob, hob, cs, T, rfl, hrep⟩ := s.own _ (List.mem_of_getElem? hL)
  have hl : cs.toList.length = Rp.size α := Rp.len hrep
  have hsz : cs.size = Rp.size α := by simpa using hl
  obtain ⟨v, h3, h4⟩ := run_loadVar_at (A := ks L ++ c.A0) (off := 0) tt hob (by omega) (by rw [List.drop_zero, ← hl, List.take_length]; exact hrep)
  exact ⟨v, by simp [resOne, h1, asAddr, h3], holds_drop h4⟩

def Post (c : Cx) (ρ : VP) : Ending → World → Prop := fun e W' => ∃ v, e = .returned v ∧ Fr c.X c.W0 W' ∧ ρ.holds c.A0 W' v

theorem To.end0 {fn : Func} (hr : fn.results = #[]) (hds : c.ds = [] := by rfl) : To c (bodyPost c.P fn (Post c (.tup []))) .ret E L := fun a W s =>
  ⟨s.nodefers hds, .tuple #[], by simp [results_eq, hr], _, rfl, s.fr, #[], rfl, .nil⟩

theorem To.end1 {fn : Func} {r : ResultVar} {τ : VP} (hr : fn.results = #[r]) (h : RV c E L r τ) (hds : c.ds = [] := by rfl) : To c (bodyPost c.P fn (Post c τ)) .ret E L := fun a W s => by
  obtain ⟨v, h1, h2⟩ := h a W s
  exact ⟨s.nodefers hds, v, by simp [results_eq, hr, h1], v, rfl, s.fr, h2⟩

theorem To.end2 {fn : Func} {r r2 : ResultVar} {τ τ2 : VP} (hr : fn.results = #[r, r2]) (h : RV c E L r τ) (h2 : RV c E L r2 τ2) (hds : c.ds = [] := by rfl) : To c (bodyPost c.P fn (Post c (.tup [τ, τ2]))) .ret E L := fun a W s => by
  obtain ⟨v, h3, h4⟩ := h a W s
  obtain ⟨v2, h5, h6⟩ := h2 a W s
  exact ⟨s.nodefers hds, .tuple #[v, v2], by simp [results_eq, hr, h3, h5], _, rfl, s.fr, _, rfl, .cons h4 (.cons h6 .nil)⟩

theorem To.end3 {fn : Func} {r r2 r3 : ResultVar} {τ τ2 τ3 : VP} (hr : fn.results = #[r, r2, r3]) (h : RV c E L r τ) (h2 : RV c E L r2 τ2) (h3 : RV c E L r3 τ3) (hds : c.ds = [] := by rfl) : To c (bodyPost c.P fn (Post c (.tup [τ, τ2, τ3]))) .ret E L := fun a W s => by
  obtain ⟨v, h4, h5⟩ := h a W s
  obtain ⟨v2, h6, h7⟩ := h2 a W s
  obtain ⟨v3, h8, h9⟩ := h3 a W s
  exact ⟨s.nodefers hds, .tuple #[v, v2, v3], by simp [results_eq, hr, h4, h6, h8], _, rfl, s.fr, _, rfl, .cons h5 (.cons h7 (.cons h9 .nil))⟩

theorem To.end4 {fn : Func} {r r2 r3 r4 : ResultVar} {τ τ2 τ3 τ4 : VP} (hr : fn.results = #[r, r2, r3, r4]) (h : RV c E L r τ) (h2 : RV c E L r2 τ2) (h3 : RV c E L r3 τ3) (h4 : RV c E L r4 τ4) (hds : c.ds = [] := by rfl) : To c (bodyPost c.P fn (Post c (.tup [τ, τ2, τ3, τ4]))) .ret E L := fun a W s => by
  obtain ⟨v, e1, f1⟩ := h a W s
  obtain ⟨v2, e2, f2⟩ := h2 a W s
  obtain ⟨v3, e3, f3⟩ := h3 a W s
  obtain ⟨v4, e4, f4⟩ := h4 a W s
  exact ⟨s.nodefers hds, .tuple #[v, v2, v3, v4], by simp [results_eq, hr, e1, e2, e3, e4], _, rfl, s.fr, _, rfl, .cons f1 (.cons f2 (.cons f3 (.cons f4 .nil)))⟩

theorem Meets.of {P : Program} {f : FuncId} {fn : Func} {code : Code} {n : Nat} {τs : List VP} {ρ : VP} (hf : P.funcs[f]? = some fn) (hb : fn.body = some code) (hn : fn.ntmps = n) (hlen : Nat.ble τs.length n = true)
    (h : ∀ W A, Wp ⟨P, n, W, [], A, none, []⟩ (bodyPost P fn (Post ⟨P, n, W, [], A, none, []⟩ ρ)) code (params 0 τs) []) : Meets P f τs ρ := Meets.enter hf hb hn hlen h
end

/-! ### Tests of equality -/

/-- two values of this type are compared in less than k levels -/
structure Eqv (P : Program) (t : TypeId) (α : Type) [Rp α] [DecidableEq α] (k : Nat) : Prop where
  run : ∀ d, k ≤ d → ∀ A W u v (x y : α), (VP.of x).holds A W u → (VP.of y).holds A W v → (Op.equalIn d t u v).run P W = .ok (decide (x = y)) W

theorem eqv_int {P t K} (h : P.underlying t = some (.int K)) : Eqv P t Int 1 where
  run d hd A W u v x y hx hy := by
    obtain ⟨d, rfl⟩ : ∃ e, d = e + 1 := ⟨d - 1, by omega⟩
    rw [of_int.1 hx, of_int.1 hy, run_equalIn_int W d t .i64 K x y h]
    congr 1
theorem eqv_u64 {P t K} (h : P.underlying t = some (.int K)) : Eqv P t (BitVec 64) 1 where
  run d hd A W u v x y hx hy := by
    obtain ⟨d, rfl⟩ : ∃ e, d = e + 1 := ⟨d - 1, by omega⟩
    rw [of_u64.1 hx, of_u64.1 hy, run_equalIn_int W d t .u64 K _ _ h]
    congr 1
    rw [Bool.eq_iff_iff]; simp only [beq_iff_eq, decide_eq_true_eq]
    exact ⟨fun h => BitVec.eq_of_toNat_eq (by omega), fun h => by rw [h]⟩
theorem eqv_u32 {P t K} (h : P.underlying t = some (.int K)) : Eqv P t (BitVec 32) 1 where
  run d hd A W u v x y hx hy := by
    obtain ⟨d, rfl⟩ : ∃ e, d = e + 1 := ⟨d - 1, by omega⟩
    rw [of_u32.1 hx, of_u32.1 hy, run_equalIn_int W d t .u32 K _ _ h]
    congr 1
    rw [Bool.eq_iff_iff]; simp only [beq_iff_eq, decide_eq_true_eq]
    exact ⟨fun h => BitVec.eq_of_toNat_eq (by omega), fun h => by rw [h]⟩
theorem eqv_u16 {P t K} (h : P.underlying t = some (.int K)) : Eqv P t (BitVec 16) 1 where
  run d hd A W u v x y hx hy := by
    obtain ⟨d, rfl⟩ : ∃ e, d = e + 1 := ⟨d - 1, by omega⟩
    rw [of_u16.1 hx, of_u16.1 hy, run_equalIn_int W d t .u16 K _ _ h]
    congr 1
    rw [Bool.eq_iff_iff]; simp only [beq_iff_eq, decide_eq_true_eq]
    exact ⟨fun h => BitVec.eq_of_toNat_eq (by omega), fun h => by rw [h]⟩
theorem eqv_u8 {P t K} (h : P.underlying t = some (.int K)) : Eqv P t (BitVec 8) 1 where
  run d hd A W u v x y hx hy := by
    obtain ⟨d, rfl⟩ : ∃ e, d = e + 1 := ⟨d - 1, by omega⟩
    rw [of_u8.1 hx, of_u8.1 hy, run_equalIn_int W d t .u8 K _ _ h]
    congr 1
    rw [Bool.eq_iff_iff]; simp only [beq_iff_eq, decide_eq_true_eq]
    exact ⟨fun h => BitVec.eq_of_toNat_eq (by omega), fun h => by rw [h]⟩
theorem eqv_bool {P t} (h : P.underlying t = some .bool) : Eqv P t Bool 1 where
  run d hd A W u v x y hx hy := by
    obtain ⟨d, rfl⟩ : ∃ e, d = e + 1 := ⟨d - 1, by omega⟩
    rw [of_bool.1 hx, of_bool.1 hy, run_equalIn_bool' W d t x y h]
    congr 1

/-- a loop that ends with false as soon as one answer is no -/
theorem run_forIn_all {P : Program} {W : World} (f : Nat → Sem Bool) (p : Nat → Bool) : ∀ (l : List Nat), (∀ i ∈ l, (f i).run P W = .ok (p i) W) →
    (forIn (m := Sem) l ((none, ()) : Option Bool × Unit) (fun i _ => do
        let __do_lift ← f i
        if (!__do_lift) = true then pure (ForInStep.done (some false, ())) else
          pure (ForInStep.yield (none, ())))).run P W = .ok (if l.all p then (none, ()) else (some false, ())) W
  | [], _ => by simp
  | i :: r, h => by
    have h1 := h i (by simp)
    have h2 := run_forIn_all (P := P) (W := W) f p r (fun j hj => h j (by simp [hj]))
    cases hp : p i with
    | false => simp [List.forIn_cons, h1, hp]
    | true =>
      rw [List.forIn_cons]
      simp only [Sem.run_bind, h1, hp, Result.andThen_ok, Bool.not_true, Bool.false_eq_true, if_false, Sem.run_pure]
      rw [h2]
      simp [hp]

theorem eqv_arr {P t e n k} {α : Type} [Rp α] [Inhabited α] [DecidableEq α] (h : P.underlying t = some (.array n e)) (te : Ty P e α) (he : Eqv P e α k) : Eqv P t (Vector α n) (k + 1) where
  run d hd A W u v x y hx hy := by
    obtain ⟨d, rfl⟩ : ∃ e, d = e + 1 := ⟨d - 1, by omega⟩
    obtain ⟨h1, h2⟩ := hx
    obtain ⟨h3, h4⟩ := hy
    obtain ⟨xs, rfl⟩ : ∃ cs, u = .agg cs := by simpa [shaped, Rp.agg] using h1
    obtain ⟨ys, rfl⟩ : ∃ cs, v = .agg cs := by simpa [shaped, Rp.agg] using h3
    simp only [Value.cells] at h2 h4
    have hlx : xs.toList.length = n * Rp.size α := Rp.len h2
    have hly : ys.toList.length = n * Rp.size α := Rp.len h4
    have hstep : ∀ i ∈ List.range' 0 n, ((do
        let a ← part e xs (i * Rp.size α)
        let b ← part e ys (i * Rp.size α)
        Op.equalIn d e a b) : Sem Bool).run P W = .ok (decide (vget x i = vget y i)) W := by
      intro i hi
      have hi' : i < n := by simpa using hi
      have hin : i * Rp.size α + Rp.size α ≤ n * Rp.size α := (Lens.idx (α := α) n i hi').inb
      obtain ⟨a, ha, hra⟩ := run_part (A := A) (P := P) (W := W) (cs := xs) (off := i * Rp.size α) te (by simp at hlx; omega) ((Lens.idx (α := α) n i hi').get_rep h2)
      obtain ⟨b, hb, hrb⟩ := run_part (A := A) (P := P) (W := W) (cs := ys) (off := i * Rp.size α) te (by simp at hly; omega) ((Lens.idx (α := α) n i hi').get_rep h4)
      simp only [Sem.run_bind, ha, hb, Result.andThen_ok]
      exact he.run d (by omega) A W a b _ _ hra hrb
    have hf := run_forIn_all (P := P) (W := W) _ _ _ hstep
    have hall : (List.range' 0 n).all (fun i => decide (vget x i = vget y i)) = decide (x = y) := by
      rw [Bool.eq_iff_iff, List.all_eq_true, decide_eq_true_eq]
      constructor
      · intro h
        apply Vector.ext
        intro i hi
        have := h i (by simpa using hi)
        simpa [vget, hi] using this
      · rintro rfl i _
        simp
    rw [hall] at hf
    simp only [Op.equalIn, Sem.run_bind, run_underlying h, Result.andThen_ok, te.sizeOf, Std.Legacy.Range.forIn_eq_forIn_range']
    simp only [Std.Legacy.Range.size, Nat.sub_zero, Nat.add_one_sub_one, Nat.div_one] at hf ⊢
    simp only [bind_assoc] at hf
    rw [hf]
    by_cases hxy : x = y
    · simp [hxy]
    · simp [hxy]

end Gv
