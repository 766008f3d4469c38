/-
  The library of the decompiler, part G: slices that nobody writes any more (they read as lists), slices of the call's own, values put together, tests of equality as operations. Conditions: none; it is about whatever program.
-/
import Derived.Test.YtodajdohokmjnaaGvF
namespace Gv
open Go
set_option linter.unusedVariables false
set_option linter.unusedSimpArgs false

/-! ### Tests of equality -/
section
variable {c : Cx} {E : List (Nat × VP)} {L : List Ent} {ops : Array Oper} {Q : Exit → Act → World → Prop}
variable {d : Option Tmp} {ty : TypeId} {pos : String} {af : Array Edge} {g : Option (Nat × Bool)} {x y : Operand} {t t2 : TypeId}

theorem r_eqA {α : Type} [Rp α] [DecidableEq α] {k : Nat} {a b : α} (ev : Eqv c.P t α k) (hk : Nat.ble k 10000 = true) (hg : c.P.eqGuardType c.P.depth t = false) (ha : Rp.agg α = true) (hx : Look c E L x (.of a)) (hy : Look c E L y (.of b)) :
    HR c E L ⟨d, .binOp .eql t x y t2, ty, pos, af, g⟩ (.of (decide (a = b))) := .pure fun A W s => by
  have h1 := hx A W s
  have h2 := hy A W s
  obtain ⟨xs, hxs⟩ : ∃ cs, A.eval x = .agg cs := by simpa [shaped, ha] using h1.1
  obtain ⟨ys, hys⟩ : ∃ cs, A.eval y = .agg cs := by simpa [shaped, ha] using h2.1
  have h3 := ev.run 10000 (Nat.le_of_ble_eq_true hk) _ W _ _ a b h1 h2
  rw [hxs, hys] at h3
  refine ⟨.bool (decide (a = b)), ?_, of_bool.2 rfl⟩
  simp only [execOp, hxs, hys, Sem.run_bind, run_eqGuard_agg W .eql t x y xs ys hg, Result.andThen_ok, run_eql_struct, h3, Sem.run_pure]

theorem r_neA {α : Type} [Rp α] [DecidableEq α] {k : Nat} {a b : α} (ev : Eqv c.P t α k) (hk : Nat.ble k 10000 = true) (hg : c.P.eqGuardType c.P.depth t = false) (ha : Rp.agg α = true) (hx : Look c E L x (.of a)) (hy : Look c E L y (.of b)) :
    HR c E L ⟨d, .binOp .neq t x y t2, ty, pos, af, g⟩ (.of (!decide (a = b))) := .pure fun A W s => by
  have h1 := hx A W s
  have h2 := hy A W s
  obtain ⟨xs, hxs⟩ : ∃ cs, A.eval x = .agg cs := by simpa [shaped, ha] using h1.1
  obtain ⟨ys, hys⟩ : ∃ cs, A.eval y = .agg cs := by simpa [shaped, ha] using h2.1
  have h3 := ev.run 10000 (Nat.le_of_ble_eq_true hk) _ W _ _ a b h1 h2
  rw [hxs, hys] at h3
  refine ⟨.bool (!decide (a = b)), ?_, of_bool.2 rfl⟩
  simp only [execOp, hxs, hys, Sem.run_bind, run_eqGuard_agg W .neq t x y xs ys hg, Result.andThen_ok, run_neq_struct, h3, Sem.run_pure]

end

theorem eqf_nil {P : Program} {W : World} {d : Nat} {xs ys : Array Value} : (Op.eqFields d xs ys []).run P W = .ok true W := rfl

theorem eqf_cons {P : Program} {A : List Nat} {W : World} {d : Nat} {xs ys : Array Value} {β γ : Type} [Rp β] [Rp γ] [DecidableEq γ] (l : Lens β γ) {bx bY : β} {fd : Field} {fs : List Field} {k : Nat} {r : Bool} (te : Ty P fd.type γ) (ho : fd.offset = l.off) (hn : (fd.name == "_") = false)
    (ev : Eqv P fd.type γ k) (hd : k ≤ d) (hx : Rp.rep A W xs.toList bx) (hy : Rp.rep A W ys.toList bY) (hr : (Op.eqFields d xs ys fs).run P W = .ok r W) :
    (Op.eqFields d xs ys (fd :: fs)).run P W = .ok (decide (l.get bx = l.get bY) && r) W := by
  have hlx : xs.toList.length = Rp.size β := Rp.len hx
  have hly : ys.toList.length = Rp.size β := Rp.len hy
  have hin := l.inb
  obtain ⟨a, ha, hra⟩ := run_part (A := A) (P := P) (W := W) (cs := xs) (off := l.off) te (by simp at hlx; omega) (l.get_rep hx)
  obtain ⟨b, hb, hrb⟩ := run_part (A := A) (P := P) (W := W) (cs := ys) (off := l.off) te (by simp at hly; omega) (l.get_rep hy)
  have hn' : fd.name ≠ "_" := fun e => by rw [e] at hn; simp at hn
  simp only [Op.eqFields, if_pos hn', Sem.run_bind, ho, ha, hb, Result.andThen_ok, ev.run d hd A W a b _ _ hra hrb]
  by_cases h : l.get bx = l.get bY
  · simp [h, hr]
  · simp [h]

theorem eqv_struct {P : Program} {t : TypeId} {β : Type} [Rp β] [DecidableEq β] {k : Nat} {fs : Array Field} (ha : Rp.agg β = true) (hu : P.underlying t = some (.struct fs)) (hp : P.stoodInHeld t = false)
    (h : ∀ d, k ≤ d → ∀ A W (xs ys : Array Value) (x y : β), Rp.rep A W xs.toList x → Rp.rep A W ys.toList y → (Op.eqFields d xs ys fs.toList).run P W = .ok (decide (x = y)) W) : Eqv P t β (k + 1) where
  run d hd A W u v x y hx hy := by
    obtain ⟨d, rfl⟩ : ∃ e, d = e + 1 := ⟨d - 1, by omega⟩
    obtain ⟨xs, rfl⟩ : ∃ cs, u = .agg cs := by simpa [shaped, ha] using hx.1
    obtain ⟨ys, rfl⟩ : ∃ cs, v = .agg cs := by simpa [shaped, ha] using hy.1
    have hf : P.fieldsOf t = fs := by simp [Program.fieldsOf, hu]
    rw [run_equalIn_struct W d t xs ys (by rw [hf]; exact hu) hp, hf]
    exact h d (by omega) A W xs ys x y (by simpa [Value.cells] using hx.2) (by simpa [Value.cells] using hy.2)

/-! ### Values put together -/

theorem run_fieldSizes {P : Program} {W : World} (fs : Array Field) (h : fs.all (fun f => (P.info? f.type).isSome) = true) :
    (fs.mapM (m := Sem) fun f => do pure (f.offset, ← Go.sizeOf f.type)).run P W = .ok (fs.map fun f => (f.offset, P.cellsOf f.type)) W := by
  obtain ⟨l⟩ := fs
  have key : ∀ (l : List Field), l.all (fun f => (P.info? f.type).isSome) = true → (l.mapM (m := Sem) fun f => do pure (f.offset, ← Go.sizeOf f.type)).run P W = .ok (l.map fun f => (f.offset, P.cellsOf f.type)) W := by
    intro l
    induction l with
    | nil => intro _; rfl
    | cons f r ih =>
      intro h
      simp only [List.all_cons, Bool.and_eq_true] at h
      obtain ⟨i, hi⟩ := Option.isSome_iff_exists.1 h.1
      rw [List.mapM_cons]
      simp only [Sem.run_bind, Go.sizeOf, typeInfo, run_program, Result.andThen_ok, hi, Sem.run_pure]
      have := ih h.2
      simp only [Sem.run_bind, Go.sizeOf, typeInfo] at this
      rw [this]
      simp [Program.cellsOf, hi]
  have h' : l.all (fun f => (P.info? f.type).isSome) = true := by simpa using h
  rw [List.mapM_toArray]
  simp only [Sem.run_map, key l h', Result.andThen_ok]
  simp

theorem fold_splice (ds : List Value) (off : Nat) : ∀ (j : Nat) (cs : Array Value), off + j + ds.length ≤ cs.size →
    (ds.zipIdx j).foldl (fun cs (c, j) => cs.setIfInBounds (off + j) c) cs = (cs.toList.take (off + j) ++ ds ++ cs.toList.drop (off + j + ds.length)).toArray := by
  induction ds with
  | nil => intro j cs _; simp
  | cons v r ih =>
    intro j cs h
    simp only [List.length_cons] at h
    rw [List.zipIdx_cons, List.foldl_cons, ih (j + 1) _ (by simp; omega)]
    simp only [Array.toList_setIfInBounds]
    have := list_seg_step cs.toList (off + j) v r (by simp; omega)
    rw [show off + (j + 1) = off + j + 1 by omega]
    simp only [List.length_cons]
    rw [this]

theorem run_fill {place : Nat → Option (Nat × Nat)} {cs : Array Value} {i off sz : Nat} {v : Value} {rest : List (Nat × Value)} (hp : place i = some (off, sz)) (hv : v.cells.size = sz) (hle : off + sz ≤ cs.size) :
    Instr.fill place cs ((i, v) :: rest) = Instr.fill place (splice cs.toList off v.cells.toList).toArray rest := by
  simp only [Instr.fill, hp]
  rw [if_neg (by simp [hv]; omega)]
  have := fold_splice v.cells.toList off 0 cs (by simp [hv]; omega)
  simp only [Nat.add_zero] at this
  congr 1
  rw [← Array.foldl_toList]
  have hz : (v.cells.zipIdx).toList = v.cells.toList.zipIdx := by simp
  rw [hz, this]
  simp [splice]

section
variable {c : Cx} {E : List (Nat × VP)} {L : List Ent} {ops : Array Oper} {Q : Exit → Act → World → Prop}
variable {d : Option Tmp} {ty : TypeId} {pos : String} {af : Array Edge} {g : Option (Nat × Bool)} {x y : Operand} {t t2 : TypeId}

/-- the parts of a value, one behind the other -/
inductive Fills (c : Cx) (E : List (Nat × VP)) (L : List Ent) (place : Nat → Option (Nat × Nat)) {β : Type} [Rp β] : β → List (Nat × Operand) → β → Prop
  | nil {b} : Fills c E L place b [] b
  | cons {b b1 b' : β} {γ : Type} [Rp γ] {v : γ} {i : Nat} {x : Operand} {r : List (Nat × Operand)} (l : Lens β γ) : place i = some (l.off, Rp.size γ) → Look c E L x (.of v) → l.set b v = b1 → Fills c E L place b1 r b' → Fills c E L place b ((i, x) :: r) b'

theorem Fills.run {place : Nat → Option (Nat × Nat)} {β : Type} [Rp β] {b b' : β} {ps : List (Nat × Operand)} (h : Fills c E L place b ps b') : ∀ a W, St c E L a W → ∀ cs : Array Value, Rp.rep (ks L ++ c.A0) W cs.toList b →
    ∃ cs', Instr.fill place cs (ps.map fun (i, x) => (i, a.eval x)) = some cs' ∧ Rp.rep (ks L ++ c.A0) W cs'.toList b' := by
  induction h with
  | nil => intro a W s cs hr; exact ⟨cs, rfl, hr⟩
  | @cons b b1 b' γ _ v i x r l h1 h2 h3 _ ih =>
    intro a W s cs hr
    subst h3
    have hv := h2 a W s
    have hsz : (a.eval x).cells.size = Rp.size γ := by have := Rp.len hv.2; simpa using this
    have hl : cs.toList.length = Rp.size β := Rp.len hr
    have hin := l.inb
    rw [List.map_cons, run_fill h1 hsz (by simp at hl; omega)]
    refine ih a W s _ ?_
    have := l.set_rep hr hv.2
    simpa [splice, Rp.len hv.2] using this

/-- where the fields of struct type t lie, and their sizes -/
structure Bu (P : Program) (t : TypeId) (pl : Array (Nat × Nat)) : Prop where
  at_ : ∃ fs, P.underlying t = some (.struct fs) ∧ fs.all (fun f => (P.info? f.type).isSome) = true ∧ (fs.map fun f => (f.offset, P.cellsOf f.type)) = pl

theorem r_build {β : Type} [Rp β] {z b : β} {ps : List (Nat × Operand)} {pl : Array (Nat × Nat)} (ha : Rp.agg β = true) (bu : Bu c.P t pl) (zr : Zr c.P t z)
    (hf : Fills c E L (pl[·]?) z ps b) : HR c E L ⟨d, .build t ps.toArray, ty, pos, af, g⟩ (.of b) := .pure fun a W s => by
  obtain ⟨fs, hu, hs, rfl⟩ := bu.at_
  obtain ⟨i, zv, h1, h2, h3⟩ := zr.zero
  obtain ⟨cs', h4, h5⟩ := hf.run a W s zv.cells (h3 _ _).2
  refine ⟨.agg cs', ?_, by simp [shaped, ha], by simpa [Value.cells] using h5⟩
  have hm : (ps.toArray.map fun (x : Nat × Operand) => (x.1, a.eval x.2)).toList = ps.map fun (i, x) => (i, a.eval x) := by simp
  simp only [execOp, Instr.build, Sem.run_bind, zeroValue, typeInfo, run_program, Result.andThen_ok, h1, h2, Sem.run_pure, run_underlying hu, run_fieldSizes fs hs]
  rw [hm, h4]
  rfl

theorem r_buildA {β : Type} [Rp β] {z b : β} {ps : List (Nat × Operand)} {n e sz : Nat} (ha : Rp.agg β = true) (hu : c.P.underlying t = some (.array n e)) (hs : (c.P.info? e).map (·.size) = some sz) (zr : Zr c.P t z)
    (hf : Fills c E L (fun i => some (i * sz, sz)) z ps b) : HR c E L ⟨d, .build t ps.toArray, ty, pos, af, g⟩ (.of b) := .pure fun a W s => by
  obtain ⟨i, zv, h1, h2, h3⟩ := zr.zero
  obtain ⟨ie, hie, hsz⟩ : ∃ ie, c.P.info? e = some ie ∧ ie.size = sz := by
    cases hi : c.P.info? e with
    | none => simp [hi] at hs
    | some ie => exact ⟨ie, rfl, by simpa [hi] using hs⟩
  obtain ⟨cs', h4, h5⟩ := hf.run a W s zv.cells (h3 _ _).2
  refine ⟨.agg cs', ?_, by simp [shaped, ha], by simpa [Value.cells] using h5⟩
  have hm : (ps.toArray.map fun (x : Nat × Operand) => (x.1, a.eval x.2)).toList = ps.map fun (i, x) => (i, a.eval x) := by simp
  simp only [execOp, Instr.build, Sem.run_bind, zeroValue, typeInfo, run_program, Result.andThen_ok, h1, h2, Sem.run_pure, run_underlying hu, Go.sizeOf, hie, hsz]
  rw [hm, h4]
  rfl
end

/-! ### Lists -/

/-- a slice that nobody writes any more -/
def Sl {α : Type} [Rp α] (A : List Nat) (W : World) (v : Value) (xs : List α) : Prop :=
  (v = .slice none 0 0 ∧ xs = []) ∨
  ∃ b off cap cur T fz, v = .slice (some ⟨b, off, none⟩) xs.length cap ∧ b ∉ A ∧ W.heap[b]? = some (.cells cur T fz) ∧ xs.length ≤ cap ∧ xs.length ≤ maxLen ∧ off + xs.length * Rp.size α ≤ cur.size ∧
    Reps A W ((cur.toList.drop off).take (xs.length * Rp.size α)) xs

theorem Sl.mono {α : Type} [Rp α] {A W A' W' v} {xs : List α} (e : Ext A W A' W') (h : Sl A W v xs) : Sl A' W' v xs := by
  rcases h with h | ⟨b, off, cap, cur, T, fz, h1, h2, h3, h4, h5, h6, h7⟩
  · exact .inl h
  · have hlt : b < W.heap.size := (Array.getElem?_eq_some_iff.1 h3).1
    exact .inr ⟨b, off, cap, cur, T, fz, h1, fun hm => h2 (e.new b hm hlt), by rw [e.block b hlt h2]; exact h3, h4, h5, h6, h7.mono e⟩

instance instRpList {α : Type} [Rp α] : Rp (List α) where
  size := 1
  agg := false
  rep A W cs xs := ∃ v, cs = [v] ∧ Sl A W v xs
  len h := by obtain ⟨v, rfl, _⟩ := h; rfl
  one h := by
    obtain ⟨v, rfl, h⟩ := h
    intro u hu
    rw [List.mem_singleton.1 hu]
    rcases h with ⟨rfl, _⟩ | ⟨b, off, cap, cur, T, fz, rfl, _⟩ <;> rfl
  flat _ := rfl
  mono e h := let ⟨v, h1, h2⟩ := h; ⟨v, h1, h2.mono e⟩

theorem Sl.one {α : Type} [Rp α] {A W v} {xs : List α} (h : Sl A W v xs) : v.oneCell' = true := by
  rcases h with ⟨rfl, _⟩ | ⟨b, off, cap, cur, T, fz, rfl, _⟩ <;> rfl

theorem of_list {α : Type} [Rp α] {A W v} {xs : List α} : (VP.of xs).holds A W v ↔ Sl A W v xs := by
  constructor
  · rintro ⟨h1, u, h2, h3⟩
    have : v = u := toList_one h1 h2
    rw [this]; exact h3
  · intro h
    exact ⟨h.one, v, by rw [cells_one h.one], h⟩

/-- element k -/
def lget {α : Type} [Inhabited α] (xs : List α) (k : Nat) : α := xs[k]?.getD default
theorem lget_eq {α : Type} [Inhabited α] (xs : List α) {k : Nat} (h : k < xs.length) : lget xs k = xs[k] := by simp [lget, h]

/-- a part of a list; none: out of range -/
def sliceM {α : Type} (xs : List α) (lo hi : Int) : Option (List α) := if 0 ≤ lo ∧ lo ≤ hi ∧ hi ≤ xs.length then some ((xs.drop lo.toNat).take (hi.toNat - lo.toNat)) else none
theorem sliceM_some {α : Type} {xs r : List α} {lo hi : Int} (h : sliceM xs lo hi = some r) : ∃ a b : Nat, lo = a ∧ hi = b ∧ a ≤ b ∧ b ≤ xs.length ∧ r = (xs.drop a).take (b - a) := by
  unfold sliceM at h
  split at h
  · rename_i hc
    simp only [Option.some.injEq] at h
    exact ⟨lo.toNat, hi.toNat, by omega, by omega, by omega, by omega, h.symm⟩
  · cases h

/-- appended; none: more than memory bears -/
def appM {α : Type} (bytes : Nat) (xs ys : List α) : Option (List α) := if (xs.length + ys.length) * bytes ≤ 140737488355328 ∧ xs.length + ys.length ≤ maxLen then some (xs ++ ys) else none
theorem appM_some {α : Type} {bytes : Nat} {xs ys r : List α} (h : appM bytes xs ys = some r) : (xs.length + ys.length) * bytes ≤ 140737488355328 ∧ xs.length + ys.length ≤ maxLen ∧ r = xs ++ ys := by
  unfold appM at h
  split at h
  · rename_i hc; simp only [Option.some.injEq] at h; exact ⟨hc.1, hc.2, h.symm⟩
  · cases h

section
variable {c : Cx} {E : List (Nat × VP)} {L : List Ent} {ops : Array Oper} {Q : Exit → Act → World → Prop}
variable {d : Option Tmp} {ty : TypeId} {pos : String} {af : Array Edge} {g : Option (Nat × Bool)} {x y : Operand} {t t2 : TypeId}

theorem look_nil {α : Type} [Rp α] : Look c E L (.const (.slice none 0 0)) (.of ([] : List α)) := fun _ _ _ => of_list.2 (.inl ⟨rfl, rfl⟩)

theorem Sl.len {α : Type} [Rp α] {A W v} {xs : List α} (h : Sl A W v xs) : ∃ a cap, v = .slice a xs.length cap := by
  rcases h with ⟨rfl, rfl⟩ | ⟨b, off, cap, cur, T, fz, rfl, _⟩
  · exact ⟨none, 0, rfl⟩
  · exact ⟨_, _, rfl⟩

theorem r_len {α : Type} [Rp α] {xs : List α} {e : TypeId} (hu : c.P.underlying t = some (.slice e)) (hx : Look c E L x (.of xs)) : HR c E L ⟨d, .call ⟨.builtin .len, #[x], #[t]⟩, ty, pos, af, g⟩ (.of (xs.length : Int)) := .pure fun a W s => by
  obtain ⟨b, cap, h1⟩ := (of_list.1 (hx a W s)).len
  exact ⟨.int .i64 xs.length, by simp [execOp, resolve, invoke, builtin, Builtin.len_, h1, run_underlying hu, goInt], of_int.2 rfl⟩

theorem r_lens {s0 : ByteArray} (hu : c.P.underlying t = some .string) (hx : Look c E L x (.of s0)) : HR c E L ⟨d, .call ⟨.builtin .len, #[x], #[t]⟩, ty, pos, af, g⟩ (.of (s0.size : Int)) := .pure fun a W s =>
  ⟨.int .i64 s0.size, by simp [execOp, resolve, invoke, builtin, Builtin.len_, of_str.1 (hx a W s), run_underlying hu, goInt], of_int.2 rfl⟩

theorem r_ias {α : Type} [Rp α] [Inhabited α] {xs : List α} {e : TypeId} {i : Int} {k : Nat} (hu : c.P.underlying t = some (.slice e)) (te : Ty c.P e α) (hx : Look c E L x (.of xs)) (hy : Look c E L y (.of i)) (hk : k < xs.length ∧ i = k) :
    HR c E L ⟨d, .indexAddr t x y, ty, pos, af, g⟩ (.ptr (lget xs k)) := .pure fun a W s => by
  obtain ⟨h6, rfl⟩ := hk
  have h5 := of_int.1 (hy a W s)
  rcases of_list.1 (hx a W s) with ⟨_, rfl⟩ | ⟨b, off, cap, cur, T, fz, h1, h2, h3, h4, h7, h8, h9⟩
  · simp at h6
  · obtain ⟨ie, hie, hsz⟩ := te.info
    have hle : (k + 1) * Rp.size α ≤ xs.length * Rp.size α := Nat.mul_le_mul_right _ h6
    rw [Nat.succ_mul] at hle
    refine ⟨.pointer (some ⟨b, off + k * Rp.size α, none⟩), ?_, b, off + k * Rp.size α, cur, T, fz, rfl, h2, h3, by omega, ?_⟩
    · simp [execOp, Instr.indexAt, asIntOf, run_underlying hu, h1, h5, h6, Go.sizeOf, typeInfo, hie, hsz, addr_add]
    · have := h9.2 k h6
      rw [take_drop_in _ _ _ _ _ hle] at this
      rw [lget_eq xs h6]
      exact this

/-- 's[lo:hi]' -/
theorem run_sliceB {P : Program} {W : World} {v : Value} {k : IntKind} {n m : Nat} {code : BoundsCode} (h : n ≤ m) (hv : v = .int k n) : (Instr.sliceBound v m code).run P W = .ok n W := by
  subst hv
  have h0 : (n : Int) ≤ (m : Int) := by omega
  simp [Instr.sliceBound, asIntOf, h]

theorem sl_part {α : Type} [Rp α] {A W} {xs : List α} {b off cap : Nat} {cur : Array Value} {T : TypeId} {fz : Nat × Nat} {lo hi : Nat} (h2 : b ∉ A) (h3 : W.heap[b]? = some (.cells cur T fz)) (h4 : xs.length ≤ cap) (h7 : xs.length ≤ maxLen)
    (h8 : off + xs.length * Rp.size α ≤ cur.size) (h9 : Reps A W ((cur.toList.drop off).take (xs.length * Rp.size α)) xs) (h : lo ≤ hi) (h' : hi ≤ xs.length) :
    Sl A W (.slice (some (if cap = lo then ⟨b, off, none⟩ else ⟨b, off + lo * Rp.size α, none⟩)) (hi - lo) (cap - lo)) ((xs.drop lo).take (hi - lo)) := by
  have hl : ((xs.drop lo).take (hi - lo)).length = hi - lo := by simp; omega
  have hm : hi * Rp.size α ≤ xs.length * Rp.size α := Nat.mul_le_mul_right _ h'
  have hml : lo * Rp.size α ≤ hi * Rp.size α := Nat.mul_le_mul_right _ h
  have hd : (hi - lo) * Rp.size α = hi * Rp.size α - lo * Rp.size α := Nat.sub_mul _ _ _
  by_cases e : cap = lo
  · subst e
    have h0 : hi = cap := by omega
    subst h0
    refine .inr ⟨b, off, hi - hi, cur, T, fz, by simp, h2, h3, by simp, by simp, by simp; omega, ?_⟩
    simp only [Nat.sub_self, List.take_zero, List.length_nil, Nat.zero_mul]
    exact ⟨by simp, fun i hi => by simp at hi⟩
  · rw [if_neg e]
    refine .inr ⟨b, off + lo * Rp.size α, cap - lo, cur, T, fz, by rw [hl], h2, h3, by omega, by omega, by rw [hl]; omega, ?_⟩
    rw [hl]
    refine ⟨by simp only [hl, List.length_take, List.length_drop]; simp; omega, fun i hi' => ?_⟩
    rw [hl] at hi'
    have h10 := h9.2 (lo + i) (by omega)
    have hle : (lo + i + 1) * Rp.size α ≤ xs.length * Rp.size α := Nat.mul_le_mul_right _ (by omega)
    have hle2 : (i + 1) * Rp.size α ≤ (hi - lo) * Rp.size α := Nat.mul_le_mul_right _ (by omega)
    rw [Nat.succ_mul] at hle hle2
    rw [take_drop_in _ _ _ _ _ hle] at h10
    rw [take_drop_in _ _ _ _ _ hle2]
    have : ((xs.drop lo).take (hi - lo))[i]'(by rw [hl]; exact hi') = xs[lo + i] := by simp
    rw [this]
    rw [show off + lo * Rp.size α + i * Rp.size α = off + (lo + i) * Rp.size α by rw [Nat.add_mul]; omega]
    exact h10

/-- the bounds of a slice expression, as they are or left out -/
inductive Bd (c : Cx) (E : List (Nat × VP)) (L : List Ent) : Option Operand → Int → Int → Prop
  | none {n} : Bd c E L .none n n
  | some {x i n} : Look c E L x (.of (i : Int)) → Bd c E L (.some x) i n

theorem r_slice {α : Type} [Rp α] {xs r : List α} {e : TypeId} {lo hi : Option Operand} {i j : Int} (hu : c.P.underlying t = some (.slice e)) (te : Ty c.P e α) (hx : Look c E L x (.of xs)) (hlo : Bd c E L lo i 0) (hhi : Bd c E L hi j xs.length)
    (h : sliceM xs i j = some r) : HR c E L ⟨d, .slice t x lo hi none, ty, pos, af, g⟩ (.of r) := .pure fun a W s => by
  obtain ⟨m, n, rfl, rfl, hmn, hn, rfl⟩ := sliceM_some h
  obtain ⟨ie, hie, hsz⟩ := te.info
  rcases of_list.1 (hx a W s) with ⟨h1, rfl⟩ | ⟨b, off, cap, cur, T, fz, h1, h2, h3, h4, h7, h8, h9⟩
  · have hn0 : n = 0 := by simpa using hn
    have hm0 : m = 0 := by omega
    subst hn0
    subst hm0
    refine ⟨.slice none 0 0, ?_, of_list.2 (.inl ⟨rfl, by simp⟩)⟩
    have hL : (match lo.map a.eval with | some v => Instr.sliceBound v 0 .sliceB | none => pure 0 : Sem Nat).run c.P W = .ok 0 W := by
      cases hlo with
      | none => rfl
      | some hl => exact run_sliceB (Nat.le_refl _) (of_int.1 (hl a W s))
    have hH : (match hi.map a.eval, (none : Option Value) with | some v, some _ => Instr.sliceBound v 0 .slice3B | some v, none => Instr.sliceBound v 0 .sliceAcap | none, none => pure 0 | none, some _ => stuck "Slice: max without high" : Sem Nat).run c.P W = .ok 0 W := by
      cases hhi with
      | none => rfl
      | some hl => exact run_sliceB (Nat.le_refl _) (of_int.1 (hl a W s))
    cases hlo <;> cases hhi
    all_goals
      simp only [execOp, Instr.sliceAt, Instr.slice, Instr.sliceBounds, h1, Sem.run_bind, run_underlying hu, Result.andThen_ok, Option.map_none, Option.map_some, Option.isSome_none, Bool.false_eq_true, if_false, if_true, Sem.run_pure] at hL hH ⊢
      try simp only [hL, hH, Result.andThen_ok, Go.sizeOf, typeInfo, Sem.run_bind, run_program, hie, Sem.run_pure]
      try simp [hie]
  · refine ⟨.slice (some (if cap = m then ⟨b, off, none⟩ else ⟨b, off + m * Rp.size α, none⟩)) (n - m) (cap - m), ?_, of_list.2 (sl_part h2 h3 h4 h7 h8 h9 hmn hn)⟩
    have hL : ∀ v, v = Value.int .i64 m → (Instr.sliceBound v n .sliceB).run c.P W = .ok m W := fun v hv => run_sliceB hmn hv
    have hH : ∀ v, v = Value.int .i64 n → (Instr.sliceBound v cap .sliceAcap).run c.P W = .ok n W := fun v hv => run_sliceB (by omega) hv
    have hfin : (if cap = m then (some ⟨b, off, none⟩ : Option Addr) else (some (Addr.add ⟨b, off, none⟩ (m * Rp.size α)))) = some (if cap = m then ⟨b, off, none⟩ else ⟨b, off + m * Rp.size α, none⟩) := by
      split <;> simp [addr_add]
    generalize hin : (n : Int) = nI at hhi
    generalize him : (m : Int) = mI at hlo
    generalize hxl : (xs.length : Int) = xl at hhi
    generalize hzz : (0 : Int) = zz at hlo
    cases hlo with
    | none =>
      have hm0 : m = 0 := by omega
      cases hhi with
      | none =>
        have hnx : n = xs.length := by omega
        subst hnx
        subst hm0
        simp [execOp, Instr.sliceAt, Instr.slice, Instr.sliceBounds, h1, run_underlying hu, Go.sizeOf, typeInfo, hie, hsz, addr_add]
      | some hl =>
        have h5 := of_int.1 (hl a W s)
        rw [← hin] at h5
        have h6 := hH _ h5
        subst hm0
        simp [execOp, Instr.sliceAt, Instr.slice, Instr.sliceBounds, h1, run_underlying hu, Go.sizeOf, typeInfo, hie, hsz, addr_add, h6]
    | some hl =>
      have h5 := of_int.1 (hl a W s)
      rw [← him] at h5
      have h6 := hL _ h5
      cases hhi with
      | none =>
        have hnx : n = xs.length := by omega
        subst hnx
        simp only [execOp, Instr.sliceAt, Instr.slice, Instr.sliceBounds, h1, Sem.run_bind, run_underlying hu, Result.andThen_ok, Option.map_none, Option.map_some, Option.isSome_none, Bool.false_eq_true, if_false, if_true, Sem.run_pure, h6, Go.sizeOf, typeInfo, run_program, hie, hsz]
        rw [← hfin]
      | some hl' =>
        have h5' := of_int.1 (hl' a W s)
        rw [← hin] at h5'
        have h6' := hH _ h5'
        simp only [execOp, Instr.sliceAt, Instr.slice, Instr.sliceBounds, h1, Sem.run_bind, run_underlying hu, Result.andThen_ok, Option.map_none, Option.map_some, Option.isSome_none, Bool.false_eq_true, if_false, if_true, Sem.run_pure, h6, h6', Go.sizeOf, typeInfo, run_program, hie, hsz]
        rw [← hfin]
end
end Gv
