/-
  The library of the decompiler, part S: slices written out as the call's own; remainders and quotients of unsigned numbers. Conditions: none; it is about whatever program.
-/
import Derived.Test.YtodajdohokmjnaaGvR
namespace Gv
open Go
set_option linter.unusedVariables false
set_option linter.unusedSimpArgs false
section
variable {c : Cx} {E : List (Nat × VP)} {L : List Ent} {ops : Array Oper} {Q : Exit → Act → World → Prop}
variable {d : Option Tmp} {ty : TypeId} {pos : String} {af : Array Edge} {g : Option (Nat × Bool)} {x y : Operand} {t t2 : TypeId}

theorem Sq.bslO {α : Type} [Rp α] {rest : List Oper} {dd e n : Nat} {z : α} {r : List α} {ps : List (Nat × Operand)} (hu : c.P.underlying t = some (.slice e)) (te : Ty c.P e α) (zr : Zr c.P e z) (hs : Nat.beq (Rp.size α) 0 = false) (hn : Nat.ble (n * Rp.size α) 16777216 = true)
    (hf : FillsL c E L (List.replicate n z) ps r) (hN : Nat.blt dd c.n = true) (k : ∀ p, Sq c ops Q rest ((dd, .eq (slv p r.length n)) :: E) (⟨p, .row e r n⟩ :: L)) :
    Sq c ops Q (⟨some dd, .buildSlice t n ps.toArray, ty, pos, af, none⟩ :: rest) E L := fun a W s => by
  obtain ⟨ie, zv, hie, hz, hzh⟩ := zr.zero
  have hie2 : ie.size = Rp.size α := by
    obtain ⟨i2, h1, h2⟩ := te.info
    rw [hie] at h1; cases h1; exact h2
  have hs' : Rp.size α ≠ 0 := fun h => by rw [h] at hs; cases hs
  have hz0 := reps_zero (hzh (ks L ++ c.A0) W) n hs'
  obtain ⟨cs', h3, h4, h5⟩ := hf.run a W s _ hz0
  have hlen : r.length = n := by rw [h5]; simp
  have hm : (ps.toArray.map fun (x : Nat × Operand) => (x.1, a.eval x.2)).toList = ps.map fun (i, x) => (i, a.eval x) := by simp
  have hble := Nat.le_of_ble_eq_true hn
  refine wpList_op rfl (R := fun v W' => v = .slice (some ⟨W.heap.size, 0, none⟩) n n ∧ W' = W.alloc (.cells cs' e)) (.of_run (v := .slice (some ⟨W.heap.size, 0, none⟩) n n) (W' := W.alloc (.cells cs' e)) ?_ ⟨rfl, rfl⟩) fun v W' ⟨h1, h2⟩ => ?_
  · simp only [execOp, Instr.buildSlice, Sem.run_bind, run_underlying hu, Result.andThen_ok, Go.sizeOf, typeInfo, run_program, hie, Sem.run_pure, hie2]
    rw [if_neg (by omega)]
    try simp only [Sem.run_pure, Result.andThen_ok, Sem.run_bind]
    by_cases h0 : n * Rp.size α = 0
    · have hn0 : n = 0 := by
        rcases Nat.mul_eq_zero.1 h0 with h | h
        · exact h
        · exact absurd h hs'
      subst hn0
      simp only [Nat.zero_mul, if_true, Sem.run_pure, Result.andThen_ok]
      try simp only [Nat.zero_mul] at h3
      have e0 : ((Array.range 0).map (fun x => (#[] : Array Value)[x % (#[] : Array Value).size]!)) = ((Array.range 0).map (zv.cells[· % zv.cells.size]!)) := by simp
      simp only [pure_bind]
      rw [e0, hm, h3]
      simp [newRow]
    · simp only [h0, if_false, Sem.run_bind, zeroValue, typeInfo, run_program, Result.andThen_ok, hie, hz, Sem.run_pure]
      rw [hm, h3]
      simp [newRow]
  · subst h1 h2
    have hcap : n ≤ maxLen := by
      have : n * 1 ≤ n * Rp.size α := Nat.mul_le_mul_left _ (by omega)
      have : maxLen = 9223372036854775807 := rfl
      omega
    have hsz : cs'.size = n * Rp.size α := by have := h4.1; rw [hlen] at this; simpa using this
    have s' := s.alloc (o := .cells cs' e) (cp := .row e r n) ⟨cs', rfl, hsz, by omega, hcap, by
      have h6 := h4.1
      rw [← h6, List.take_length]
      exact h4⟩
    refine k (some W.heap.size) _ _ (s'.put (τ := .eq (slv (some W.heap.size) r.length n)) (by simpa using hN) ?_)
    show _ = _
    rw [hlen]; rfl

def uremM {w : Nat} (a b : BitVec w) : Option (BitVec w) := if b = 0 then none else some (a % b)
def uquoM {w : Nat} (a b : BitVec w) : Option (BitVec w) := if b = 0 then none else some (a / b)
theorem uremM_some {w : Nat} {a b r : BitVec w} (h : uremM a b = some r) : b ≠ 0 ∧ a % b = r := by unfold uremM at h; split at h <;> simp_all
theorem uquoM_some {w : Nat} {a b r : BitVec w} (h : uquoM a b = some r) : b ≠ 0 ∧ a / b = r := by unfold uquoM at h; split at h <;> simp_all
theorem bv_nz {w : Nat} {b : BitVec w} (h : b ≠ 0) : (b.toNat : Int) ≠ 0 := fun e => h (BitVec.eq_of_toNat_eq (by simpa using e))
theorem run_rem {P : Program} {W : World} {k : IntKind} {x y : Int} (h : y ≠ 0) : (Op.intDiv .rem k x y).run P W = .ok (.int k (x.tmod y)) W := by unfold Op.intDiv; rw [if_neg h]; rfl
theorem run_quo {P : Program} {W : World} {k : IntKind} {x y : Int} (h : y ≠ 0) : (Op.intDiv .quo k x y).run P W = .ok (.int k (k.wrap (x.tdiv y))) W := by unfold Op.intDiv; rw [if_neg h]; rfl
theorem r_rem8 {a b r : BitVec 8} (hx : Look c E L x (.of a)) (hy : Look c E L y (.of b)) (h : b ≠ 0 ∧ a % b = r) : HR c E L ⟨d, .binOp .rem t x y t2, ty, pos, af, g⟩ (.of r) := .pure fun A W s =>
  ⟨.int .u8 r.toNat, by
    obtain ⟨h1, rfl⟩ := h
    have h3 : (a.toNat : Int).tmod b.toNat = ((a % b).toNat : Int) := by rw [BitVec.toNat_umod]; exact (Int.ofNat_tmod _ _).symm
    have h4 := run_rem (P := c.P) (W := W) (k := .u8) (x := a.toNat) (bv_nz h1)
    rw [h3] at h4
    simp only [execOp, eqGuard, binOp, of_u8.1 (hx A W s), of_u8.1 (hy A W s)]
    simp [h4], of_u8.2 rfl⟩
theorem r_quo8 {a b r : BitVec 8} (hx : Look c E L x (.of a)) (hy : Look c E L y (.of b)) (h : b ≠ 0 ∧ a / b = r) : HR c E L ⟨d, .binOp .quo t x y t2, ty, pos, af, g⟩ (.of r) := .pure fun A W s =>
  ⟨.int .u8 r.toNat, by
    obtain ⟨h1, rfl⟩ := h
    have h3 : IntKind.u8.wrap ((a.toNat : Int).tdiv b.toNat) = ((a / b).toNat : Int) := by
      rw [wrap_u8, BitVec.toNat_udiv, ← Int.ofNat_tdiv]
      have h4 : a.toNat / b.toNat ≤ a.toNat := Nat.div_le_self _ _
      have := a.isLt
      generalize a.toNat / b.toNat = q at *
      omega
    have h4 := run_quo (P := c.P) (W := W) (k := .u8) (x := a.toNat) (bv_nz h1)
    rw [h3] at h4
    simp only [execOp, eqGuard, binOp, of_u8.1 (hx A W s), of_u8.1 (hy A W s)]
    simp [h4], of_u8.2 rfl⟩
theorem r_rem16 {a b r : BitVec 16} (hx : Look c E L x (.of a)) (hy : Look c E L y (.of b)) (h : b ≠ 0 ∧ a % b = r) : HR c E L ⟨d, .binOp .rem t x y t2, ty, pos, af, g⟩ (.of r) := .pure fun A W s =>
  ⟨.int .u16 r.toNat, by
    obtain ⟨h1, rfl⟩ := h
    have h3 : (a.toNat : Int).tmod b.toNat = ((a % b).toNat : Int) := by rw [BitVec.toNat_umod]; exact (Int.ofNat_tmod _ _).symm
    have h4 := run_rem (P := c.P) (W := W) (k := .u16) (x := a.toNat) (bv_nz h1)
    rw [h3] at h4
    simp only [execOp, eqGuard, binOp, of_u16.1 (hx A W s), of_u16.1 (hy A W s)]
    simp [h4], of_u16.2 rfl⟩
theorem r_quo16 {a b r : BitVec 16} (hx : Look c E L x (.of a)) (hy : Look c E L y (.of b)) (h : b ≠ 0 ∧ a / b = r) : HR c E L ⟨d, .binOp .quo t x y t2, ty, pos, af, g⟩ (.of r) := .pure fun A W s =>
  ⟨.int .u16 r.toNat, by
    obtain ⟨h1, rfl⟩ := h
    have h3 : IntKind.u16.wrap ((a.toNat : Int).tdiv b.toNat) = ((a / b).toNat : Int) := by
      rw [wrap_u16, BitVec.toNat_udiv, ← Int.ofNat_tdiv]
      have h4 : a.toNat / b.toNat ≤ a.toNat := Nat.div_le_self _ _
      have := a.isLt
      generalize a.toNat / b.toNat = q at *
      omega
    have h4 := run_quo (P := c.P) (W := W) (k := .u16) (x := a.toNat) (bv_nz h1)
    rw [h3] at h4
    simp only [execOp, eqGuard, binOp, of_u16.1 (hx A W s), of_u16.1 (hy A W s)]
    simp [h4], of_u16.2 rfl⟩
theorem r_rem32 {a b r : BitVec 32} (hx : Look c E L x (.of a)) (hy : Look c E L y (.of b)) (h : b ≠ 0 ∧ a % b = r) : HR c E L ⟨d, .binOp .rem t x y t2, ty, pos, af, g⟩ (.of r) := .pure fun A W s =>
  ⟨.int .u32 r.toNat, by
    obtain ⟨h1, rfl⟩ := h
    have h3 : (a.toNat : Int).tmod b.toNat = ((a % b).toNat : Int) := by rw [BitVec.toNat_umod]; exact (Int.ofNat_tmod _ _).symm
    have h4 := run_rem (P := c.P) (W := W) (k := .u32) (x := a.toNat) (bv_nz h1)
    rw [h3] at h4
    simp only [execOp, eqGuard, binOp, of_u32.1 (hx A W s), of_u32.1 (hy A W s)]
    simp [h4], of_u32.2 rfl⟩
theorem r_quo32 {a b r : BitVec 32} (hx : Look c E L x (.of a)) (hy : Look c E L y (.of b)) (h : b ≠ 0 ∧ a / b = r) : HR c E L ⟨d, .binOp .quo t x y t2, ty, pos, af, g⟩ (.of r) := .pure fun A W s =>
  ⟨.int .u32 r.toNat, by
    obtain ⟨h1, rfl⟩ := h
    have h3 : IntKind.u32.wrap ((a.toNat : Int).tdiv b.toNat) = ((a / b).toNat : Int) := by
      rw [wrap_u32, BitVec.toNat_udiv, ← Int.ofNat_tdiv]
      have h4 : a.toNat / b.toNat ≤ a.toNat := Nat.div_le_self _ _
      have := a.isLt
      generalize a.toNat / b.toNat = q at *
      omega
    have h4 := run_quo (P := c.P) (W := W) (k := .u32) (x := a.toNat) (bv_nz h1)
    rw [h3] at h4
    simp only [execOp, eqGuard, binOp, of_u32.1 (hx A W s), of_u32.1 (hy A W s)]
    simp [h4], of_u32.2 rfl⟩
theorem r_rem64 {a b r : BitVec 64} (hx : Look c E L x (.of a)) (hy : Look c E L y (.of b)) (h : b ≠ 0 ∧ a % b = r) : HR c E L ⟨d, .binOp .rem t x y t2, ty, pos, af, g⟩ (.of r) := .pure fun A W s =>
  ⟨.int .u64 r.toNat, by
    obtain ⟨h1, rfl⟩ := h
    have h3 : (a.toNat : Int).tmod b.toNat = ((a % b).toNat : Int) := by rw [BitVec.toNat_umod]; exact (Int.ofNat_tmod _ _).symm
    have h4 := run_rem (P := c.P) (W := W) (k := .u64) (x := a.toNat) (bv_nz h1)
    rw [h3] at h4
    simp only [execOp, eqGuard, binOp, of_u64.1 (hx A W s), of_u64.1 (hy A W s)]
    simp [h4], of_u64.2 rfl⟩
theorem r_quo64 {a b r : BitVec 64} (hx : Look c E L x (.of a)) (hy : Look c E L y (.of b)) (h : b ≠ 0 ∧ a / b = r) : HR c E L ⟨d, .binOp .quo t x y t2, ty, pos, af, g⟩ (.of r) := .pure fun A W s =>
  ⟨.int .u64 r.toNat, by
    obtain ⟨h1, rfl⟩ := h
    have h3 : IntKind.u64.wrap ((a.toNat : Int).tdiv b.toNat) = ((a / b).toNat : Int) := by
      rw [wrap_u64, BitVec.toNat_udiv, ← Int.ofNat_tdiv]
      have h4 : a.toNat / b.toNat ≤ a.toNat := Nat.div_le_self _ _
      have := a.isLt
      generalize a.toNat / b.toNat = q at *
      omega
    have h4 := run_quo (P := c.P) (W := W) (k := .u64) (x := a.toNat) (bv_nz h1)
    rw [h3] at h4
    simp only [execOp, eqGuard, binOp, of_u64.1 (hx A W s), of_u64.1 (hy A W s)]
    simp [h4], of_u64.2 rfl⟩
theorem Sq.relen {l : List Oper} {key : Option Nat} {n m cap : Nat} (sl : Nat) (hl : look E sl = some (.eq (slv key n cap))) (hn : n = m) (k : Sq c ops Q l ((sl, .eq (slv key m cap)) :: E) L) : Sq c ops Q l E L := fun a W s => by
  subst hn
  refine k a W (s.less fun t τ h => ?_)
  simp only [look] at h
  by_cases e : Nat.beq sl t = true
  · rw [e] at h
    simp only [cond_true] at h
    have := look_beq.1 e
    subst this
    exact ⟨τ, by rw [hl, h], fun _ _ _ h => h⟩
  · simp only [Bool.not_eq_true] at e
    rw [e] at h
    exact ⟨τ, h, fun _ _ _ h => h⟩
end
theorem lset_len {α : Type} {xs r : List α} {k : Nat} {v : α} (h : lset xs k v = r) : xs.length = r.length := by rw [← h]; simp [lset]
theorem lclear_len {α : Type} [Inhabited α] {xs r : List α} {lo n : Nat} (hn : lo + n ≤ xs.length) (h : lclear xs lo n = r) : xs.length = r.length := by rw [← h]; simp [lclear]; omega
theorem clone_nil {α : Type} {b : Nat} {r : List α} (h : ((appM b [] ([] : List α)).bind fun y => some y) = some r) : r = [] := by
  obtain ⟨y, h1, h2⟩ := bind_some h
  obtain ⟨_, _, h3⟩ := appM_some h1
  rw [h3] at h2
  exact (some_in h2).symm
end Gv
