/-
  The library of the decompiler, part E: arithmetic, comparisons, conversions. Printed by genE.py. Conditions: none; it is about whatever program.
-/
import Derived.Test.YtodajdohokmjnaaGvC
namespace Gv
open Go
set_option linter.unusedVariables false
set_option linter.unusedSimpArgs false

/-- Go's int wraps -/
def w64 (x : Int) : Int := IntKind.i64.wrap x
theorem w64_in {x : Int} (h : -9223372036854775808 ≤ x) (h' : x ≤ 9223372036854775807) : w64 x = x := by
  unfold w64
  rw [IntKind.wrap_i64]
  omega
def ior (a b : Int) : Int := w64 (BitVec.ofInt 64 a ||| BitVec.ofInt 64 b).toNat
def iand (a b : Int) : Int := w64 (BitVec.ofInt 64 a &&& BitVec.ofInt 64 b).toNat
def ixor (a b : Int) : Int := w64 (BitVec.ofInt 64 a ^^^ BitVec.ofInt 64 b).toNat
def ishl (a : Int) (n : Nat) : Int := w64 (a * 2 ^ min n 64)
def ishr (a : Int) (n : Nat) : Int := a.fdiv (2 ^ min n 64)
/-- none: division by zero -/
def divM (a b : Int) : Option Int := if b = 0 then none else some (w64 (a.tdiv b))
def modM (a b : Int) : Option Int := if b = 0 then none else some (a.tmod b)
/-- a count of bits; none: negative -/
def cntM (b : Int) : Option Nat := if b < 0 then none else some b.toNat
theorem divM_some {a b r : Int} (h : divM a b = some r) : b ≠ 0 ∧ w64 (a.tdiv b) = r := by unfold divM at h; split at h <;> simp_all
theorem modM_some {a b r : Int} (h : modM a b = some r) : b ≠ 0 ∧ a.tmod b = r := by unfold modM at h; split at h <;> simp_all
theorem cntM_some {b : Int} {n : Nat} (h : cntM b = some n) : 0 ≤ b ∧ b.toNat = n := by unfold cntM at h; split at h <;> simp_all

theorem wrap_u8 (n : Int) : IntKind.u8.wrap n = n % 256 := by simp [IntKind.wrap, IntKind.signed, IntKind.bits]
theorem wrap_u16 (n : Int) : IntKind.u16.wrap n = n % 65536 := by simp [IntKind.wrap, IntKind.signed, IntKind.bits]
theorem wrap_u32 (n : Int) : IntKind.u32.wrap n = n % 4294967296 := by simp [IntKind.wrap, IntKind.signed, IntKind.bits]
theorem wrap_u64 (n : Int) : IntKind.u64.wrap n = n % 18446744073709551616 := by simp [IntKind.wrap, IntKind.signed, IntKind.bits]
theorem run_shl (P : Program) (W : World) (k yk : IntKind) (a b : Int) (h : 0 ≤ b) : (Op.shift .shl k a yk b).run P W = .ok (.int k (k.wrap (a * 2 ^ min b.toNat k.bits))) W := by
  unfold Op.shift
  rw [if_neg (by omega)]
  rfl
theorem run_shr (P : Program) (W : World) (k yk : IntKind) (a b : Int) (h : 0 ≤ b) : (Op.shift .shr k a yk b).run P W = .ok (.int k (a.fdiv (2 ^ min b.toNat k.bits))) W := by
  unfold Op.shift
  rw [if_neg (by omega)]
  rfl
theorem run_binv {P : Program} {W : World} {op : BinOp} {t : TypeId} {x y : Operand} {u v r : Value} (he : (op matches .eql | .neq) = false) (h : (binOp op t u v).run P W = .ok r W) :
    (do eqGuard op t x y u v; binOp op t u v : Sem Value).run P W = .ok r W := by
  have : eqGuard op t x y u v = pure () := by cases op <;> first | rfl | simp at he
  rw [this]; exact h
section
variable {c : Cx} {E : List (Nat × VP)} {L : List Ent}
variable {d : Option Tmp} {ty : TypeId} {pos : String} {af : Array Edge} {g : Option (Nat × Bool)} {x y : Operand} {t t2 : TypeId}

theorem r_add {a b : Int} (hx : Look c E L x (.of a)) (hy : Look c E L y (.of b)) : HR c E L ⟨d, .binOp .add t x y t2, ty, pos, af, g⟩ (.of (w64 (a + b))) := .pure fun A W s =>
  ⟨.int .i64 (w64 (a + b)), by simp [execOp, eqGuard, binOp, Op.intArith, of_int.1 (hx A W s), of_int.1 (hy A W s), w64], of_int.2 rfl⟩
theorem r_sub {a b : Int} (hx : Look c E L x (.of a)) (hy : Look c E L y (.of b)) : HR c E L ⟨d, .binOp .sub t x y t2, ty, pos, af, g⟩ (.of (w64 (a - b))) := .pure fun A W s =>
  ⟨.int .i64 (w64 (a - b)), by simp [execOp, eqGuard, binOp, Op.intArith, of_int.1 (hx A W s), of_int.1 (hy A W s), w64], of_int.2 rfl⟩
theorem r_mul {a b : Int} (hx : Look c E L x (.of a)) (hy : Look c E L y (.of b)) : HR c E L ⟨d, .binOp .mul t x y t2, ty, pos, af, g⟩ (.of (w64 (a * b))) := .pure fun A W s =>
  ⟨.int .i64 (w64 (a * b)), by simp [execOp, eqGuard, binOp, Op.intArith, of_int.1 (hx A W s), of_int.1 (hy A W s), w64], of_int.2 rfl⟩
theorem r_neg {a : Int} (hx : Look c E L x (.of a)) : HR c E L ⟨d, .unOp .neg t x, ty, pos, af, g⟩ (.of (w64 (0 - a))) := .pure fun A W s =>
  ⟨.int .i64 (w64 (0 - a)), by simp [execOp, Op.unary, Op.intArith, of_int.1 (hx A W s), w64], of_int.2 rfl⟩
theorem r_quo {a b r : Int} (hx : Look c E L x (.of a)) (hy : Look c E L y (.of b)) (h : b ≠ 0 ∧ w64 (a.tdiv b) = r) : HR c E L ⟨d, .binOp .quo t x y t2, ty, pos, af, g⟩ (.of r) := .pure fun A W s =>
  ⟨.int .i64 r, by obtain ⟨h1, rfl⟩ := h; simp [execOp, eqGuard, binOp, Op.intDiv, of_int.1 (hx A W s), of_int.1 (hy A W s), w64, h1], of_int.2 rfl⟩
theorem r_rem {a b r : Int} (hx : Look c E L x (.of a)) (hy : Look c E L y (.of b)) (h : b ≠ 0 ∧ a.tmod b = r) : HR c E L ⟨d, .binOp .rem t x y t2, ty, pos, af, g⟩ (.of r) := .pure fun A W s =>
  ⟨.int .i64 r, by obtain ⟨h1, rfl⟩ := h; simp [execOp, eqGuard, binOp, Op.intDiv, of_int.1 (hx A W s), of_int.1 (hy A W s), h1], of_int.2 rfl⟩
theorem r_lss {a b : Int} (hx : Look c E L x (.of a)) (hy : Look c E L y (.of b)) : HR c E L ⟨d, .binOp .lss t x y t2, ty, pos, af, g⟩ (.of (decide (a < b))) := .pure fun A W s =>
  ⟨.bool (decide (a < b)), by simp only [execOp, eqGuard, binOp, of_int.1 (hx A W s), of_int.1 (hy A W s)]; rfl, of_bool.2 rfl⟩
theorem r_leq {a b : Int} (hx : Look c E L x (.of a)) (hy : Look c E L y (.of b)) : HR c E L ⟨d, .binOp .leq t x y t2, ty, pos, af, g⟩ (.of (decide (a ≤ b))) := .pure fun A W s =>
  ⟨.bool (decide (a ≤ b)), by simp only [execOp, eqGuard, binOp, of_int.1 (hx A W s), of_int.1 (hy A W s)]; rfl, of_bool.2 rfl⟩
theorem r_gtr {a b : Int} (hx : Look c E L x (.of a)) (hy : Look c E L y (.of b)) : HR c E L ⟨d, .binOp .gtr t x y t2, ty, pos, af, g⟩ (.of (decide (a > b))) := .pure fun A W s =>
  ⟨.bool (decide (a > b)), by simp only [execOp, eqGuard, binOp, of_int.1 (hx A W s), of_int.1 (hy A W s)]; rfl, of_bool.2 rfl⟩
theorem r_geq {a b : Int} (hx : Look c E L x (.of a)) (hy : Look c E L y (.of b)) : HR c E L ⟨d, .binOp .geq t x y t2, ty, pos, af, g⟩ (.of (decide (a ≥ b))) := .pure fun A W s =>
  ⟨.bool (decide (a ≥ b)), by simp only [execOp, eqGuard, binOp, of_int.1 (hx A W s), of_int.1 (hy A W s)]; rfl, of_bool.2 rfl⟩
theorem r_eql {a b : Int} (hx : Look c E L x (.of a)) (hy : Look c E L y (.of b)) : HR c E L ⟨d, .binOp .eql t x y t2, ty, pos, af, g⟩ (.of (a == b)) := .pure fun A W s =>
  ⟨.bool (a == b), by simp only [execOp, eqGuard, binOp, of_int.1 (hx A W s), of_int.1 (hy A W s)]; rfl, of_bool.2 rfl⟩
theorem r_neq {a b : Int} (hx : Look c E L x (.of a)) (hy : Look c E L y (.of b)) : HR c E L ⟨d, .binOp .neq t x y t2, ty, pos, af, g⟩ (.of (a != b)) := .pure fun A W s =>
  ⟨.bool (a != b), by simp only [execOp, eqGuard, binOp, of_int.1 (hx A W s), of_int.1 (hy A W s)]; rfl, of_bool.2 rfl⟩
theorem r_iand {a b : Int} (hx : Look c E L x (.of a)) (hy : Look c E L y (.of b)) : HR c E L ⟨d, .binOp .and t x y t2, ty, pos, af, g⟩ (.of (iand a b)) := .pure fun A W s =>
  ⟨.int .i64 (iand a b), by simp only [execOp, eqGuard, binOp, of_int.1 (hx A W s), of_int.1 (hy A W s)]; rfl, of_int.2 rfl⟩
theorem r_ior {a b : Int} (hx : Look c E L x (.of a)) (hy : Look c E L y (.of b)) : HR c E L ⟨d, .binOp .or t x y t2, ty, pos, af, g⟩ (.of (ior a b)) := .pure fun A W s =>
  ⟨.int .i64 (ior a b), by simp only [execOp, eqGuard, binOp, of_int.1 (hx A W s), of_int.1 (hy A W s)]; rfl, of_int.2 rfl⟩
theorem r_ixor {a b : Int} (hx : Look c E L x (.of a)) (hy : Look c E L y (.of b)) : HR c E L ⟨d, .binOp .xor t x y t2, ty, pos, af, g⟩ (.of (ixor a b)) := .pure fun A W s =>
  ⟨.int .i64 (ixor a b), by simp only [execOp, eqGuard, binOp, of_int.1 (hx A W s), of_int.1 (hy A W s)]; rfl, of_int.2 rfl⟩
theorem r_ishl {a b : Int} {n : Nat} (hx : Look c E L x (.of a)) (hy : Look c E L y (.of b)) (h : 0 ≤ b ∧ b.toNat = n) : HR c E L ⟨d, .binOp .shl t x y t2, ty, pos, af, g⟩ (.of (ishl a n)) := .pure fun A W s =>
  ⟨.int .i64 (ishl a n), by
    obtain ⟨h1, rfl⟩ := h
    simp only [execOp, eqGuard, binOp, of_int.1 (hx A W s), of_int.1 (hy A W s)]
    have h2 := run_shl c.P W .i64 .i64 a b h1
    simp only [Sem.run_bind, Sem.run_ite, Sem.run_pure, Bool.not_false, if_true, Result.andThen_ok, h2]; rfl, of_int.2 rfl⟩
theorem r_ishlu {a : Int} {b : BitVec 64} (hx : Look c E L x (.of a)) (hy : Look c E L y (.of b)) : HR c E L ⟨d, .binOp .shl t x y t2, ty, pos, af, g⟩ (.of (ishl a b.toNat)) := .pure fun A W s =>
  ⟨.int .i64 (ishl a b.toNat), by
    simp only [execOp, eqGuard, binOp, of_int.1 (hx A W s), of_u64.1 (hy A W s)]
    exact (congrArg (fun r : Result Value => r.andThen fun v w => .ok (Next.value v) w) (run_shl c.P W .i64 .u64 a b.toNat (by omega))), of_int.2 rfl⟩
theorem r_ishr {a b : Int} {n : Nat} (hx : Look c E L x (.of a)) (hy : Look c E L y (.of b)) (h : 0 ≤ b ∧ b.toNat = n) : HR c E L ⟨d, .binOp .shr t x y t2, ty, pos, af, g⟩ (.of (ishr a n)) := .pure fun A W s =>
  ⟨.int .i64 (ishr a n), by
    obtain ⟨h1, rfl⟩ := h
    simp only [execOp, eqGuard, binOp, of_int.1 (hx A W s), of_int.1 (hy A W s)]
    have h2 := run_shr c.P W .i64 .i64 a b h1
    simp only [Sem.run_bind, Sem.run_ite, Sem.run_pure, Bool.not_false, if_true, Result.andThen_ok, h2]; rfl, of_int.2 rfl⟩
theorem r_ishru {a : Int} {b : BitVec 64} (hx : Look c E L x (.of a)) (hy : Look c E L y (.of b)) : HR c E L ⟨d, .binOp .shr t x y t2, ty, pos, af, g⟩ (.of (ishr a b.toNat)) := .pure fun A W s =>
  ⟨.int .i64 (ishr a b.toNat), by
    simp only [execOp, eqGuard, binOp, of_int.1 (hx A W s), of_u64.1 (hy A W s)]
    exact (congrArg (fun r : Result Value => r.andThen fun v w => .ok (Next.value v) w) (run_shr c.P W .i64 .u64 a b.toNat (by omega))), of_int.2 rfl⟩
theorem r_beq {a b : Bool} (hu : c.P.underlying t = some .bool) (hx : Look c E L x (.of a)) (hy : Look c E L y (.of b)) : HR c E L ⟨d, .binOp .eql t x y t2, ty, pos, af, g⟩ (.of (a == b)) := .pure fun A W s =>
  ⟨.bool (a == b), by
    simp only [execOp, eqGuard, binOp, of_bool.1 (hx A W s), of_bool.1 (hy A W s), Op.equal, Op.maxDepth]
    simp [run_equalIn_bool' W 9999 t a b hu], of_bool.2 rfl⟩
theorem r_bne {a b : Bool} (hu : c.P.underlying t = some .bool) (hx : Look c E L x (.of a)) (hy : Look c E L y (.of b)) : HR c E L ⟨d, .binOp .neq t x y t2, ty, pos, af, g⟩ (.of (a != b)) := .pure fun A W s =>
  ⟨.bool (a != b), by
    simp only [execOp, eqGuard, binOp, of_bool.1 (hx A W s), of_bool.1 (hy A W s), Op.equal, Op.maxDepth]
    simp [run_equalIn_bool' W 9999 t a b hu, bne], of_bool.2 rfl⟩
theorem r_min {a b : Int} {ats : Array TypeId} (hx : Look c E L x (.of a)) (hy : Look c E L y (.of b)) : HR c E L ⟨d, .call ⟨.builtin .min, #[x, y], ats⟩, ty, pos, af, g⟩ (.of (min a b)) := .pure fun A W s =>
  ⟨.int .i64 (min a b), by
    simp [execOp, resolve, invoke, builtin, Builtin.min_, Builtin.min2, of_int.1 (hx A W s), of_int.1 (hy A W s)]
    split <;> omega, of_int.2 rfl⟩
theorem r_max {a b : Int} {ats : Array TypeId} (hx : Look c E L x (.of a)) (hy : Look c E L y (.of b)) : HR c E L ⟨d, .call ⟨.builtin .max, #[x, y], ats⟩, ty, pos, af, g⟩ (.of (max a b)) := .pure fun A W s =>
  ⟨.int .i64 (max a b), by
    simp [execOp, resolve, invoke, builtin, Builtin.max_, Builtin.max2, of_int.1 (hx A W s), of_int.1 (hy A W s)]
    split <;> omega, of_int.2 rfl⟩
theorem r_cii {a : Int} {src dst : TypeId} {e : TypeDesc} (hs : c.P.underlying src = some e) (hd : c.P.underlying dst = some (.int .i64)) (hx : Look c E L x (.of a)) : HR c E L ⟨d, .convert src dst x, ty, pos, af, g⟩ (.of (w64 a)) := .pure fun A W s =>
  ⟨.int .i64 (w64 a), by simp [execOp, convert, run_underlying hs, run_underlying hd, of_int.1 (hx A W s), Conv.intToInt, w64], of_int.2 rfl⟩

/-! ### uint8 -/
theorem lt_u8 (a : BitVec 8) : (a.toNat : Int) < 256 := by have := a.isLt; omega
theorem ofInt_u8 (a : BitVec 8) : BitVec.ofInt 8 (a.toNat : Int) = a := by simp
theorem add_u8 (a b : BitVec 8) : IntKind.u8.wrap ((a.toNat : Int) + (b.toNat : Int)) = ((a + b).toNat : Int) := by rw [wrap_u8, BitVec.toNat_add]; omega
theorem r_add8 {a b : BitVec 8} (hx : Look c E L x (.of a)) (hy : Look c E L y (.of b)) : HR c E L ⟨d, .binOp .add t x y t2, ty, pos, af, g⟩ (.of (a + b)) := .pure fun A W s =>
  ⟨.int .u8 (a + b).toNat, by simp [execOp, eqGuard, binOp, Op.intArith, of_u8.1 (hx A W s), of_u8.1 (hy A W s), add_u8], of_u8.2 rfl⟩
theorem sub_u8 (a b : BitVec 8) : IntKind.u8.wrap ((a.toNat : Int) - (b.toNat : Int)) = ((a - b).toNat : Int) := by rw [wrap_u8, BitVec.toNat_sub]; have := lt_u8 a; have := lt_u8 b; omega
theorem r_sub8 {a b : BitVec 8} (hx : Look c E L x (.of a)) (hy : Look c E L y (.of b)) : HR c E L ⟨d, .binOp .sub t x y t2, ty, pos, af, g⟩ (.of (a - b)) := .pure fun A W s =>
  ⟨.int .u8 (a - b).toNat, by simp [execOp, eqGuard, binOp, Op.intArith, of_u8.1 (hx A W s), of_u8.1 (hy A W s), sub_u8], of_u8.2 rfl⟩
theorem mul_u8 (a b : BitVec 8) : IntKind.u8.wrap ((a.toNat : Int) * (b.toNat : Int)) = ((a * b).toNat : Int) := by rw [wrap_u8, BitVec.toNat_mul]; simp
theorem r_mul8 {a b : BitVec 8} (hx : Look c E L x (.of a)) (hy : Look c E L y (.of b)) : HR c E L ⟨d, .binOp .mul t x y t2, ty, pos, af, g⟩ (.of (a * b)) := .pure fun A W s =>
  ⟨.int .u8 (a * b).toNat, by simp [execOp, eqGuard, binOp, Op.intArith, of_u8.1 (hx A W s), of_u8.1 (hy A W s), mul_u8], of_u8.2 rfl⟩
theorem r_and8 {a b : BitVec 8} (hx : Look c E L x (.of a)) (hy : Look c E L y (.of b)) : HR c E L ⟨d, .binOp .and t x y t2, ty, pos, af, g⟩ (.of (a &&& b)) := .pure fun A W s =>
  ⟨.int .u8 (a &&& b).toNat, by
    simp only [execOp, eqGuard, binOp, of_u8.1 (hx A W s), of_u8.1 (hy A W s)]
    have h : IntKind.u8.wrap ((a &&& b).toNat : Int) = ((a &&& b).toNat : Int) := by rw [wrap_u8]; have := lt_u8 (a &&& b); omega
    rw [← h]
    conv => rhs; rw [← ofInt_u8 a, ← ofInt_u8 b]
    rfl, of_u8.2 rfl⟩
theorem r_or8 {a b : BitVec 8} (hx : Look c E L x (.of a)) (hy : Look c E L y (.of b)) : HR c E L ⟨d, .binOp .or t x y t2, ty, pos, af, g⟩ (.of (a ||| b)) := .pure fun A W s =>
  ⟨.int .u8 (a ||| b).toNat, by
    simp only [execOp, eqGuard, binOp, of_u8.1 (hx A W s), of_u8.1 (hy A W s)]
    have h : IntKind.u8.wrap ((a ||| b).toNat : Int) = ((a ||| b).toNat : Int) := by rw [wrap_u8]; have := lt_u8 (a ||| b); omega
    rw [← h]
    conv => rhs; rw [← ofInt_u8 a, ← ofInt_u8 b]
    rfl, of_u8.2 rfl⟩
theorem r_xor8 {a b : BitVec 8} (hx : Look c E L x (.of a)) (hy : Look c E L y (.of b)) : HR c E L ⟨d, .binOp .xor t x y t2, ty, pos, af, g⟩ (.of (a ^^^ b)) := .pure fun A W s =>
  ⟨.int .u8 (a ^^^ b).toNat, by
    simp only [execOp, eqGuard, binOp, of_u8.1 (hx A W s), of_u8.1 (hy A W s)]
    have h : IntKind.u8.wrap ((a ^^^ b).toNat : Int) = ((a ^^^ b).toNat : Int) := by rw [wrap_u8]; have := lt_u8 (a ^^^ b); omega
    rw [← h]
    conv => rhs; rw [← ofInt_u8 a, ← ofInt_u8 b]
    rfl, of_u8.2 rfl⟩
theorem r_andNot8 {a b : BitVec 8} (hx : Look c E L x (.of a)) (hy : Look c E L y (.of b)) : HR c E L ⟨d, .binOp .andNot t x y t2, ty, pos, af, g⟩ (.of (a &&& ~~~b)) := .pure fun A W s =>
  ⟨.int .u8 (a &&& ~~~b).toNat, by
    simp only [execOp, eqGuard, binOp, of_u8.1 (hx A W s), of_u8.1 (hy A W s)]
    have h : IntKind.u8.wrap ((a &&& ~~~b).toNat : Int) = ((a &&& ~~~b).toNat : Int) := by rw [wrap_u8]; have := lt_u8 (a &&& ~~~b); omega
    rw [← h]
    conv => rhs; rw [← ofInt_u8 a, ← ofInt_u8 b]
    rfl, of_u8.2 rfl⟩
theorem r_com8 {a : BitVec 8} (hx : Look c E L x (.of a)) : HR c E L ⟨d, .unOp .xor t x, ty, pos, af, g⟩ (.of (~~~a)) := .pure fun A W s =>
  ⟨.int .u8 (~~~a).toNat, by
    have h : IntKind.u8.wrap ((BitVec.ofInt 8 255 ^^^ BitVec.ofInt 8 (a.toNat : Int)).toNat : Int) = ((~~~a).toNat : Int) := by
      rw [ofInt_u8 a, show BitVec.ofInt 8 255 = BitVec.allOnes 8 from rfl, BitVec.allOnes_xor, wrap_u8]; have := lt_u8 (~~~a); omega
    rw [← h]
    simp only [execOp, Op.unary, of_u8.1 (hx A W s)]
    rfl, of_u8.2 rfl⟩
theorem shl_u8 (a : BitVec 8) (n : Nat) : IntKind.u8.wrap ((a.toNat : Int) * 2 ^ min n 8) = ((a <<< n).toNat : Int) := by
  rw [wrap_u8, BitVec.toNat_shiftLeft, Nat.shiftLeft_eq]
  rcases Nat.lt_or_ge n 8 with h | h
  · rw [Nat.min_eq_left (by omega)]; simp
  · rw [Nat.min_eq_right h]
    have e : (a.toNat * 2 ^ n) % 2 ^ 8 = 0 := by
      rw [show n = 8 + (n - 8) by omega, Nat.pow_add]
      exact Nat.mod_eq_zero_of_dvd ⟨a.toNat * 2 ^ (n - 8), by rw [← Nat.mul_assoc, Nat.mul_comm a.toNat, Nat.mul_assoc]⟩
    rw [e]
    have e2 : (2 : Int) ^ 8 = 256 := by decide
    rw [e2]; omega
theorem shr_u8 (a : BitVec 8) (n : Nat) : (a.toNat : Int).fdiv (2 ^ min n 8) = ((a >>> n).toNat : Int) := by
  rw [BitVec.toNat_ushiftRight, Nat.shiftRight_eq_div_pow]
  have e : ∀ m : Nat, (a.toNat : Int).fdiv (2 ^ m) = ((a.toNat / 2 ^ m : Nat) : Int) := by
    intro m
    rw [show ((2 : Int) ^ m) = ((2 ^ m : Nat) : Int) by simp]
    rw [Int.fdiv_eq_ediv_of_nonneg _ (Int.natCast_nonneg _)]
    exact (Int.natCast_ediv _ _).symm
  rw [e]
  rcases Nat.lt_or_ge n 8 with h | h
  · rw [Nat.min_eq_left (by omega)]
  · rw [Nat.min_eq_right h]
    have h1 : a.toNat / 2 ^ 8 = 0 := Nat.div_eq_of_lt a.isLt
    have h2 : a.toNat / 2 ^ n = 0 := Nat.div_eq_of_lt (Nat.lt_of_lt_of_le a.isLt (Nat.pow_le_pow_right (by omega) h))
    rw [h1, h2]
theorem r_shl8 {a : BitVec 8} {b : BitVec 64} (hx : Look c E L x (.of a)) (hy : Look c E L y (.of b)) : HR c E L ⟨d, .binOp .shl t x y t2, ty, pos, af, g⟩ (.of (a <<< b.toNat)) := .pure fun A W s =>
  ⟨.int .u8 (a <<< b.toNat).toNat, by
    simp only [execOp, eqGuard, binOp, of_u8.1 (hx A W s), of_u64.1 (hy A W s)]
    have h := run_shl c.P W .u8 .u64 a.toNat b.toNat (by omega)
    simp only [Int.toNat_natCast, IntKind.bits, shl_u8] at h
    exact congrArg (fun r : Result Value => r.andThen fun v w => .ok (Next.value v) w) h, of_u8.2 rfl⟩
theorem r_shl8i {a : BitVec 8} {b : Int} {n : Nat} (hx : Look c E L x (.of a)) (hy : Look c E L y (.of b)) (h : 0 ≤ b ∧ b.toNat = n) : HR c E L ⟨d, .binOp .shl t x y t2, ty, pos, af, g⟩ (.of (a <<< n)) := .pure fun A W s =>
  ⟨.int .u8 (a <<< n).toNat, by
    obtain ⟨h1, rfl⟩ := h
    simp only [execOp, eqGuard, binOp, of_u8.1 (hx A W s), of_int.1 (hy A W s)]
    have h := run_shl c.P W .u8 .i64 a.toNat b h1
    simp only [IntKind.bits, shl_u8] at h
    simp only [Sem.run_bind, Sem.run_ite, Sem.run_pure, Bool.not_false, if_true, Result.andThen_ok, h], of_u8.2 rfl⟩
theorem r_shr8 {a : BitVec 8} {b : BitVec 64} (hx : Look c E L x (.of a)) (hy : Look c E L y (.of b)) : HR c E L ⟨d, .binOp .shr t x y t2, ty, pos, af, g⟩ (.of (a >>> b.toNat)) := .pure fun A W s =>
  ⟨.int .u8 (a >>> b.toNat).toNat, by
    simp only [execOp, eqGuard, binOp, of_u8.1 (hx A W s), of_u64.1 (hy A W s)]
    have h := run_shr c.P W .u8 .u64 a.toNat b.toNat (by omega)
    simp only [Int.toNat_natCast, IntKind.bits, shr_u8] at h
    exact congrArg (fun r : Result Value => r.andThen fun v w => .ok (Next.value v) w) h, of_u8.2 rfl⟩
theorem r_shr8i {a : BitVec 8} {b : Int} {n : Nat} (hx : Look c E L x (.of a)) (hy : Look c E L y (.of b)) (h : 0 ≤ b ∧ b.toNat = n) : HR c E L ⟨d, .binOp .shr t x y t2, ty, pos, af, g⟩ (.of (a >>> n)) := .pure fun A W s =>
  ⟨.int .u8 (a >>> n).toNat, by
    obtain ⟨h1, rfl⟩ := h
    simp only [execOp, eqGuard, binOp, of_u8.1 (hx A W s), of_int.1 (hy A W s)]
    have h := run_shr c.P W .u8 .i64 a.toNat b h1
    simp only [IntKind.bits, shr_u8] at h
    simp only [Sem.run_bind, Sem.run_ite, Sem.run_pure, Bool.not_false, if_true, Result.andThen_ok, h], of_u8.2 rfl⟩
theorem r_lss8 {a b : BitVec 8} (hx : Look c E L x (.of a)) (hy : Look c E L y (.of b)) : HR c E L ⟨d, .binOp .lss t x y t2, ty, pos, af, g⟩ (.of (decide (a < b))) := .pure fun A W s =>
  ⟨.bool (decide (a < b)), by
    simp only [execOp, eqGuard, binOp, of_u8.1 (hx A W s), of_u8.1 (hy A W s)]
    have h : decide ((a.toNat : Int) < (b.toNat : Int)) = decide (a < b) := by simp [BitVec.lt_def, BitVec.le_def]
    rw [← h]; rfl, of_bool.2 rfl⟩
theorem r_leq8 {a b : BitVec 8} (hx : Look c E L x (.of a)) (hy : Look c E L y (.of b)) : HR c E L ⟨d, .binOp .leq t x y t2, ty, pos, af, g⟩ (.of (decide (a ≤ b))) := .pure fun A W s =>
  ⟨.bool (decide (a ≤ b)), by
    simp only [execOp, eqGuard, binOp, of_u8.1 (hx A W s), of_u8.1 (hy A W s)]
    have h : decide ((a.toNat : Int) ≤ (b.toNat : Int)) = decide (a ≤ b) := by simp [BitVec.lt_def, BitVec.le_def]
    rw [← h]; rfl, of_bool.2 rfl⟩
theorem r_gtr8 {a b : BitVec 8} (hx : Look c E L x (.of a)) (hy : Look c E L y (.of b)) : HR c E L ⟨d, .binOp .gtr t x y t2, ty, pos, af, g⟩ (.of (decide (a > b))) := .pure fun A W s =>
  ⟨.bool (decide (a > b)), by
    simp only [execOp, eqGuard, binOp, of_u8.1 (hx A W s), of_u8.1 (hy A W s)]
    have h : decide ((a.toNat : Int) > (b.toNat : Int)) = decide (a > b) := by simp [BitVec.lt_def, BitVec.le_def]
    rw [← h]; rfl, of_bool.2 rfl⟩
theorem r_geq8 {a b : BitVec 8} (hx : Look c E L x (.of a)) (hy : Look c E L y (.of b)) : HR c E L ⟨d, .binOp .geq t x y t2, ty, pos, af, g⟩ (.of (decide (a ≥ b))) := .pure fun A W s =>
  ⟨.bool (decide (a ≥ b)), by
    simp only [execOp, eqGuard, binOp, of_u8.1 (hx A W s), of_u8.1 (hy A W s)]
    have h : decide ((a.toNat : Int) ≥ (b.toNat : Int)) = decide (a ≥ b) := by simp [BitVec.lt_def, BitVec.le_def]
    rw [← h]; rfl, of_bool.2 rfl⟩
theorem r_eql8 {a b : BitVec 8} (hx : Look c E L x (.of a)) (hy : Look c E L y (.of b)) : HR c E L ⟨d, .binOp .eql t x y t2, ty, pos, af, g⟩ (.of (a == b)) := .pure fun A W s =>
  ⟨.bool (a == b), by
    simp only [execOp, eqGuard, binOp, of_u8.1 (hx A W s), of_u8.1 (hy A W s)]
    have h : ((a.toNat : Int) == (b.toNat : Int)) = (a == b) := by
      rw [Bool.eq_iff_iff]; simp [bne]; exact ⟨fun h => BitVec.eq_of_toNat_eq (by omega), fun h => by rw [h]⟩
    rw [← h]; rfl, of_bool.2 rfl⟩
theorem r_neq8 {a b : BitVec 8} (hx : Look c E L x (.of a)) (hy : Look c E L y (.of b)) : HR c E L ⟨d, .binOp .neq t x y t2, ty, pos, af, g⟩ (.of (a != b)) := .pure fun A W s =>
  ⟨.bool (a != b), by
    simp only [execOp, eqGuard, binOp, of_u8.1 (hx A W s), of_u8.1 (hy A W s)]
    have h : ((a.toNat : Int) != (b.toNat : Int)) = (a != b) := by
      rw [Bool.eq_iff_iff]; simp [bne]; exact ⟨fun h => fun e => h (by rw [e]), fun h => by intro e; exact h (BitVec.eq_of_toNat_eq (by omega))⟩
    rw [← h]; rfl, of_bool.2 rfl⟩
theorem r_ci8 {a : Int} {src dst : TypeId} {e : TypeDesc} (hs : c.P.underlying src = some e) (hd : c.P.underlying dst = some (.int .u8)) (hx : Look c E L x (.of a)) : HR c E L ⟨d, .convert src dst x, ty, pos, af, g⟩ (.of (BitVec.ofInt 8 a)) := .pure fun A W s =>
  ⟨.int .u8 (BitVec.ofInt 8 a).toNat, by
    have h : IntKind.u8.wrap a = ((BitVec.ofInt 8 a).toNat : Int) := by rw [wrap_u8, BitVec.toNat_ofInt]; omega
    simp [execOp, convert, run_underlying hs, run_underlying hd, of_int.1 (hx A W s), Conv.intToInt, h], of_u8.2 rfl⟩
theorem r_c8_8 {a : BitVec 8} {src dst : TypeId} {e : TypeDesc} (hs : c.P.underlying src = some e) (hd : c.P.underlying dst = some (.int .u8)) (hx : Look c E L x (.of a)) : HR c E L ⟨d, .convert src dst x, ty, pos, af, g⟩ (.of (a.setWidth 8)) := .pure fun A W s =>
  ⟨.int .u8 (a.setWidth 8).toNat, by
    have h : IntKind.u8.wrap (a.toNat : Int) = ((a.setWidth 8).toNat : Int) := by rw [wrap_u8, BitVec.toNat_setWidth]; have := a.isLt; omega
    simp only [execOp, convert, Sem.run_bind, run_underlying hs, run_underlying hd, of_u8.1 (hx A W s), Conv.intToInt, Result.andThen_ok, h]; rfl, of_u8.2 rfl⟩
theorem r_c8_16 {a : BitVec 8} {src dst : TypeId} {e : TypeDesc} (hs : c.P.underlying src = some e) (hd : c.P.underlying dst = some (.int .u16)) (hx : Look c E L x (.of a)) : HR c E L ⟨d, .convert src dst x, ty, pos, af, g⟩ (.of (a.setWidth 16)) := .pure fun A W s =>
  ⟨.int .u16 (a.setWidth 16).toNat, by
    have h : IntKind.u16.wrap (a.toNat : Int) = ((a.setWidth 16).toNat : Int) := by rw [wrap_u16, BitVec.toNat_setWidth]; have := a.isLt; omega
    simp only [execOp, convert, Sem.run_bind, run_underlying hs, run_underlying hd, of_u8.1 (hx A W s), Conv.intToInt, Result.andThen_ok, h]; rfl, of_u16.2 rfl⟩
theorem r_c8_32 {a : BitVec 8} {src dst : TypeId} {e : TypeDesc} (hs : c.P.underlying src = some e) (hd : c.P.underlying dst = some (.int .u32)) (hx : Look c E L x (.of a)) : HR c E L ⟨d, .convert src dst x, ty, pos, af, g⟩ (.of (a.setWidth 32)) := .pure fun A W s =>
  ⟨.int .u32 (a.setWidth 32).toNat, by
    have h : IntKind.u32.wrap (a.toNat : Int) = ((a.setWidth 32).toNat : Int) := by rw [wrap_u32, BitVec.toNat_setWidth]; have := a.isLt; omega
    simp only [execOp, convert, Sem.run_bind, run_underlying hs, run_underlying hd, of_u8.1 (hx A W s), Conv.intToInt, Result.andThen_ok, h]; rfl, of_u32.2 rfl⟩
theorem r_c8_64 {a : BitVec 8} {src dst : TypeId} {e : TypeDesc} (hs : c.P.underlying src = some e) (hd : c.P.underlying dst = some (.int .u64)) (hx : Look c E L x (.of a)) : HR c E L ⟨d, .convert src dst x, ty, pos, af, g⟩ (.of (a.setWidth 64)) := .pure fun A W s =>
  ⟨.int .u64 (a.setWidth 64).toNat, by
    have h : IntKind.u64.wrap (a.toNat : Int) = ((a.setWidth 64).toNat : Int) := by rw [wrap_u64, BitVec.toNat_setWidth]; have := a.isLt; omega
    simp only [execOp, convert, Sem.run_bind, run_underlying hs, run_underlying hd, of_u8.1 (hx A W s), Conv.intToInt, Result.andThen_ok, h]; rfl, of_u64.2 rfl⟩
theorem r_c8i {a : BitVec 8} {src dst : TypeId} {e : TypeDesc} (hs : c.P.underlying src = some e) (hd : c.P.underlying dst = some (.int .i64)) (hx : Look c E L x (.of a)) : HR c E L ⟨d, .convert src dst x, ty, pos, af, g⟩ (.of (a.toNat : Int)) := .pure fun A W s =>
  ⟨.int .i64 a.toNat, by
    have h : IntKind.i64.wrap (a.toNat : Int) = (a.toNat : Int) := w64_in (by omega) (by have := lt_u8 a; omega)
    simp only [execOp, convert, Sem.run_bind, run_underlying hs, run_underlying hd, of_u8.1 (hx A W s), Conv.intToInt, Result.andThen_ok, h]; rfl, of_int.2 rfl⟩

/-! ### uint16 -/
theorem lt_u16 (a : BitVec 16) : (a.toNat : Int) < 65536 := by have := a.isLt; omega
theorem ofInt_u16 (a : BitVec 16) : BitVec.ofInt 16 (a.toNat : Int) = a := by simp
theorem add_u16 (a b : BitVec 16) : IntKind.u16.wrap ((a.toNat : Int) + (b.toNat : Int)) = ((a + b).toNat : Int) := by rw [wrap_u16, BitVec.toNat_add]; omega
theorem r_add16 {a b : BitVec 16} (hx : Look c E L x (.of a)) (hy : Look c E L y (.of b)) : HR c E L ⟨d, .binOp .add t x y t2, ty, pos, af, g⟩ (.of (a + b)) := .pure fun A W s =>
  ⟨.int .u16 (a + b).toNat, by simp [execOp, eqGuard, binOp, Op.intArith, of_u16.1 (hx A W s), of_u16.1 (hy A W s), add_u16], of_u16.2 rfl⟩
theorem sub_u16 (a b : BitVec 16) : IntKind.u16.wrap ((a.toNat : Int) - (b.toNat : Int)) = ((a - b).toNat : Int) := by rw [wrap_u16, BitVec.toNat_sub]; have := lt_u16 a; have := lt_u16 b; omega
theorem r_sub16 {a b : BitVec 16} (hx : Look c E L x (.of a)) (hy : Look c E L y (.of b)) : HR c E L ⟨d, .binOp .sub t x y t2, ty, pos, af, g⟩ (.of (a - b)) := .pure fun A W s =>
  ⟨.int .u16 (a - b).toNat, by simp [execOp, eqGuard, binOp, Op.intArith, of_u16.1 (hx A W s), of_u16.1 (hy A W s), sub_u16], of_u16.2 rfl⟩
theorem mul_u16 (a b : BitVec 16) : IntKind.u16.wrap ((a.toNat : Int) * (b.toNat : Int)) = ((a * b).toNat : Int) := by rw [wrap_u16, BitVec.toNat_mul]; simp
theorem r_mul16 {a b : BitVec 16} (hx : Look c E L x (.of a)) (hy : Look c E L y (.of b)) : HR c E L ⟨d, .binOp .mul t x y t2, ty, pos, af, g⟩ (.of (a * b)) := .pure fun A W s =>
  ⟨.int .u16 (a * b).toNat, by simp [execOp, eqGuard, binOp, Op.intArith, of_u16.1 (hx A W s), of_u16.1 (hy A W s), mul_u16], of_u16.2 rfl⟩
theorem r_and16 {a b : BitVec 16} (hx : Look c E L x (.of a)) (hy : Look c E L y (.of b)) : HR c E L ⟨d, .binOp .and t x y t2, ty, pos, af, g⟩ (.of (a &&& b)) := .pure fun A W s =>
  ⟨.int .u16 (a &&& b).toNat, by
    simp only [execOp, eqGuard, binOp, of_u16.1 (hx A W s), of_u16.1 (hy A W s)]
    have h : IntKind.u16.wrap ((a &&& b).toNat : Int) = ((a &&& b).toNat : Int) := by rw [wrap_u16]; have := lt_u16 (a &&& b); omega
    rw [← h]
    conv => rhs; rw [← ofInt_u16 a, ← ofInt_u16 b]
    rfl, of_u16.2 rfl⟩
theorem r_or16 {a b : BitVec 16} (hx : Look c E L x (.of a)) (hy : Look c E L y (.of b)) : HR c E L ⟨d, .binOp .or t x y t2, ty, pos, af, g⟩ (.of (a ||| b)) := .pure fun A W s =>
  ⟨.int .u16 (a ||| b).toNat, by
    simp only [execOp, eqGuard, binOp, of_u16.1 (hx A W s), of_u16.1 (hy A W s)]
    have h : IntKind.u16.wrap ((a ||| b).toNat : Int) = ((a ||| b).toNat : Int) := by rw [wrap_u16]; have := lt_u16 (a ||| b); omega
    rw [← h]
    conv => rhs; rw [← ofInt_u16 a, ← ofInt_u16 b]
    rfl, of_u16.2 rfl⟩
theorem r_xor16 {a b : BitVec 16} (hx : Look c E L x (.of a)) (hy : Look c E L y (.of b)) : HR c E L ⟨d, .binOp .xor t x y t2, ty, pos, af, g⟩ (.of (a ^^^ b)) := .pure fun A W s =>
  ⟨.int .u16 (a ^^^ b).toNat, by
    simp only [execOp, eqGuard, binOp, of_u16.1 (hx A W s), of_u16.1 (hy A W s)]
    have h : IntKind.u16.wrap ((a ^^^ b).toNat : Int) = ((a ^^^ b).toNat : Int) := by rw [wrap_u16]; have := lt_u16 (a ^^^ b); omega
    rw [← h]
    conv => rhs; rw [← ofInt_u16 a, ← ofInt_u16 b]
    rfl, of_u16.2 rfl⟩
theorem r_andNot16 {a b : BitVec 16} (hx : Look c E L x (.of a)) (hy : Look c E L y (.of b)) : HR c E L ⟨d, .binOp .andNot t x y t2, ty, pos, af, g⟩ (.of (a &&& ~~~b)) := .pure fun A W s =>
  ⟨.int .u16 (a &&& ~~~b).toNat, by
    simp only [execOp, eqGuard, binOp, of_u16.1 (hx A W s), of_u16.1 (hy A W s)]
    have h : IntKind.u16.wrap ((a &&& ~~~b).toNat : Int) = ((a &&& ~~~b).toNat : Int) := by rw [wrap_u16]; have := lt_u16 (a &&& ~~~b); omega
    rw [← h]
    conv => rhs; rw [← ofInt_u16 a, ← ofInt_u16 b]
    rfl, of_u16.2 rfl⟩
theorem r_com16 {a : BitVec 16} (hx : Look c E L x (.of a)) : HR c E L ⟨d, .unOp .xor t x, ty, pos, af, g⟩ (.of (~~~a)) := .pure fun A W s =>
  ⟨.int .u16 (~~~a).toNat, by
    have h : IntKind.u16.wrap ((BitVec.ofInt 16 65535 ^^^ BitVec.ofInt 16 (a.toNat : Int)).toNat : Int) = ((~~~a).toNat : Int) := by
      rw [ofInt_u16 a, show BitVec.ofInt 16 65535 = BitVec.allOnes 16 from rfl, BitVec.allOnes_xor, wrap_u16]; have := lt_u16 (~~~a); omega
    rw [← h]
    simp only [execOp, Op.unary, of_u16.1 (hx A W s)]
    rfl, of_u16.2 rfl⟩
theorem shl_u16 (a : BitVec 16) (n : Nat) : IntKind.u16.wrap ((a.toNat : Int) * 2 ^ min n 16) = ((a <<< n).toNat : Int) := by
  rw [wrap_u16, BitVec.toNat_shiftLeft, Nat.shiftLeft_eq]
  rcases Nat.lt_or_ge n 16 with h | h
  · rw [Nat.min_eq_left (by omega)]; simp
  · rw [Nat.min_eq_right h]
    have e : (a.toNat * 2 ^ n) % 2 ^ 16 = 0 := by
      rw [show n = 16 + (n - 16) by omega, Nat.pow_add]
      exact Nat.mod_eq_zero_of_dvd ⟨a.toNat * 2 ^ (n - 16), by rw [← Nat.mul_assoc, Nat.mul_comm a.toNat, Nat.mul_assoc]⟩
    rw [e]
    have e2 : (2 : Int) ^ 16 = 65536 := by decide
    rw [e2]; omega
theorem shr_u16 (a : BitVec 16) (n : Nat) : (a.toNat : Int).fdiv (2 ^ min n 16) = ((a >>> n).toNat : Int) := by
  rw [BitVec.toNat_ushiftRight, Nat.shiftRight_eq_div_pow]
  have e : ∀ m : Nat, (a.toNat : Int).fdiv (2 ^ m) = ((a.toNat / 2 ^ m : Nat) : Int) := by
    intro m
    rw [show ((2 : Int) ^ m) = ((2 ^ m : Nat) : Int) by simp]
    rw [Int.fdiv_eq_ediv_of_nonneg _ (Int.natCast_nonneg _)]
    exact (Int.natCast_ediv _ _).symm
  rw [e]
  rcases Nat.lt_or_ge n 16 with h | h
  · rw [Nat.min_eq_left (by omega)]
  · rw [Nat.min_eq_right h]
    have h1 : a.toNat / 2 ^ 16 = 0 := Nat.div_eq_of_lt a.isLt
    have h2 : a.toNat / 2 ^ n = 0 := Nat.div_eq_of_lt (Nat.lt_of_lt_of_le a.isLt (Nat.pow_le_pow_right (by omega) h))
    rw [h1, h2]
theorem r_shl16 {a : BitVec 16} {b : BitVec 64} (hx : Look c E L x (.of a)) (hy : Look c E L y (.of b)) : HR c E L ⟨d, .binOp .shl t x y t2, ty, pos, af, g⟩ (.of (a <<< b.toNat)) := .pure fun A W s =>
  ⟨.int .u16 (a <<< b.toNat).toNat, by
    simp only [execOp, eqGuard, binOp, of_u16.1 (hx A W s), of_u64.1 (hy A W s)]
    have h := run_shl c.P W .u16 .u64 a.toNat b.toNat (by omega)
    simp only [Int.toNat_natCast, IntKind.bits, shl_u16] at h
    exact congrArg (fun r : Result Value => r.andThen fun v w => .ok (Next.value v) w) h, of_u16.2 rfl⟩
theorem r_shl16i {a : BitVec 16} {b : Int} {n : Nat} (hx : Look c E L x (.of a)) (hy : Look c E L y (.of b)) (h : 0 ≤ b ∧ b.toNat = n) : HR c E L ⟨d, .binOp .shl t x y t2, ty, pos, af, g⟩ (.of (a <<< n)) := .pure fun A W s =>
  ⟨.int .u16 (a <<< n).toNat, by
    obtain ⟨h1, rfl⟩ := h
    simp only [execOp, eqGuard, binOp, of_u16.1 (hx A W s), of_int.1 (hy A W s)]
    have h := run_shl c.P W .u16 .i64 a.toNat b h1
    simp only [IntKind.bits, shl_u16] at h
    simp only [Sem.run_bind, Sem.run_ite, Sem.run_pure, Bool.not_false, if_true, Result.andThen_ok, h], of_u16.2 rfl⟩
theorem r_shr16 {a : BitVec 16} {b : BitVec 64} (hx : Look c E L x (.of a)) (hy : Look c E L y (.of b)) : HR c E L ⟨d, .binOp .shr t x y t2, ty, pos, af, g⟩ (.of (a >>> b.toNat)) := .pure fun A W s =>
  ⟨.int .u16 (a >>> b.toNat).toNat, by
    simp only [execOp, eqGuard, binOp, of_u16.1 (hx A W s), of_u64.1 (hy A W s)]
    have h := run_shr c.P W .u16 .u64 a.toNat b.toNat (by omega)
    simp only [Int.toNat_natCast, IntKind.bits, shr_u16] at h
    exact congrArg (fun r : Result Value => r.andThen fun v w => .ok (Next.value v) w) h, of_u16.2 rfl⟩
theorem r_shr16i {a : BitVec 16} {b : Int} {n : Nat} (hx : Look c E L x (.of a)) (hy : Look c E L y (.of b)) (h : 0 ≤ b ∧ b.toNat = n) : HR c E L ⟨d, .binOp .shr t x y t2, ty, pos, af, g⟩ (.of (a >>> n)) := .pure fun A W s =>
  ⟨.int .u16 (a >>> n).toNat, by
    obtain ⟨h1, rfl⟩ := h
    simp only [execOp, eqGuard, binOp, of_u16.1 (hx A W s), of_int.1 (hy A W s)]
    have h := run_shr c.P W .u16 .i64 a.toNat b h1
    simp only [IntKind.bits, shr_u16] at h
    simp only [Sem.run_bind, Sem.run_ite, Sem.run_pure, Bool.not_false, if_true, Result.andThen_ok, h], of_u16.2 rfl⟩
theorem r_lss16 {a b : BitVec 16} (hx : Look c E L x (.of a)) (hy : Look c E L y (.of b)) : HR c E L ⟨d, .binOp .lss t x y t2, ty, pos, af, g⟩ (.of (decide (a < b))) := .pure fun A W s =>
  ⟨.bool (decide (a < b)), by
    simp only [execOp, eqGuard, binOp, of_u16.1 (hx A W s), of_u16.1 (hy A W s)]
    have h : decide ((a.toNat : Int) < (b.toNat : Int)) = decide (a < b) := by simp [BitVec.lt_def, BitVec.le_def]
    rw [← h]; rfl, of_bool.2 rfl⟩
theorem r_leq16 {a b : BitVec 16} (hx : Look c E L x (.of a)) (hy : Look c E L y (.of b)) : HR c E L ⟨d, .binOp .leq t x y t2, ty, pos, af, g⟩ (.of (decide (a ≤ b))) := .pure fun A W s =>
  ⟨.bool (decide (a ≤ b)), by
    simp only [execOp, eqGuard, binOp, of_u16.1 (hx A W s), of_u16.1 (hy A W s)]
    have h : decide ((a.toNat : Int) ≤ (b.toNat : Int)) = decide (a ≤ b) := by simp [BitVec.lt_def, BitVec.le_def]
    rw [← h]; rfl, of_bool.2 rfl⟩
theorem r_gtr16 {a b : BitVec 16} (hx : Look c E L x (.of a)) (hy : Look c E L y (.of b)) : HR c E L ⟨d, .binOp .gtr t x y t2, ty, pos, af, g⟩ (.of (decide (a > b))) := .pure fun A W s =>
  ⟨.bool (decide (a > b)), by
    simp only [execOp, eqGuard, binOp, of_u16.1 (hx A W s), of_u16.1 (hy A W s)]
    have h : decide ((a.toNat : Int) > (b.toNat : Int)) = decide (a > b) := by simp [BitVec.lt_def, BitVec.le_def]
    rw [← h]; rfl, of_bool.2 rfl⟩
theorem r_geq16 {a b : BitVec 16} (hx : Look c E L x (.of a)) (hy : Look c E L y (.of b)) : HR c E L ⟨d, .binOp .geq t x y t2, ty, pos, af, g⟩ (.of (decide (a ≥ b))) := .pure fun A W s =>
  ⟨.bool (decide (a ≥ b)), by
    simp only [execOp, eqGuard, binOp, of_u16.1 (hx A W s), of_u16.1 (hy A W s)]
    have h : decide ((a.toNat : Int) ≥ (b.toNat : Int)) = decide (a ≥ b) := by simp [BitVec.lt_def, BitVec.le_def]
    rw [← h]; rfl, of_bool.2 rfl⟩
theorem r_eql16 {a b : BitVec 16} (hx : Look c E L x (.of a)) (hy : Look c E L y (.of b)) : HR c E L ⟨d, .binOp .eql t x y t2, ty, pos, af, g⟩ (.of (a == b)) := .pure fun A W s =>
  ⟨.bool (a == b), by
    simp only [execOp, eqGuard, binOp, of_u16.1 (hx A W s), of_u16.1 (hy A W s)]
    have h : ((a.toNat : Int) == (b.toNat : Int)) = (a == b) := by
      rw [Bool.eq_iff_iff]; simp [bne]; exact ⟨fun h => BitVec.eq_of_toNat_eq (by omega), fun h => by rw [h]⟩
    rw [← h]; rfl, of_bool.2 rfl⟩
theorem r_neq16 {a b : BitVec 16} (hx : Look c E L x (.of a)) (hy : Look c E L y (.of b)) : HR c E L ⟨d, .binOp .neq t x y t2, ty, pos, af, g⟩ (.of (a != b)) := .pure fun A W s =>
  ⟨.bool (a != b), by
    simp only [execOp, eqGuard, binOp, of_u16.1 (hx A W s), of_u16.1 (hy A W s)]
    have h : ((a.toNat : Int) != (b.toNat : Int)) = (a != b) := by
      rw [Bool.eq_iff_iff]; simp [bne]; exact ⟨fun h => fun e => h (by rw [e]), fun h => by intro e; exact h (BitVec.eq_of_toNat_eq (by omega))⟩
    rw [← h]; rfl, of_bool.2 rfl⟩
theorem r_ci16 {a : Int} {src dst : TypeId} {e : TypeDesc} (hs : c.P.underlying src = some e) (hd : c.P.underlying dst = some (.int .u16)) (hx : Look c E L x (.of a)) : HR c E L ⟨d, .convert src dst x, ty, pos, af, g⟩ (.of (BitVec.ofInt 16 a)) := .pure fun A W s =>
  ⟨.int .u16 (BitVec.ofInt 16 a).toNat, by
    have h : IntKind.u16.wrap a = ((BitVec.ofInt 16 a).toNat : Int) := by rw [wrap_u16, BitVec.toNat_ofInt]; omega
    simp [execOp, convert, run_underlying hs, run_underlying hd, of_int.1 (hx A W s), Conv.intToInt, h], of_u16.2 rfl⟩
theorem r_c16_8 {a : BitVec 16} {src dst : TypeId} {e : TypeDesc} (hs : c.P.underlying src = some e) (hd : c.P.underlying dst = some (.int .u8)) (hx : Look c E L x (.of a)) : HR c E L ⟨d, .convert src dst x, ty, pos, af, g⟩ (.of (a.setWidth 8)) := .pure fun A W s =>
  ⟨.int .u8 (a.setWidth 8).toNat, by
    have h : IntKind.u8.wrap (a.toNat : Int) = ((a.setWidth 8).toNat : Int) := by rw [wrap_u8, BitVec.toNat_setWidth]; have := a.isLt; omega
    simp only [execOp, convert, Sem.run_bind, run_underlying hs, run_underlying hd, of_u16.1 (hx A W s), Conv.intToInt, Result.andThen_ok, h]; rfl, of_u8.2 rfl⟩
theorem r_c16_16 {a : BitVec 16} {src dst : TypeId} {e : TypeDesc} (hs : c.P.underlying src = some e) (hd : c.P.underlying dst = some (.int .u16)) (hx : Look c E L x (.of a)) : HR c E L ⟨d, .convert src dst x, ty, pos, af, g⟩ (.of (a.setWidth 16)) := .pure fun A W s =>
  ⟨.int .u16 (a.setWidth 16).toNat, by
    have h : IntKind.u16.wrap (a.toNat : Int) = ((a.setWidth 16).toNat : Int) := by rw [wrap_u16, BitVec.toNat_setWidth]; have := a.isLt; omega
    simp only [execOp, convert, Sem.run_bind, run_underlying hs, run_underlying hd, of_u16.1 (hx A W s), Conv.intToInt, Result.andThen_ok, h]; rfl, of_u16.2 rfl⟩
theorem r_c16_32 {a : BitVec 16} {src dst : TypeId} {e : TypeDesc} (hs : c.P.underlying src = some e) (hd : c.P.underlying dst = some (.int .u32)) (hx : Look c E L x (.of a)) : HR c E L ⟨d, .convert src dst x, ty, pos, af, g⟩ (.of (a.setWidth 32)) := .pure fun A W s =>
  ⟨.int .u32 (a.setWidth 32).toNat, by
    have h : IntKind.u32.wrap (a.toNat : Int) = ((a.setWidth 32).toNat : Int) := by rw [wrap_u32, BitVec.toNat_setWidth]; have := a.isLt; omega
    simp only [execOp, convert, Sem.run_bind, run_underlying hs, run_underlying hd, of_u16.1 (hx A W s), Conv.intToInt, Result.andThen_ok, h]; rfl, of_u32.2 rfl⟩
theorem r_c16_64 {a : BitVec 16} {src dst : TypeId} {e : TypeDesc} (hs : c.P.underlying src = some e) (hd : c.P.underlying dst = some (.int .u64)) (hx : Look c E L x (.of a)) : HR c E L ⟨d, .convert src dst x, ty, pos, af, g⟩ (.of (a.setWidth 64)) := .pure fun A W s =>
  ⟨.int .u64 (a.setWidth 64).toNat, by
    have h : IntKind.u64.wrap (a.toNat : Int) = ((a.setWidth 64).toNat : Int) := by rw [wrap_u64, BitVec.toNat_setWidth]; have := a.isLt; omega
    simp only [execOp, convert, Sem.run_bind, run_underlying hs, run_underlying hd, of_u16.1 (hx A W s), Conv.intToInt, Result.andThen_ok, h]; rfl, of_u64.2 rfl⟩
theorem r_c16i {a : BitVec 16} {src dst : TypeId} {e : TypeDesc} (hs : c.P.underlying src = some e) (hd : c.P.underlying dst = some (.int .i64)) (hx : Look c E L x (.of a)) : HR c E L ⟨d, .convert src dst x, ty, pos, af, g⟩ (.of (a.toNat : Int)) := .pure fun A W s =>
  ⟨.int .i64 a.toNat, by
    have h : IntKind.i64.wrap (a.toNat : Int) = (a.toNat : Int) := w64_in (by omega) (by have := lt_u16 a; omega)
    simp only [execOp, convert, Sem.run_bind, run_underlying hs, run_underlying hd, of_u16.1 (hx A W s), Conv.intToInt, Result.andThen_ok, h]; rfl, of_int.2 rfl⟩

/-! ### uint32 -/
theorem lt_u32 (a : BitVec 32) : (a.toNat : Int) < 4294967296 := by have := a.isLt; omega
theorem ofInt_u32 (a : BitVec 32) : BitVec.ofInt 32 (a.toNat : Int) = a := by simp
theorem add_u32 (a b : BitVec 32) : IntKind.u32.wrap ((a.toNat : Int) + (b.toNat : Int)) = ((a + b).toNat : Int) := by rw [wrap_u32, BitVec.toNat_add]; omega
theorem r_add32 {a b : BitVec 32} (hx : Look c E L x (.of a)) (hy : Look c E L y (.of b)) : HR c E L ⟨d, .binOp .add t x y t2, ty, pos, af, g⟩ (.of (a + b)) := .pure fun A W s =>
  ⟨.int .u32 (a + b).toNat, by simp [execOp, eqGuard, binOp, Op.intArith, of_u32.1 (hx A W s), of_u32.1 (hy A W s), add_u32], of_u32.2 rfl⟩
theorem sub_u32 (a b : BitVec 32) : IntKind.u32.wrap ((a.toNat : Int) - (b.toNat : Int)) = ((a - b).toNat : Int) := by rw [wrap_u32, BitVec.toNat_sub]; have := lt_u32 a; have := lt_u32 b; omega
theorem r_sub32 {a b : BitVec 32} (hx : Look c E L x (.of a)) (hy : Look c E L y (.of b)) : HR c E L ⟨d, .binOp .sub t x y t2, ty, pos, af, g⟩ (.of (a - b)) := .pure fun A W s =>
  ⟨.int .u32 (a - b).toNat, by simp [execOp, eqGuard, binOp, Op.intArith, of_u32.1 (hx A W s), of_u32.1 (hy A W s), sub_u32], of_u32.2 rfl⟩
theorem mul_u32 (a b : BitVec 32) : IntKind.u32.wrap ((a.toNat : Int) * (b.toNat : Int)) = ((a * b).toNat : Int) := by rw [wrap_u32, BitVec.toNat_mul]; simp
theorem r_mul32 {a b : BitVec 32} (hx : Look c E L x (.of a)) (hy : Look c E L y (.of b)) : HR c E L ⟨d, .binOp .mul t x y t2, ty, pos, af, g⟩ (.of (a * b)) := .pure fun A W s =>
  ⟨.int .u32 (a * b).toNat, by simp [execOp, eqGuard, binOp, Op.intArith, of_u32.1 (hx A W s), of_u32.1 (hy A W s), mul_u32], of_u32.2 rfl⟩
theorem r_and32 {a b : BitVec 32} (hx : Look c E L x (.of a)) (hy : Look c E L y (.of b)) : HR c E L ⟨d, .binOp .and t x y t2, ty, pos, af, g⟩ (.of (a &&& b)) := .pure fun A W s =>
  ⟨.int .u32 (a &&& b).toNat, by
    simp only [execOp, eqGuard, binOp, of_u32.1 (hx A W s), of_u32.1 (hy A W s)]
    have h : IntKind.u32.wrap ((a &&& b).toNat : Int) = ((a &&& b).toNat : Int) := by rw [wrap_u32]; have := lt_u32 (a &&& b); omega
    rw [← h]
    conv => rhs; rw [← ofInt_u32 a, ← ofInt_u32 b]
    rfl, of_u32.2 rfl⟩
theorem r_or32 {a b : BitVec 32} (hx : Look c E L x (.of a)) (hy : Look c E L y (.of b)) : HR c E L ⟨d, .binOp .or t x y t2, ty, pos, af, g⟩ (.of (a ||| b)) := .pure fun A W s =>
  ⟨.int .u32 (a ||| b).toNat, by
    simp only [execOp, eqGuard, binOp, of_u32.1 (hx A W s), of_u32.1 (hy A W s)]
    have h : IntKind.u32.wrap ((a ||| b).toNat : Int) = ((a ||| b).toNat : Int) := by rw [wrap_u32]; have := lt_u32 (a ||| b); omega
    rw [← h]
    conv => rhs; rw [← ofInt_u32 a, ← ofInt_u32 b]
    rfl, of_u32.2 rfl⟩
theorem r_xor32 {a b : BitVec 32} (hx : Look c E L x (.of a)) (hy : Look c E L y (.of b)) : HR c E L ⟨d, .binOp .xor t x y t2, ty, pos, af, g⟩ (.of (a ^^^ b)) := .pure fun A W s =>
  ⟨.int .u32 (a ^^^ b).toNat, by
    simp only [execOp, eqGuard, binOp, of_u32.1 (hx A W s), of_u32.1 (hy A W s)]
    have h : IntKind.u32.wrap ((a ^^^ b).toNat : Int) = ((a ^^^ b).toNat : Int) := by rw [wrap_u32]; have := lt_u32 (a ^^^ b); omega
    rw [← h]
    conv => rhs; rw [← ofInt_u32 a, ← ofInt_u32 b]
    rfl, of_u32.2 rfl⟩
theorem r_andNot32 {a b : BitVec 32} (hx : Look c E L x (.of a)) (hy : Look c E L y (.of b)) : HR c E L ⟨d, .binOp .andNot t x y t2, ty, pos, af, g⟩ (.of (a &&& ~~~b)) := .pure fun A W s =>
  ⟨.int .u32 (a &&& ~~~b).toNat, by
    simp only [execOp, eqGuard, binOp, of_u32.1 (hx A W s), of_u32.1 (hy A W s)]
    have h : IntKind.u32.wrap ((a &&& ~~~b).toNat : Int) = ((a &&& ~~~b).toNat : Int) := by rw [wrap_u32]; have := lt_u32 (a &&& ~~~b); omega
    rw [← h]
    conv => rhs; rw [← ofInt_u32 a, ← ofInt_u32 b]
    rfl, of_u32.2 rfl⟩
theorem r_com32 {a : BitVec 32} (hx : Look c E L x (.of a)) : HR c E L ⟨d, .unOp .xor t x, ty, pos, af, g⟩ (.of (~~~a)) := .pure fun A W s =>
  ⟨.int .u32 (~~~a).toNat, by
    have h : IntKind.u32.wrap ((BitVec.ofInt 32 4294967295 ^^^ BitVec.ofInt 32 (a.toNat : Int)).toNat : Int) = ((~~~a).toNat : Int) := by
      rw [ofInt_u32 a, show BitVec.ofInt 32 4294967295 = BitVec.allOnes 32 from rfl, BitVec.allOnes_xor, wrap_u32]; have := lt_u32 (~~~a); omega
    rw [← h]
    simp only [execOp, Op.unary, of_u32.1 (hx A W s)]
    rfl, of_u32.2 rfl⟩
theorem shl_u32 (a : BitVec 32) (n : Nat) : IntKind.u32.wrap ((a.toNat : Int) * 2 ^ min n 32) = ((a <<< n).toNat : Int) := by
  rw [wrap_u32, BitVec.toNat_shiftLeft, Nat.shiftLeft_eq]
  rcases Nat.lt_or_ge n 32 with h | h
  · rw [Nat.min_eq_left (by omega)]; simp
  · rw [Nat.min_eq_right h]
    have e : (a.toNat * 2 ^ n) % 2 ^ 32 = 0 := by
      rw [show n = 32 + (n - 32) by omega, Nat.pow_add]
      exact Nat.mod_eq_zero_of_dvd ⟨a.toNat * 2 ^ (n - 32), by rw [← Nat.mul_assoc, Nat.mul_comm a.toNat, Nat.mul_assoc]⟩
    rw [e]
    have e2 : (2 : Int) ^ 32 = 4294967296 := by decide
    rw [e2]; omega
theorem shr_u32 (a : BitVec 32) (n : Nat) : (a.toNat : Int).fdiv (2 ^ min n 32) = ((a >>> n).toNat : Int) := by
  rw [BitVec.toNat_ushiftRight, Nat.shiftRight_eq_div_pow]
  have e : ∀ m : Nat, (a.toNat : Int).fdiv (2 ^ m) = ((a.toNat / 2 ^ m : Nat) : Int) := by
    intro m
    rw [show ((2 : Int) ^ m) = ((2 ^ m : Nat) : Int) by simp]
    rw [Int.fdiv_eq_ediv_of_nonneg _ (Int.natCast_nonneg _)]
    exact (Int.natCast_ediv _ _).symm
  rw [e]
  rcases Nat.lt_or_ge n 32 with h | h
  · rw [Nat.min_eq_left (by omega)]
  · rw [Nat.min_eq_right h]
    have h1 : a.toNat / 2 ^ 32 = 0 := Nat.div_eq_of_lt a.isLt
    have h2 : a.toNat / 2 ^ n = 0 := Nat.div_eq_of_lt (Nat.lt_of_lt_of_le a.isLt (Nat.pow_le_pow_right (by omega) h))
    rw [h1, h2]
theorem r_shl32 {a : BitVec 32} {b : BitVec 64} (hx : Look c E L x (.of a)) (hy : Look c E L y (.of b)) : HR c E L ⟨d, .binOp .shl t x y t2, ty, pos, af, g⟩ (.of (a <<< b.toNat)) := .pure fun A W s =>
  ⟨.int .u32 (a <<< b.toNat).toNat, by
    simp only [execOp, eqGuard, binOp, of_u32.1 (hx A W s), of_u64.1 (hy A W s)]
    have h := run_shl c.P W .u32 .u64 a.toNat b.toNat (by omega)
    simp only [Int.toNat_natCast, IntKind.bits, shl_u32] at h
    exact congrArg (fun r : Result Value => r.andThen fun v w => .ok (Next.value v) w) h, of_u32.2 rfl⟩
theorem r_shl32i {a : BitVec 32} {b : Int} {n : Nat} (hx : Look c E L x (.of a)) (hy : Look c E L y (.of b)) (h : 0 ≤ b ∧ b.toNat = n) : HR c E L ⟨d, .binOp .shl t x y t2, ty, pos, af, g⟩ (.of (a <<< n)) := .pure fun A W s =>
  ⟨.int .u32 (a <<< n).toNat, by
    obtain ⟨h1, rfl⟩ := h
    simp only [execOp, eqGuard, binOp, of_u32.1 (hx A W s), of_int.1 (hy A W s)]
    have h := run_shl c.P W .u32 .i64 a.toNat b h1
    simp only [IntKind.bits, shl_u32] at h
    simp only [Sem.run_bind, Sem.run_ite, Sem.run_pure, Bool.not_false, if_true, Result.andThen_ok, h], of_u32.2 rfl⟩
theorem r_shr32 {a : BitVec 32} {b : BitVec 64} (hx : Look c E L x (.of a)) (hy : Look c E L y (.of b)) : HR c E L ⟨d, .binOp .shr t x y t2, ty, pos, af, g⟩ (.of (a >>> b.toNat)) := .pure fun A W s =>
  ⟨.int .u32 (a >>> b.toNat).toNat, by
    simp only [execOp, eqGuard, binOp, of_u32.1 (hx A W s), of_u64.1 (hy A W s)]
    have h := run_shr c.P W .u32 .u64 a.toNat b.toNat (by omega)
    simp only [Int.toNat_natCast, IntKind.bits, shr_u32] at h
    exact congrArg (fun r : Result Value => r.andThen fun v w => .ok (Next.value v) w) h, of_u32.2 rfl⟩
theorem r_shr32i {a : BitVec 32} {b : Int} {n : Nat} (hx : Look c E L x (.of a)) (hy : Look c E L y (.of b)) (h : 0 ≤ b ∧ b.toNat = n) : HR c E L ⟨d, .binOp .shr t x y t2, ty, pos, af, g⟩ (.of (a >>> n)) := .pure fun A W s =>
  ⟨.int .u32 (a >>> n).toNat, by
    obtain ⟨h1, rfl⟩ := h
    simp only [execOp, eqGuard, binOp, of_u32.1 (hx A W s), of_int.1 (hy A W s)]
    have h := run_shr c.P W .u32 .i64 a.toNat b h1
    simp only [IntKind.bits, shr_u32] at h
    simp only [Sem.run_bind, Sem.run_ite, Sem.run_pure, Bool.not_false, if_true, Result.andThen_ok, h], of_u32.2 rfl⟩
theorem r_lss32 {a b : BitVec 32} (hx : Look c E L x (.of a)) (hy : Look c E L y (.of b)) : HR c E L ⟨d, .binOp .lss t x y t2, ty, pos, af, g⟩ (.of (decide (a < b))) := .pure fun A W s =>
  ⟨.bool (decide (a < b)), by
    simp only [execOp, eqGuard, binOp, of_u32.1 (hx A W s), of_u32.1 (hy A W s)]
    have h : decide ((a.toNat : Int) < (b.toNat : Int)) = decide (a < b) := by simp [BitVec.lt_def, BitVec.le_def]
    rw [← h]; rfl, of_bool.2 rfl⟩
theorem r_leq32 {a b : BitVec 32} (hx : Look c E L x (.of a)) (hy : Look c E L y (.of b)) : HR c E L ⟨d, .binOp .leq t x y t2, ty, pos, af, g⟩ (.of (decide (a ≤ b))) := .pure fun A W s =>
  ⟨.bool (decide (a ≤ b)), by
    simp only [execOp, eqGuard, binOp, of_u32.1 (hx A W s), of_u32.1 (hy A W s)]
    have h : decide ((a.toNat : Int) ≤ (b.toNat : Int)) = decide (a ≤ b) := by simp [BitVec.lt_def, BitVec.le_def]
    rw [← h]; rfl, of_bool.2 rfl⟩
theorem r_gtr32 {a b : BitVec 32} (hx : Look c E L x (.of a)) (hy : Look c E L y (.of b)) : HR c E L ⟨d, .binOp .gtr t x y t2, ty, pos, af, g⟩ (.of (decide (a > b))) := .pure fun A W s =>
  ⟨.bool (decide (a > b)), by
    simp only [execOp, eqGuard, binOp, of_u32.1 (hx A W s), of_u32.1 (hy A W s)]
    have h : decide ((a.toNat : Int) > (b.toNat : Int)) = decide (a > b) := by simp [BitVec.lt_def, BitVec.le_def]
    rw [← h]; rfl, of_bool.2 rfl⟩
theorem r_geq32 {a b : BitVec 32} (hx : Look c E L x (.of a)) (hy : Look c E L y (.of b)) : HR c E L ⟨d, .binOp .geq t x y t2, ty, pos, af, g⟩ (.of (decide (a ≥ b))) := .pure fun A W s =>
  ⟨.bool (decide (a ≥ b)), by
    simp only [execOp, eqGuard, binOp, of_u32.1 (hx A W s), of_u32.1 (hy A W s)]
    have h : decide ((a.toNat : Int) ≥ (b.toNat : Int)) = decide (a ≥ b) := by simp [BitVec.lt_def, BitVec.le_def]
    rw [← h]; rfl, of_bool.2 rfl⟩
theorem r_eql32 {a b : BitVec 32} (hx : Look c E L x (.of a)) (hy : Look c E L y (.of b)) : HR c E L ⟨d, .binOp .eql t x y t2, ty, pos, af, g⟩ (.of (a == b)) := .pure fun A W s =>
  ⟨.bool (a == b), by
    simp only [execOp, eqGuard, binOp, of_u32.1 (hx A W s), of_u32.1 (hy A W s)]
    have h : ((a.toNat : Int) == (b.toNat : Int)) = (a == b) := by
      rw [Bool.eq_iff_iff]; simp [bne]; exact ⟨fun h => BitVec.eq_of_toNat_eq (by omega), fun h => by rw [h]⟩
    rw [← h]; rfl, of_bool.2 rfl⟩
theorem r_neq32 {a b : BitVec 32} (hx : Look c E L x (.of a)) (hy : Look c E L y (.of b)) : HR c E L ⟨d, .binOp .neq t x y t2, ty, pos, af, g⟩ (.of (a != b)) := .pure fun A W s =>
  ⟨.bool (a != b), by
    simp only [execOp, eqGuard, binOp, of_u32.1 (hx A W s), of_u32.1 (hy A W s)]
    have h : ((a.toNat : Int) != (b.toNat : Int)) = (a != b) := by
      rw [Bool.eq_iff_iff]; simp [bne]; exact ⟨fun h => fun e => h (by rw [e]), fun h => by intro e; exact h (BitVec.eq_of_toNat_eq (by omega))⟩
    rw [← h]; rfl, of_bool.2 rfl⟩
theorem r_ci32 {a : Int} {src dst : TypeId} {e : TypeDesc} (hs : c.P.underlying src = some e) (hd : c.P.underlying dst = some (.int .u32)) (hx : Look c E L x (.of a)) : HR c E L ⟨d, .convert src dst x, ty, pos, af, g⟩ (.of (BitVec.ofInt 32 a)) := .pure fun A W s =>
  ⟨.int .u32 (BitVec.ofInt 32 a).toNat, by
    have h : IntKind.u32.wrap a = ((BitVec.ofInt 32 a).toNat : Int) := by rw [wrap_u32, BitVec.toNat_ofInt]; omega
    simp [execOp, convert, run_underlying hs, run_underlying hd, of_int.1 (hx A W s), Conv.intToInt, h], of_u32.2 rfl⟩
theorem r_c32_8 {a : BitVec 32} {src dst : TypeId} {e : TypeDesc} (hs : c.P.underlying src = some e) (hd : c.P.underlying dst = some (.int .u8)) (hx : Look c E L x (.of a)) : HR c E L ⟨d, .convert src dst x, ty, pos, af, g⟩ (.of (a.setWidth 8)) := .pure fun A W s =>
  ⟨.int .u8 (a.setWidth 8).toNat, by
    have h : IntKind.u8.wrap (a.toNat : Int) = ((a.setWidth 8).toNat : Int) := by rw [wrap_u8, BitVec.toNat_setWidth]; have := a.isLt; omega
    simp only [execOp, convert, Sem.run_bind, run_underlying hs, run_underlying hd, of_u32.1 (hx A W s), Conv.intToInt, Result.andThen_ok, h]; rfl, of_u8.2 rfl⟩
theorem r_c32_16 {a : BitVec 32} {src dst : TypeId} {e : TypeDesc} (hs : c.P.underlying src = some e) (hd : c.P.underlying dst = some (.int .u16)) (hx : Look c E L x (.of a)) : HR c E L ⟨d, .convert src dst x, ty, pos, af, g⟩ (.of (a.setWidth 16)) := .pure fun A W s =>
  ⟨.int .u16 (a.setWidth 16).toNat, by
    have h : IntKind.u16.wrap (a.toNat : Int) = ((a.setWidth 16).toNat : Int) := by rw [wrap_u16, BitVec.toNat_setWidth]; have := a.isLt; omega
    simp only [execOp, convert, Sem.run_bind, run_underlying hs, run_underlying hd, of_u32.1 (hx A W s), Conv.intToInt, Result.andThen_ok, h]; rfl, of_u16.2 rfl⟩
theorem r_c32_32 {a : BitVec 32} {src dst : TypeId} {e : TypeDesc} (hs : c.P.underlying src = some e) (hd : c.P.underlying dst = some (.int .u32)) (hx : Look c E L x (.of a)) : HR c E L ⟨d, .convert src dst x, ty, pos, af, g⟩ (.of (a.setWidth 32)) := .pure fun A W s =>
  ⟨.int .u32 (a.setWidth 32).toNat, by
    have h : IntKind.u32.wrap (a.toNat : Int) = ((a.setWidth 32).toNat : Int) := by rw [wrap_u32, BitVec.toNat_setWidth]; have := a.isLt; omega
    simp only [execOp, convert, Sem.run_bind, run_underlying hs, run_underlying hd, of_u32.1 (hx A W s), Conv.intToInt, Result.andThen_ok, h]; rfl, of_u32.2 rfl⟩
theorem r_c32_64 {a : BitVec 32} {src dst : TypeId} {e : TypeDesc} (hs : c.P.underlying src = some e) (hd : c.P.underlying dst = some (.int .u64)) (hx : Look c E L x (.of a)) : HR c E L ⟨d, .convert src dst x, ty, pos, af, g⟩ (.of (a.setWidth 64)) := .pure fun A W s =>
  ⟨.int .u64 (a.setWidth 64).toNat, by
    have h : IntKind.u64.wrap (a.toNat : Int) = ((a.setWidth 64).toNat : Int) := by rw [wrap_u64, BitVec.toNat_setWidth]; have := a.isLt; omega
    simp only [execOp, convert, Sem.run_bind, run_underlying hs, run_underlying hd, of_u32.1 (hx A W s), Conv.intToInt, Result.andThen_ok, h]; rfl, of_u64.2 rfl⟩
theorem r_c32i {a : BitVec 32} {src dst : TypeId} {e : TypeDesc} (hs : c.P.underlying src = some e) (hd : c.P.underlying dst = some (.int .i64)) (hx : Look c E L x (.of a)) : HR c E L ⟨d, .convert src dst x, ty, pos, af, g⟩ (.of (a.toNat : Int)) := .pure fun A W s =>
  ⟨.int .i64 a.toNat, by
    have h : IntKind.i64.wrap (a.toNat : Int) = (a.toNat : Int) := w64_in (by omega) (by have := lt_u32 a; omega)
    simp only [execOp, convert, Sem.run_bind, run_underlying hs, run_underlying hd, of_u32.1 (hx A W s), Conv.intToInt, Result.andThen_ok, h]; rfl, of_int.2 rfl⟩

/-! ### uint64 -/
theorem lt_u64 (a : BitVec 64) : (a.toNat : Int) < 18446744073709551616 := by have := a.isLt; omega
theorem ofInt_u64 (a : BitVec 64) : BitVec.ofInt 64 (a.toNat : Int) = a := by simp
theorem add_u64 (a b : BitVec 64) : IntKind.u64.wrap ((a.toNat : Int) + (b.toNat : Int)) = ((a + b).toNat : Int) := by rw [wrap_u64, BitVec.toNat_add]; omega
theorem r_add64 {a b : BitVec 64} (hx : Look c E L x (.of a)) (hy : Look c E L y (.of b)) : HR c E L ⟨d, .binOp .add t x y t2, ty, pos, af, g⟩ (.of (a + b)) := .pure fun A W s =>
  ⟨.int .u64 (a + b).toNat, by simp [execOp, eqGuard, binOp, Op.intArith, of_u64.1 (hx A W s), of_u64.1 (hy A W s), add_u64], of_u64.2 rfl⟩
theorem sub_u64 (a b : BitVec 64) : IntKind.u64.wrap ((a.toNat : Int) - (b.toNat : Int)) = ((a - b).toNat : Int) := by rw [wrap_u64, BitVec.toNat_sub]; have := lt_u64 a; have := lt_u64 b; omega
theorem r_sub64 {a b : BitVec 64} (hx : Look c E L x (.of a)) (hy : Look c E L y (.of b)) : HR c E L ⟨d, .binOp .sub t x y t2, ty, pos, af, g⟩ (.of (a - b)) := .pure fun A W s =>
  ⟨.int .u64 (a - b).toNat, by simp [execOp, eqGuard, binOp, Op.intArith, of_u64.1 (hx A W s), of_u64.1 (hy A W s), sub_u64], of_u64.2 rfl⟩
theorem mul_u64 (a b : BitVec 64) : IntKind.u64.wrap ((a.toNat : Int) * (b.toNat : Int)) = ((a * b).toNat : Int) := by rw [wrap_u64, BitVec.toNat_mul]; simp
theorem r_mul64 {a b : BitVec 64} (hx : Look c E L x (.of a)) (hy : Look c E L y (.of b)) : HR c E L ⟨d, .binOp .mul t x y t2, ty, pos, af, g⟩ (.of (a * b)) := .pure fun A W s =>
  ⟨.int .u64 (a * b).toNat, by simp [execOp, eqGuard, binOp, Op.intArith, of_u64.1 (hx A W s), of_u64.1 (hy A W s), mul_u64], of_u64.2 rfl⟩
theorem r_and64 {a b : BitVec 64} (hx : Look c E L x (.of a)) (hy : Look c E L y (.of b)) : HR c E L ⟨d, .binOp .and t x y t2, ty, pos, af, g⟩ (.of (a &&& b)) := .pure fun A W s =>
  ⟨.int .u64 (a &&& b).toNat, by
    simp only [execOp, eqGuard, binOp, of_u64.1 (hx A W s), of_u64.1 (hy A W s)]
    have h : IntKind.u64.wrap ((a &&& b).toNat : Int) = ((a &&& b).toNat : Int) := by rw [wrap_u64]; have := lt_u64 (a &&& b); omega
    rw [← h]
    conv => rhs; rw [← ofInt_u64 a, ← ofInt_u64 b]
    rfl, of_u64.2 rfl⟩
theorem r_or64 {a b : BitVec 64} (hx : Look c E L x (.of a)) (hy : Look c E L y (.of b)) : HR c E L ⟨d, .binOp .or t x y t2, ty, pos, af, g⟩ (.of (a ||| b)) := .pure fun A W s =>
  ⟨.int .u64 (a ||| b).toNat, by
    simp only [execOp, eqGuard, binOp, of_u64.1 (hx A W s), of_u64.1 (hy A W s)]
    have h : IntKind.u64.wrap ((a ||| b).toNat : Int) = ((a ||| b).toNat : Int) := by rw [wrap_u64]; have := lt_u64 (a ||| b); omega
    rw [← h]
    conv => rhs; rw [← ofInt_u64 a, ← ofInt_u64 b]
    rfl, of_u64.2 rfl⟩
theorem r_xor64 {a b : BitVec 64} (hx : Look c E L x (.of a)) (hy : Look c E L y (.of b)) : HR c E L ⟨d, .binOp .xor t x y t2, ty, pos, af, g⟩ (.of (a ^^^ b)) := .pure fun A W s =>
  ⟨.int .u64 (a ^^^ b).toNat, by
    simp only [execOp, eqGuard, binOp, of_u64.1 (hx A W s), of_u64.1 (hy A W s)]
    have h : IntKind.u64.wrap ((a ^^^ b).toNat : Int) = ((a ^^^ b).toNat : Int) := by rw [wrap_u64]; have := lt_u64 (a ^^^ b); omega
    rw [← h]
    conv => rhs; rw [← ofInt_u64 a, ← ofInt_u64 b]
    rfl, of_u64.2 rfl⟩
theorem r_andNot64 {a b : BitVec 64} (hx : Look c E L x (.of a)) (hy : Look c E L y (.of b)) : HR c E L ⟨d, .binOp .andNot t x y t2, ty, pos, af, g⟩ (.of (a &&& ~~~b)) := .pure fun A W s =>
  ⟨.int .u64 (a &&& ~~~b).toNat, by
    simp only [execOp, eqGuard, binOp, of_u64.1 (hx A W s), of_u64.1 (hy A W s)]
    have h : IntKind.u64.wrap ((a &&& ~~~b).toNat : Int) = ((a &&& ~~~b).toNat : Int) := by rw [wrap_u64]; have := lt_u64 (a &&& ~~~b); omega
    rw [← h]
    conv => rhs; rw [← ofInt_u64 a, ← ofInt_u64 b]
    rfl, of_u64.2 rfl⟩
theorem r_com64 {a : BitVec 64} (hx : Look c E L x (.of a)) : HR c E L ⟨d, .unOp .xor t x, ty, pos, af, g⟩ (.of (~~~a)) := .pure fun A W s =>
  ⟨.int .u64 (~~~a).toNat, by
    have h : IntKind.u64.wrap ((BitVec.ofInt 64 18446744073709551615 ^^^ BitVec.ofInt 64 (a.toNat : Int)).toNat : Int) = ((~~~a).toNat : Int) := by
      rw [ofInt_u64 a, show BitVec.ofInt 64 18446744073709551615 = BitVec.allOnes 64 from rfl, BitVec.allOnes_xor, wrap_u64]; have := lt_u64 (~~~a); omega
    rw [← h]
    simp only [execOp, Op.unary, of_u64.1 (hx A W s)]
    rfl, of_u64.2 rfl⟩
theorem shl_u64 (a : BitVec 64) (n : Nat) : IntKind.u64.wrap ((a.toNat : Int) * 2 ^ min n 64) = ((a <<< n).toNat : Int) := by
  rw [wrap_u64, BitVec.toNat_shiftLeft, Nat.shiftLeft_eq]
  rcases Nat.lt_or_ge n 64 with h | h
  · rw [Nat.min_eq_left (by omega)]; simp
  · rw [Nat.min_eq_right h]
    have e : (a.toNat * 2 ^ n) % 2 ^ 64 = 0 := by
      rw [show n = 64 + (n - 64) by omega, Nat.pow_add]
      exact Nat.mod_eq_zero_of_dvd ⟨a.toNat * 2 ^ (n - 64), by rw [← Nat.mul_assoc, Nat.mul_comm a.toNat, Nat.mul_assoc]⟩
    rw [e]
    have e2 : (2 : Int) ^ 64 = 18446744073709551616 := by decide
    rw [e2]; omega
theorem shr_u64 (a : BitVec 64) (n : Nat) : (a.toNat : Int).fdiv (2 ^ min n 64) = ((a >>> n).toNat : Int) := by
  rw [BitVec.toNat_ushiftRight, Nat.shiftRight_eq_div_pow]
  have e : ∀ m : Nat, (a.toNat : Int).fdiv (2 ^ m) = ((a.toNat / 2 ^ m : Nat) : Int) := by
    intro m
    rw [show ((2 : Int) ^ m) = ((2 ^ m : Nat) : Int) by simp]
    rw [Int.fdiv_eq_ediv_of_nonneg _ (Int.natCast_nonneg _)]
    exact (Int.natCast_ediv _ _).symm
  rw [e]
  rcases Nat.lt_or_ge n 64 with h | h
  · rw [Nat.min_eq_left (by omega)]
  · rw [Nat.min_eq_right h]
    have h1 : a.toNat / 2 ^ 64 = 0 := Nat.div_eq_of_lt a.isLt
    have h2 : a.toNat / 2 ^ n = 0 := Nat.div_eq_of_lt (Nat.lt_of_lt_of_le a.isLt (Nat.pow_le_pow_right (by omega) h))
    rw [h1, h2]
theorem r_shl64 {a : BitVec 64} {b : BitVec 64} (hx : Look c E L x (.of a)) (hy : Look c E L y (.of b)) : HR c E L ⟨d, .binOp .shl t x y t2, ty, pos, af, g⟩ (.of (a <<< b.toNat)) := .pure fun A W s =>
  ⟨.int .u64 (a <<< b.toNat).toNat, by
    simp only [execOp, eqGuard, binOp, of_u64.1 (hx A W s), of_u64.1 (hy A W s)]
    have h := run_shl c.P W .u64 .u64 a.toNat b.toNat (by omega)
    simp only [Int.toNat_natCast, IntKind.bits, shl_u64] at h
    exact congrArg (fun r : Result Value => r.andThen fun v w => .ok (Next.value v) w) h, of_u64.2 rfl⟩
theorem r_shl64i {a : BitVec 64} {b : Int} {n : Nat} (hx : Look c E L x (.of a)) (hy : Look c E L y (.of b)) (h : 0 ≤ b ∧ b.toNat = n) : HR c E L ⟨d, .binOp .shl t x y t2, ty, pos, af, g⟩ (.of (a <<< n)) := .pure fun A W s =>
  ⟨.int .u64 (a <<< n).toNat, by
    obtain ⟨h1, rfl⟩ := h
    simp only [execOp, eqGuard, binOp, of_u64.1 (hx A W s), of_int.1 (hy A W s)]
    have h := run_shl c.P W .u64 .i64 a.toNat b h1
    simp only [IntKind.bits, shl_u64] at h
    simp only [Sem.run_bind, Sem.run_ite, Sem.run_pure, Bool.not_false, if_true, Result.andThen_ok, h], of_u64.2 rfl⟩
theorem r_shr64 {a : BitVec 64} {b : BitVec 64} (hx : Look c E L x (.of a)) (hy : Look c E L y (.of b)) : HR c E L ⟨d, .binOp .shr t x y t2, ty, pos, af, g⟩ (.of (a >>> b.toNat)) := .pure fun A W s =>
  ⟨.int .u64 (a >>> b.toNat).toNat, by
    simp only [execOp, eqGuard, binOp, of_u64.1 (hx A W s), of_u64.1 (hy A W s)]
    have h := run_shr c.P W .u64 .u64 a.toNat b.toNat (by omega)
    simp only [Int.toNat_natCast, IntKind.bits, shr_u64] at h
    exact congrArg (fun r : Result Value => r.andThen fun v w => .ok (Next.value v) w) h, of_u64.2 rfl⟩
theorem r_shr64i {a : BitVec 64} {b : Int} {n : Nat} (hx : Look c E L x (.of a)) (hy : Look c E L y (.of b)) (h : 0 ≤ b ∧ b.toNat = n) : HR c E L ⟨d, .binOp .shr t x y t2, ty, pos, af, g⟩ (.of (a >>> n)) := .pure fun A W s =>
  ⟨.int .u64 (a >>> n).toNat, by
    obtain ⟨h1, rfl⟩ := h
    simp only [execOp, eqGuard, binOp, of_u64.1 (hx A W s), of_int.1 (hy A W s)]
    have h := run_shr c.P W .u64 .i64 a.toNat b h1
    simp only [IntKind.bits, shr_u64] at h
    simp only [Sem.run_bind, Sem.run_ite, Sem.run_pure, Bool.not_false, if_true, Result.andThen_ok, h], of_u64.2 rfl⟩
theorem r_lss64 {a b : BitVec 64} (hx : Look c E L x (.of a)) (hy : Look c E L y (.of b)) : HR c E L ⟨d, .binOp .lss t x y t2, ty, pos, af, g⟩ (.of (decide (a < b))) := .pure fun A W s =>
  ⟨.bool (decide (a < b)), by
    simp only [execOp, eqGuard, binOp, of_u64.1 (hx A W s), of_u64.1 (hy A W s)]
    have h : decide ((a.toNat : Int) < (b.toNat : Int)) = decide (a < b) := by simp [BitVec.lt_def, BitVec.le_def]
    rw [← h]; rfl, of_bool.2 rfl⟩
theorem r_leq64 {a b : BitVec 64} (hx : Look c E L x (.of a)) (hy : Look c E L y (.of b)) : HR c E L ⟨d, .binOp .leq t x y t2, ty, pos, af, g⟩ (.of (decide (a ≤ b))) := .pure fun A W s =>
  ⟨.bool (decide (a ≤ b)), by
    simp only [execOp, eqGuard, binOp, of_u64.1 (hx A W s), of_u64.1 (hy A W s)]
    have h : decide ((a.toNat : Int) ≤ (b.toNat : Int)) = decide (a ≤ b) := by simp [BitVec.lt_def, BitVec.le_def]
    rw [← h]; rfl, of_bool.2 rfl⟩
theorem r_gtr64 {a b : BitVec 64} (hx : Look c E L x (.of a)) (hy : Look c E L y (.of b)) : HR c E L ⟨d, .binOp .gtr t x y t2, ty, pos, af, g⟩ (.of (decide (a > b))) := .pure fun A W s =>
  ⟨.bool (decide (a > b)), by
    simp only [execOp, eqGuard, binOp, of_u64.1 (hx A W s), of_u64.1 (hy A W s)]
    have h : decide ((a.toNat : Int) > (b.toNat : Int)) = decide (a > b) := by simp [BitVec.lt_def, BitVec.le_def]
    rw [← h]; rfl, of_bool.2 rfl⟩
theorem r_geq64 {a b : BitVec 64} (hx : Look c E L x (.of a)) (hy : Look c E L y (.of b)) : HR c E L ⟨d, .binOp .geq t x y t2, ty, pos, af, g⟩ (.of (decide (a ≥ b))) := .pure fun A W s =>
  ⟨.bool (decide (a ≥ b)), by
    simp only [execOp, eqGuard, binOp, of_u64.1 (hx A W s), of_u64.1 (hy A W s)]
    have h : decide ((a.toNat : Int) ≥ (b.toNat : Int)) = decide (a ≥ b) := by simp [BitVec.lt_def, BitVec.le_def]
    rw [← h]; rfl, of_bool.2 rfl⟩
theorem r_eql64 {a b : BitVec 64} (hx : Look c E L x (.of a)) (hy : Look c E L y (.of b)) : HR c E L ⟨d, .binOp .eql t x y t2, ty, pos, af, g⟩ (.of (a == b)) := .pure fun A W s =>
  ⟨.bool (a == b), by
    simp only [execOp, eqGuard, binOp, of_u64.1 (hx A W s), of_u64.1 (hy A W s)]
    have h : ((a.toNat : Int) == (b.toNat : Int)) = (a == b) := by
      rw [Bool.eq_iff_iff]; simp [bne]; exact ⟨fun h => BitVec.eq_of_toNat_eq (by omega), fun h => by rw [h]⟩
    rw [← h]; rfl, of_bool.2 rfl⟩
theorem r_neq64 {a b : BitVec 64} (hx : Look c E L x (.of a)) (hy : Look c E L y (.of b)) : HR c E L ⟨d, .binOp .neq t x y t2, ty, pos, af, g⟩ (.of (a != b)) := .pure fun A W s =>
  ⟨.bool (a != b), by
    simp only [execOp, eqGuard, binOp, of_u64.1 (hx A W s), of_u64.1 (hy A W s)]
    have h : ((a.toNat : Int) != (b.toNat : Int)) = (a != b) := by
      rw [Bool.eq_iff_iff]; simp [bne]; exact ⟨fun h => fun e => h (by rw [e]), fun h => by intro e; exact h (BitVec.eq_of_toNat_eq (by omega))⟩
    rw [← h]; rfl, of_bool.2 rfl⟩
theorem r_ci64 {a : Int} {src dst : TypeId} {e : TypeDesc} (hs : c.P.underlying src = some e) (hd : c.P.underlying dst = some (.int .u64)) (hx : Look c E L x (.of a)) : HR c E L ⟨d, .convert src dst x, ty, pos, af, g⟩ (.of (BitVec.ofInt 64 a)) := .pure fun A W s =>
  ⟨.int .u64 (BitVec.ofInt 64 a).toNat, by
    have h : IntKind.u64.wrap a = ((BitVec.ofInt 64 a).toNat : Int) := by rw [wrap_u64, BitVec.toNat_ofInt]; omega
    simp [execOp, convert, run_underlying hs, run_underlying hd, of_int.1 (hx A W s), Conv.intToInt, h], of_u64.2 rfl⟩
theorem r_c64_8 {a : BitVec 64} {src dst : TypeId} {e : TypeDesc} (hs : c.P.underlying src = some e) (hd : c.P.underlying dst = some (.int .u8)) (hx : Look c E L x (.of a)) : HR c E L ⟨d, .convert src dst x, ty, pos, af, g⟩ (.of (a.setWidth 8)) := .pure fun A W s =>
  ⟨.int .u8 (a.setWidth 8).toNat, by
    have h : IntKind.u8.wrap (a.toNat : Int) = ((a.setWidth 8).toNat : Int) := by rw [wrap_u8, BitVec.toNat_setWidth]; have := a.isLt; omega
    simp only [execOp, convert, Sem.run_bind, run_underlying hs, run_underlying hd, of_u64.1 (hx A W s), Conv.intToInt, Result.andThen_ok, h]; rfl, of_u8.2 rfl⟩
theorem r_c64_16 {a : BitVec 64} {src dst : TypeId} {e : TypeDesc} (hs : c.P.underlying src = some e) (hd : c.P.underlying dst = some (.int .u16)) (hx : Look c E L x (.of a)) : HR c E L ⟨d, .convert src dst x, ty, pos, af, g⟩ (.of (a.setWidth 16)) := .pure fun A W s =>
  ⟨.int .u16 (a.setWidth 16).toNat, by
    have h : IntKind.u16.wrap (a.toNat : Int) = ((a.setWidth 16).toNat : Int) := by rw [wrap_u16, BitVec.toNat_setWidth]; have := a.isLt; omega
    simp only [execOp, convert, Sem.run_bind, run_underlying hs, run_underlying hd, of_u64.1 (hx A W s), Conv.intToInt, Result.andThen_ok, h]; rfl, of_u16.2 rfl⟩
theorem r_c64_32 {a : BitVec 64} {src dst : TypeId} {e : TypeDesc} (hs : c.P.underlying src = some e) (hd : c.P.underlying dst = some (.int .u32)) (hx : Look c E L x (.of a)) : HR c E L ⟨d, .convert src dst x, ty, pos, af, g⟩ (.of (a.setWidth 32)) := .pure fun A W s =>
  ⟨.int .u32 (a.setWidth 32).toNat, by
    have h : IntKind.u32.wrap (a.toNat : Int) = ((a.setWidth 32).toNat : Int) := by rw [wrap_u32, BitVec.toNat_setWidth]; have := a.isLt; omega
    simp only [execOp, convert, Sem.run_bind, run_underlying hs, run_underlying hd, of_u64.1 (hx A W s), Conv.intToInt, Result.andThen_ok, h]; rfl, of_u32.2 rfl⟩
theorem r_c64_64 {a : BitVec 64} {src dst : TypeId} {e : TypeDesc} (hs : c.P.underlying src = some e) (hd : c.P.underlying dst = some (.int .u64)) (hx : Look c E L x (.of a)) : HR c E L ⟨d, .convert src dst x, ty, pos, af, g⟩ (.of (a.setWidth 64)) := .pure fun A W s =>
  ⟨.int .u64 (a.setWidth 64).toNat, by
    have h : IntKind.u64.wrap (a.toNat : Int) = ((a.setWidth 64).toNat : Int) := by rw [wrap_u64, BitVec.toNat_setWidth]; have := a.isLt; omega
    simp only [execOp, convert, Sem.run_bind, run_underlying hs, run_underlying hd, of_u64.1 (hx A W s), Conv.intToInt, Result.andThen_ok, h]; rfl, of_u64.2 rfl⟩
theorem r_c64i {a : BitVec 64} {src dst : TypeId} {e : TypeDesc} (hs : c.P.underlying src = some e) (hd : c.P.underlying dst = some (.int .i64)) (hx : Look c E L x (.of a)) : HR c E L ⟨d, .convert src dst x, ty, pos, af, g⟩ (.of (w64 a.toNat)) := .pure fun A W s =>
  ⟨.int .i64 (w64 a.toNat), by
    simp only [execOp, convert, Sem.run_bind, run_underlying hs, run_underlying hd, of_u64.1 (hx A W s), Conv.intToInt, Result.andThen_ok]; rfl, of_int.2 rfl⟩

end
end Gv
