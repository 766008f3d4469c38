/-
  Printed by the decompiler (dec.py) out of the seat's translation. The types of its data, and facts on its tables. Conditions: none.
-/
import Derived.Test.YtabodolbdalimaaRows
import Derived.Test.YtabodolbdalimaaGvS
namespace Go.Proofs.Ytabodolbdalimaa
open Go Gv
set_option linter.unusedVariables false
set_option linter.unusedSimpArgs false
set_option maxRecDepth 100000
structure T_api_Value where
  f_Hi : BitVec 64
  f_Lo : BitVec 64
  deriving DecidableEq, Inhabited
instance : Rp T_api_Value where
  size := 2
  agg := true
  rep A W cs x := cs.length = 2 ∧ Rp.rep A W ((cs.drop 0).take (Rp.size (BitVec 64))) x.f_Hi ∧ Rp.rep A W ((cs.drop 1).take (Rp.size (BitVec 64))) x.f_Lo
  len h := h.1
  one h := by
    intro u hu
    have h0 := mem_cut (o := 0) (s := Rp.size (BitVec 64)) (by simpa using hu)
    rcases h0 with h1 | h0
    · exact Rp.one h.2.1 u h1
    have h0 := mem_cut (s := Rp.size (BitVec 64)) h0
    rcases h0 with h1 | h0
    · exact Rp.one h.2.2 u h1
    exact mem_end h.1 (by rfl) h0
  flat h := by cases h
  mono e h := ⟨h.1, Rp.mono e h.2.1, Rp.mono e h.2.2⟩
def le_T_api_Value_Hi : Lens T_api_Value (BitVec 64) where
  off := 0
  get := T_api_Value.f_Hi
  set b g := { b with f_Hi := g }
  inb := by decide
  get_rep h := h.2.1
  set_rep h hg := by
    have hl := h.1
    have hd := Rp.len hg
    exact ⟨sp_len hl hd (by decide), by rw [sp_same hl hd (by decide)]; exact hg, by rw [sp_other hl hd (by decide) (.inr (by decide))]; exact h.2.2⟩
def le_T_api_Value_Lo : Lens T_api_Value (BitVec 64) where
  off := 1
  get := T_api_Value.f_Lo
  set b g := { b with f_Lo := g }
  inb := by decide
  get_rep h := h.2.2
  set_rep h hg := by
    have hl := h.1
    have hd := Rp.len hg
    exact ⟨sp_len hl hd (by decide), by rw [sp_other hl hd (by decide) (.inl (by decide))]; exact h.2.1, by rw [sp_same hl hd (by decide)]; exact hg⟩
instance : Zc T_api_Value := ⟨Zc.cells (BitVec 64) ++ Zc.cells (BitVec 64), fun A W => ⟨by rfl, Zc.ok (α := BitVec 64) A W, Zc.ok (α := BitVec 64) A W⟩⟩
theorem ty26 : Ty Try.prog 26 (Vector T_api_Value 4) := Ty.of (by rfl) Try.underlying26 (by kernel_rfl)
structure T_cube_Cube where
  f_Value : Vector T_api_Value 4
  f_Mask : Vector T_api_Value 4
  deriving DecidableEq, Inhabited
instance : Rp T_cube_Cube where
  size := 16
  agg := true
  rep A W cs x := cs.length = 16 ∧ Rp.rep A W ((cs.drop 0).take (Rp.size (Vector T_api_Value 4))) x.f_Value ∧ Rp.rep A W ((cs.drop 8).take (Rp.size (Vector T_api_Value 4))) x.f_Mask
  len h := h.1
  one h := by
    intro u hu
    have h0 := mem_cut (o := 0) (s := Rp.size (Vector T_api_Value 4)) (by simpa using hu)
    rcases h0 with h1 | h0
    · exact Rp.one h.2.1 u h1
    have h0 := mem_cut (s := Rp.size (Vector T_api_Value 4)) h0
    rcases h0 with h1 | h0
    · exact Rp.one h.2.2 u h1
    exact mem_end h.1 (by rfl) h0
  flat h := by cases h
  mono e h := ⟨h.1, Rp.mono e h.2.1, Rp.mono e h.2.2⟩
def le_T_cube_Cube_Value : Lens T_cube_Cube (Vector T_api_Value 4) where
  off := 0
  get := T_cube_Cube.f_Value
  set b g := { b with f_Value := g }
  inb := by decide
  get_rep h := h.2.1
  set_rep h hg := by
    have hl := h.1
    have hd := Rp.len hg
    exact ⟨sp_len hl hd (by decide), by rw [sp_same hl hd (by decide)]; exact hg, by rw [sp_other hl hd (by decide) (.inr (by decide))]; exact h.2.2⟩
def le_T_cube_Cube_Mask : Lens T_cube_Cube (Vector T_api_Value 4) where
  off := 8
  get := T_cube_Cube.f_Mask
  set b g := { b with f_Mask := g }
  inb := by decide
  get_rep h := h.2.2
  set_rep h hg := by
    have hl := h.1
    have hd := Rp.len hg
    exact ⟨sp_len hl hd (by decide), by rw [sp_other hl hd (by decide) (.inl (by decide))]; exact h.2.1, by rw [sp_same hl hd (by decide)]; exact hg⟩
instance : Zc T_cube_Cube := ⟨Zc.cells (Vector T_api_Value 4) ++ Zc.cells (Vector T_api_Value 4), fun A W => ⟨by rfl, Zc.ok (α := Vector T_api_Value 4) A W, Zc.ok (α := Vector T_api_Value 4) A W⟩⟩
theorem zr28 : Zr Try.prog 28 (default : T_cube_Cube) := Zr.of (by kernel_rfl)
theorem bu28 : Bu Try.prog 28 #[(0, 8), (8, 8)] := ⟨_, Try.underlying28, by kernel_rfl, by kernel_rfl⟩
theorem fd28_0 : FdA Try.prog 28 0 0 := FdA.of Try.underlying28 rfl rfl ty26 rfl
theorem ty24 : Ty Try.prog 24 T_api_Value := Ty.of (by rfl) Try.underlying24 (by kernel_rfl)
theorem ar26 : Ar Try.prog 26 4 2 := Ar.of Try.underlying26 ty24 rfl
theorem fd28_1 : FdA Try.prog 28 1 8 := FdA.of Try.underlying28 rfl rfl ty26 rfl
theorem zr24 : Zr Try.prog 24 (default : T_api_Value) := Zr.of (by kernel_rfl)
theorem zr111 : Zr Try.prog 111 (default : Vector Bool 128) := Zr.of (by kernel_rfl)
theorem ty22 : Ty Try.prog 22 (BitVec 64) := Ty.of (by rfl) Try.underlying22 (by kernel_rfl)
theorem fd24_1 : FdA Try.prog 24 1 1 := FdA.of Try.underlying24 rfl rfl ty22 rfl
theorem fd24_0 : FdA Try.prog 24 0 0 := FdA.of Try.underlying24 rfl rfl ty22 rfl
theorem ty4 : Ty Try.prog 4 Bool := Ty.of (by rfl) Try.underlying4 (by kernel_rfl)
theorem ar111 : Ar Try.prog 111 128 1 := Ar.of Try.underlying111 ty4 rfl
theorem mixed : Try.prog.follows .mixedOrders = true := by kernel_rfl
theorem ty111 : Ty Try.prog 111 (Vector Bool 128) := Ty.of (by rfl) Try.underlying111 (by kernel_rfl)
theorem en62 : En Try.prog 62 := ⟨_, Try.func62, rfl, by kernel_rfl⟩
theorem en63 : En Try.prog 63 := ⟨_, Try.func63, rfl, by kernel_rfl⟩
theorem en23 : En Try.prog 23 := ⟨_, Try.func23, rfl, by kernel_rfl⟩
theorem ty28 : Ty Try.prog 28 T_cube_Cube := Ty.of (by rfl) Try.underlying28 (by kernel_rfl)
theorem en13 : En Try.prog 13 := ⟨_, Try.func13, rfl, by kernel_rfl⟩
theorem bu24 : Bu Try.prog 24 #[(0, 1), (1, 1)] := ⟨_, Try.underlying24, by kernel_rfl, by kernel_rfl⟩
theorem en48 : En Try.prog 48 := ⟨_, Try.func48, rfl, by kernel_rfl⟩
theorem en51 : En Try.prog 51 := ⟨_, Try.func51, rfl, by kernel_rfl⟩
theorem en14 : En Try.prog 14 := ⟨_, Try.func14, rfl, by kernel_rfl⟩
theorem zr26 : Zr Try.prog 26 (default : Vector T_api_Value 4) := Zr.of (by kernel_rfl)
theorem en56 : En Try.prog 56 := ⟨_, Try.func56, rfl, by kernel_rfl⟩
theorem en52 : En Try.prog 52 := ⟨_, Try.func52, rfl, by kernel_rfl⟩
theorem en57 : En Try.prog 57 := ⟨_, Try.func57, rfl, by kernel_rfl⟩
theorem eqv22 : Eqv Try.prog 22 (BitVec 64) 1 := eqv_u64 (K := .u64) Try.underlying22
theorem eqv24 : Eqv Try.prog 24 T_api_Value 2 := eqv_struct (k := 1) rfl Try.underlying24 (by kernel_rfl) fun d hd A W xs ys x y hx hy => by
  refine Eq.trans (eqf_cons le_T_api_Value_Hi ty22 rfl (by rfl) eqv22 (by omega) hx hy (eqf_cons le_T_api_Value_Lo ty22 rfl (by rfl) eqv22 (by omega) hx hy (eqf_nil))) ?_
  congr 1
  rw [Bool.eq_iff_iff]
  simp only [Bool.and_eq_true, decide_eq_true_eq, and_true]
  cases x; cases y
  simp [le_T_api_Value_Hi, le_T_api_Value_Lo]

theorem eqv26 : Eqv Try.prog 26 (Vector T_api_Value 4) 3 := eqv_arr Try.underlying26 ty24 eqv24
theorem eqg26 : Try.prog.eqGuardType Try.prog.depth 26 = false := by kernel_rfl
theorem en58 : En Try.prog 58 := ⟨_, Try.func58, rfl, by kernel_rfl⟩
theorem en18 : En Try.prog 18 := ⟨_, Try.func18, rfl, by kernel_rfl⟩
theorem en115 : En Try.prog 115 := ⟨_, Try.func115, rfl, by kernel_rfl⟩
theorem en112 : En Try.prog 112 := ⟨_, Try.func112, rfl, by kernel_rfl⟩
theorem en106 : En Try.prog 106 := ⟨_, Try.func106, rfl, by kernel_rfl⟩
theorem en89 : En Try.prog 89 := ⟨_, Try.func89, rfl, by kernel_rfl⟩
theorem en53 : En Try.prog 53 := ⟨_, Try.func53, rfl, by kernel_rfl⟩
theorem en59 : En Try.prog 59 := ⟨_, Try.func59, rfl, by kernel_rfl⟩
theorem fv24_1 : Fv Try.prog 24 1 22 1 := ⟨_, _, Try.underlying24, rfl, rfl, rfl⟩
theorem en90 : En Try.prog 90 := ⟨_, Try.func90, rfl, by kernel_rfl⟩
theorem en54 : En Try.prog 54 := ⟨_, Try.func54, rfl, by kernel_rfl⟩
theorem en61 : En Try.prog 61 := ⟨_, Try.func61, rfl, by kernel_rfl⟩
theorem en60 : En Try.prog 60 := ⟨_, Try.func60, rfl, by kernel_rfl⟩
theorem en21 : En Try.prog 21 := ⟨_, Try.func21, rfl, by kernel_rfl⟩
theorem en15 : En Try.prog 15 := ⟨_, Try.func15, rfl, by kernel_rfl⟩
theorem zr36 : Zr Try.prog 36 (default : Vector (BitVec 8) 512) := Zr.of (by kernel_rfl)
theorem ty5 : Ty Try.prog 5 (BitVec 8) := Ty.of (by rfl) Try.underlying5 (by kernel_rfl)
theorem ar36 : Ar Try.prog 36 512 1 := Ar.of Try.underlying36 ty5 rfl
theorem ty36 : Ty Try.prog 36 (Vector (BitVec 8) 512) := Ty.of (by rfl) Try.underlying36 (by kernel_rfl)
theorem en55 : En Try.prog 55 := ⟨_, Try.func55, rfl, by kernel_rfl⟩
theorem en17 : En Try.prog 17 := ⟨_, Try.func17, rfl, by kernel_rfl⟩
theorem en26 : En Try.prog 26 := ⟨_, Try.func26, rfl, by kernel_rfl⟩
theorem en16 : En Try.prog 16 := ⟨_, Try.func16, rfl, by kernel_rfl⟩
theorem eqv5 : Eqv Try.prog 5 (BitVec 8) 1 := eqv_u8 (K := .u8) Try.underlying5
theorem eqv36 : Eqv Try.prog 36 (Vector (BitVec 8) 512) 2 := eqv_arr Try.underlying36 ty5 eqv5
theorem eqg36 : Try.prog.eqGuardType Try.prog.depth 36 = false := by kernel_rfl
theorem eqv28 : Eqv Try.prog 28 T_cube_Cube 4 := eqv_struct (k := 3) rfl Try.underlying28 (by kernel_rfl) fun d hd A W xs ys x y hx hy => by
  refine Eq.trans (eqf_cons le_T_cube_Cube_Value ty26 rfl (by rfl) eqv26 (by omega) hx hy (eqf_cons le_T_cube_Cube_Mask ty26 rfl (by rfl) eqv26 (by omega) hx hy (eqf_nil))) ?_
  congr 1
  rw [Bool.eq_iff_iff]
  simp only [Bool.and_eq_true, decide_eq_true_eq, and_true]
  cases x; cases y
  simp [le_T_cube_Cube_Value, le_T_cube_Cube_Mask]

theorem eqg28 : Try.prog.eqGuardType Try.prog.depth 28 = false := by kernel_rfl
theorem en66 : En Try.prog 66 := ⟨_, Try.func66, rfl, by kernel_rfl⟩
theorem en30 : En Try.prog 30 := ⟨_, Try.func30, rfl, by kernel_rfl⟩
theorem en19 : En Try.prog 19 := ⟨_, Try.func19, rfl, by kernel_rfl⟩
theorem en27 : En Try.prog 27 := ⟨_, Try.func27, rfl, by kernel_rfl⟩
theorem en28 : En Try.prog 28 := ⟨_, Try.func28, rfl, by kernel_rfl⟩
theorem en64 : En Try.prog 64 := ⟨_, Try.func64, rfl, by kernel_rfl⟩
theorem en24 : En Try.prog 24 := ⟨_, Try.func24, rfl, by kernel_rfl⟩
theorem en22 : En Try.prog 22 := ⟨_, Try.func22, rfl, by kernel_rfl⟩
theorem en25 : En Try.prog 25 := ⟨_, Try.func25, rfl, by kernel_rfl⟩
theorem en65 : En Try.prog 65 := ⟨_, Try.func65, rfl, by kernel_rfl⟩
theorem en29 : En Try.prog 29 := ⟨_, Try.func29, rfl, by kernel_rfl⟩
theorem en31 : En Try.prog 31 := ⟨_, Try.func31, rfl, by kernel_rfl⟩
theorem en20 : En Try.prog 20 := ⟨_, Try.func20, rfl, by kernel_rfl⟩
theorem ty3 : Ty Try.prog 3 Int := Ty.of (by rfl) Try.underlying3 (by kernel_rfl)
theorem zr3 : Zr Try.prog 3 (default : Int) := Zr.of (by kernel_rfl)
theorem zr4 : Zr Try.prog 4 (default : Bool) := Zr.of (by kernel_rfl)
theorem ty66 : Ty Try.prog 66 (BitVec 16) := Ty.of (by rfl) Try.underlying66 (by kernel_rfl)
theorem ty117 : Ty Try.prog 117 (BitVec 64) := Ty.of (by rfl) Try.underlying117 (by kernel_rfl)
theorem zr117 : Zr Try.prog 117 (default : BitVec 64) := Zr.of (by kernel_rfl)
theorem en32 : En Try.prog 32 := ⟨_, Try.func32, rfl, by kernel_rfl⟩
theorem en92 : En Try.prog 92 := ⟨_, Try.func92, rfl, by kernel_rfl⟩
theorem en93 : En Try.prog 93 := ⟨_, Try.func93, rfl, by kernel_rfl⟩
theorem en113 : En Try.prog 113 := ⟨_, Try.func113, rfl, by kernel_rfl⟩
theorem en91 : En Try.prog 91 := ⟨_, Try.func91, rfl, by kernel_rfl⟩
theorem en67 : En Try.prog 67 := ⟨_, Try.func67, rfl, by kernel_rfl⟩
theorem en95 : En Try.prog 95 := ⟨_, Try.func95, rfl, by kernel_rfl⟩
theorem en94 : En Try.prog 94 := ⟨_, Try.func94, rfl, by kernel_rfl⟩
theorem en96 : En Try.prog 96 := ⟨_, Try.func96, rfl, by kernel_rfl⟩
theorem en97 : En Try.prog 97 := ⟨_, Try.func97, rfl, by kernel_rfl⟩
theorem en68 : En Try.prog 68 := ⟨_, Try.func68, rfl, by kernel_rfl⟩
theorem en114 : En Try.prog 114 := ⟨_, Try.func114, rfl, by kernel_rfl⟩
theorem en98 : En Try.prog 98 := ⟨_, Try.func98, rfl, by kernel_rfl⟩
theorem en33 : En Try.prog 33 := ⟨_, Try.func33, rfl, by kernel_rfl⟩
theorem en35 : En Try.prog 35 := ⟨_, Try.func35, rfl, by kernel_rfl⟩
theorem en69 : En Try.prog 69 := ⟨_, Try.func69, rfl, by kernel_rfl⟩
theorem en70 : En Try.prog 70 := ⟨_, Try.func70, rfl, by kernel_rfl⟩
theorem en34 : En Try.prog 34 := ⟨_, Try.func34, rfl, by kernel_rfl⟩
theorem en36 : En Try.prog 36 := ⟨_, Try.func36, rfl, by kernel_rfl⟩
theorem en37 : En Try.prog 37 := ⟨_, Try.func37, rfl, by kernel_rfl⟩
theorem en38 : En Try.prog 38 := ⟨_, Try.func38, rfl, by kernel_rfl⟩
theorem en39 : En Try.prog 39 := ⟨_, Try.func39, rfl, by kernel_rfl⟩
theorem en71 : En Try.prog 71 := ⟨_, Try.func71, rfl, by kernel_rfl⟩
theorem en40 : En Try.prog 40 := ⟨_, Try.func40, rfl, by kernel_rfl⟩
end Go.Proofs.Ytabodolbdalimaa
