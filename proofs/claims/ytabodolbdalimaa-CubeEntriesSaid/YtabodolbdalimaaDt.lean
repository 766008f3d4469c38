/-
  Printed by the decompiler (dec.py) out of the seat's translation. The types of its data, and facts on its tables. Conditions: none.
-/
import Derived.Test.YtabodolbdalimaaRows
import Derived.Test.YtabodolbdalimaaGvV
namespace Go.Proofs.Ytabodolbdalimaa
open Go Gv
set_option linter.unusedVariables false
set_option linter.unusedSimpArgs false
set_option maxRecDepth 100000
structure T_mcase_Codes where
  f_l : List (BitVec 8)
  f_at : Int
  deriving DecidableEq, Inhabited
instance : Rp T_mcase_Codes where
  size := 2
  agg := true
  rep A W cs x := cs.length = 2 ∧ Rp.rep A W ((cs.drop 0).take (Rp.size (List (BitVec 8)))) x.f_l ∧ Rp.rep A W ((cs.drop 1).take (Rp.size Int)) x.f_at
  len h := h.1
  one h := by
    intro u hu
    have h0 := mem_cut (o := 0) (s := Rp.size (List (BitVec 8))) (by simpa using hu)
    rcases h0 with h1 | h0
    · exact Rp.one h.2.1 u h1
    have h0 := mem_cut (s := Rp.size Int) h0
    rcases h0 with h1 | h0
    · exact Rp.one h.2.2 u h1
    exact mem_end h.1 (by rfl) h0
  flat h := by cases h
  mono e h := ⟨h.1, Rp.mono e h.2.1, Rp.mono e h.2.2⟩
def le_T_mcase_Codes_l : Lens T_mcase_Codes (List (BitVec 8)) where
  off := 0
  get := T_mcase_Codes.f_l
  set b g := { b with f_l := g }
  inb := by decide
  get_rep h := h.2.1
  set_rep h hg := by
    have hl := h.1
    have hd := Rp.len hg
    exact ⟨sp_len hl hd (by decide), by rw [sp_same hl hd (by decide)]; exact hg, by rw [sp_other hl hd (by decide) (.inr (by decide))]; exact h.2.2⟩
def le_T_mcase_Codes_at : Lens T_mcase_Codes Int where
  off := 1
  get := T_mcase_Codes.f_at
  set b g := { b with f_at := g }
  inb := by decide
  get_rep h := h.2.2
  set_rep h hg := by
    have hl := h.1
    have hd := Rp.len hg
    exact ⟨sp_len hl hd (by decide), by rw [sp_other hl hd (by decide) (.inl (by decide))]; exact h.2.1, by rw [sp_same hl hd (by decide)]; exact hg⟩
instance : Zc T_mcase_Codes := ⟨Zc.cells (List (BitVec 8)) ++ Zc.cells Int, fun A W => ⟨by rfl, Zc.ok (α := List (BitVec 8)) A W, Zc.ok (α := Int) A W⟩⟩
theorem ty5 : Ty Try.prog 5 (BitVec 8) := Ty.of (by rfl) Try.underlying5 (by kernel_rfl)
theorem zr125 : Zr Try.prog 125 (default : T_mcase_Codes) := Zr.of (by kernel_rfl)
theorem bu125 : Bu Try.prog 125 #[(0, 1), (1, 1)] := ⟨_, Try.underlying125, by kernel_rfl, by kernel_rfl⟩
theorem en41 : En Try.prog 41 := ⟨_, Try.func41, rfl, by kernel_rfl⟩
structure T_api_Field where
  f_ID : Int
  f_Name : ByteArray
  f_Bits : Int
  deriving DecidableEq, Inhabited
instance : Rp T_api_Field where
  size := 3
  agg := true
  rep A W cs x := cs.length = 3 ∧ Rp.rep A W ((cs.drop 0).take (Rp.size Int)) x.f_ID ∧ Rp.rep A W ((cs.drop 1).take (Rp.size ByteArray)) x.f_Name ∧ Rp.rep A W ((cs.drop 2).take (Rp.size Int)) x.f_Bits
  len h := h.1
  one h := by
    intro u hu
    have h0 := mem_cut (o := 0) (s := Rp.size Int) (by simpa using hu)
    rcases h0 with h1 | h0
    · exact Rp.one h.2.1 u h1
    have h0 := mem_cut (s := Rp.size ByteArray) h0
    rcases h0 with h1 | h0
    · exact Rp.one h.2.2.1 u h1
    have h0 := mem_cut (s := Rp.size Int) h0
    rcases h0 with h1 | h0
    · exact Rp.one h.2.2.2 u h1
    exact mem_end h.1 (by rfl) h0
  flat h := by cases h
  mono e h := ⟨h.1, Rp.mono e h.2.1, Rp.mono e h.2.2.1, Rp.mono e h.2.2.2⟩
def le_T_api_Field_ID : Lens T_api_Field Int where
  off := 0
  get := T_api_Field.f_ID
  set b g := { b with f_ID := g }
  inb := by decide
  get_rep h := h.2.1
  set_rep h hg := by
    have hl := h.1
    have hd := Rp.len hg
    exact ⟨sp_len hl hd (by decide), by rw [sp_same hl hd (by decide)]; exact hg, by rw [sp_other hl hd (by decide) (.inr (by decide))]; exact h.2.2.1, by rw [sp_other hl hd (by decide) (.inr (by decide))]; exact h.2.2.2⟩
def le_T_api_Field_Name : Lens T_api_Field ByteArray where
  off := 1
  get := T_api_Field.f_Name
  set b g := { b with f_Name := g }
  inb := by decide
  get_rep h := h.2.2.1
  set_rep h hg := by
    have hl := h.1
    have hd := Rp.len hg
    exact ⟨sp_len hl hd (by decide), by rw [sp_other hl hd (by decide) (.inl (by decide))]; exact h.2.1, by rw [sp_same hl hd (by decide)]; exact hg, by rw [sp_other hl hd (by decide) (.inr (by decide))]; exact h.2.2.2⟩
def le_T_api_Field_Bits : Lens T_api_Field Int where
  off := 2
  get := T_api_Field.f_Bits
  set b g := { b with f_Bits := g }
  inb := by decide
  get_rep h := h.2.2.2
  set_rep h hg := by
    have hl := h.1
    have hd := Rp.len hg
    exact ⟨sp_len hl hd (by decide), by rw [sp_other hl hd (by decide) (.inl (by decide))]; exact h.2.1, by rw [sp_other hl hd (by decide) (.inl (by decide))]; exact h.2.2.1, by rw [sp_same hl hd (by decide)]; exact hg⟩
instance : Zc T_api_Field := ⟨Zc.cells Int ++ Zc.cells ByteArray ++ Zc.cells Int, fun A W => ⟨by rfl, Zc.ok (α := Int) A W, Zc.ok (α := ByteArray) A W, Zc.ok (α := Int) A W⟩⟩
structure T_api_Header where
  f_ID : Int
  f_Name : ByteArray
  f_Fields : List Int
  deriving DecidableEq, Inhabited
instance : Rp T_api_Header where
  size := 3
  agg := true
  rep A W cs x := cs.length = 3 ∧ Rp.rep A W ((cs.drop 0).take (Rp.size Int)) x.f_ID ∧ Rp.rep A W ((cs.drop 1).take (Rp.size ByteArray)) x.f_Name ∧ Rp.rep A W ((cs.drop 2).take (Rp.size (List Int))) x.f_Fields
  len h := h.1
  one h := by
    intro u hu
    have h0 := mem_cut (o := 0) (s := Rp.size Int) (by simpa using hu)
    rcases h0 with h1 | h0
    · exact Rp.one h.2.1 u h1
    have h0 := mem_cut (s := Rp.size ByteArray) h0
    rcases h0 with h1 | h0
    · exact Rp.one h.2.2.1 u h1
    have h0 := mem_cut (s := Rp.size (List Int)) h0
    rcases h0 with h1 | h0
    · exact Rp.one h.2.2.2 u h1
    exact mem_end h.1 (by rfl) h0
  flat h := by cases h
  mono e h := ⟨h.1, Rp.mono e h.2.1, Rp.mono e h.2.2.1, Rp.mono e h.2.2.2⟩
def le_T_api_Header_ID : Lens T_api_Header Int where
  off := 0
  get := T_api_Header.f_ID
  set b g := { b with f_ID := g }
  inb := by decide
  get_rep h := h.2.1
  set_rep h hg := by
    have hl := h.1
    have hd := Rp.len hg
    exact ⟨sp_len hl hd (by decide), by rw [sp_same hl hd (by decide)]; exact hg, by rw [sp_other hl hd (by decide) (.inr (by decide))]; exact h.2.2.1, by rw [sp_other hl hd (by decide) (.inr (by decide))]; exact h.2.2.2⟩
def le_T_api_Header_Name : Lens T_api_Header ByteArray where
  off := 1
  get := T_api_Header.f_Name
  set b g := { b with f_Name := g }
  inb := by decide
  get_rep h := h.2.2.1
  set_rep h hg := by
    have hl := h.1
    have hd := Rp.len hg
    exact ⟨sp_len hl hd (by decide), by rw [sp_other hl hd (by decide) (.inl (by decide))]; exact h.2.1, by rw [sp_same hl hd (by decide)]; exact hg, by rw [sp_other hl hd (by decide) (.inr (by decide))]; exact h.2.2.2⟩
def le_T_api_Header_Fields : Lens T_api_Header (List Int) where
  off := 2
  get := T_api_Header.f_Fields
  set b g := { b with f_Fields := g }
  inb := by decide
  get_rep h := h.2.2.2
  set_rep h hg := by
    have hl := h.1
    have hd := Rp.len hg
    exact ⟨sp_len hl hd (by decide), by rw [sp_other hl hd (by decide) (.inl (by decide))]; exact h.2.1, by rw [sp_other hl hd (by decide) (.inl (by decide))]; exact h.2.2.1, by rw [sp_same hl hd (by decide)]; exact hg⟩
instance : Zc T_api_Header := ⟨Zc.cells Int ++ Zc.cells ByteArray ++ Zc.cells (List Int), fun A W => ⟨by rfl, Zc.ok (α := Int) A W, Zc.ok (α := ByteArray) A W, Zc.ok (α := List Int) A W⟩⟩
structure T_api_Value where
  f_Hi : BitVec 64
  f_Lo : BitVec 64
  deriving DecidableEq, Inhabited
instance : Rp T_api_Value where
  size := 2
  agg := true
  rep A W cs x := cs.length = 2 ∧ Rp.rep A W ((cs.drop 0).take (Rp.size (BitVec 64))) x.f_Hi ∧ Rp.rep A W ((cs.drop 1).take (Rp.size (BitVec 64))) x.f_Lo
  len h := h.1
  one h := by
    intro u hu
    have h0 := mem_cut (o := 0) (s := Rp.size (BitVec 64)) (by simpa using hu)
    rcases h0 with h1 | h0
    · exact Rp.one h.2.1 u h1
    have h0 := mem_cut (s := Rp.size (BitVec 64)) h0
    rcases h0 with h1 | h0
    · exact Rp.one h.2.2 u h1
    exact mem_end h.1 (by rfl) h0
  flat h := by cases h
  mono e h := ⟨h.1, Rp.mono e h.2.1, Rp.mono e h.2.2⟩
def le_T_api_Value_Hi : Lens T_api_Value (BitVec 64) where
  off := 0
  get := T_api_Value.f_Hi
  set b g := { b with f_Hi := g }
  inb := by decide
  get_rep h := h.2.1
  set_rep h hg := by
    have hl := h.1
    have hd := Rp.len hg
    exact ⟨sp_len hl hd (by decide), by rw [sp_same hl hd (by decide)]; exact hg, by rw [sp_other hl hd (by decide) (.inr (by decide))]; exact h.2.2⟩
def le_T_api_Value_Lo : Lens T_api_Value (BitVec 64) where
  off := 1
  get := T_api_Value.f_Lo
  set b g := { b with f_Lo := g }
  inb := by decide
  get_rep h := h.2.2
  set_rep h hg := by
    have hl := h.1
    have hd := Rp.len hg
    exact ⟨sp_len hl hd (by decide), by rw [sp_other hl hd (by decide) (.inl (by decide))]; exact h.2.1, by rw [sp_same hl hd (by decide)]; exact hg⟩
instance : Zc T_api_Value := ⟨Zc.cells (BitVec 64) ++ Zc.cells (BitVec 64), fun A W => ⟨by rfl, Zc.ok (α := BitVec 64) A W, Zc.ok (α := BitVec 64) A W⟩⟩
structure T_api_Case where
  f_Value : T_api_Value
  f_Mask : T_api_Value
  f_Next : Int
  deriving DecidableEq, Inhabited
instance : Rp T_api_Case where
  size := 5
  agg := true
  rep A W cs x := cs.length = 5 ∧ Rp.rep A W ((cs.drop 0).take (Rp.size T_api_Value)) x.f_Value ∧ Rp.rep A W ((cs.drop 2).take (Rp.size T_api_Value)) x.f_Mask ∧ Rp.rep A W ((cs.drop 4).take (Rp.size Int)) x.f_Next
  len h := h.1
  one h := by
    intro u hu
    have h0 := mem_cut (o := 0) (s := Rp.size T_api_Value) (by simpa using hu)
    rcases h0 with h1 | h0
    · exact Rp.one h.2.1 u h1
    have h0 := mem_cut (s := Rp.size T_api_Value) h0
    rcases h0 with h1 | h0
    · exact Rp.one h.2.2.1 u h1
    have h0 := mem_cut (s := Rp.size Int) h0
    rcases h0 with h1 | h0
    · exact Rp.one h.2.2.2 u h1
    exact mem_end h.1 (by rfl) h0
  flat h := by cases h
  mono e h := ⟨h.1, Rp.mono e h.2.1, Rp.mono e h.2.2.1, Rp.mono e h.2.2.2⟩
def le_T_api_Case_Value : Lens T_api_Case T_api_Value where
  off := 0
  get := T_api_Case.f_Value
  set b g := { b with f_Value := g }
  inb := by decide
  get_rep h := h.2.1
  set_rep h hg := by
    have hl := h.1
    have hd := Rp.len hg
    exact ⟨sp_len hl hd (by decide), by rw [sp_same hl hd (by decide)]; exact hg, by rw [sp_other hl hd (by decide) (.inr (by decide))]; exact h.2.2.1, by rw [sp_other hl hd (by decide) (.inr (by decide))]; exact h.2.2.2⟩
def le_T_api_Case_Mask : Lens T_api_Case T_api_Value where
  off := 2
  get := T_api_Case.f_Mask
  set b g := { b with f_Mask := g }
  inb := by decide
  get_rep h := h.2.2.1
  set_rep h hg := by
    have hl := h.1
    have hd := Rp.len hg
    exact ⟨sp_len hl hd (by decide), by rw [sp_other hl hd (by decide) (.inl (by decide))]; exact h.2.1, by rw [sp_same hl hd (by decide)]; exact hg, by rw [sp_other hl hd (by decide) (.inr (by decide))]; exact h.2.2.2⟩
def le_T_api_Case_Next : Lens T_api_Case Int where
  off := 4
  get := T_api_Case.f_Next
  set b g := { b with f_Next := g }
  inb := by decide
  get_rep h := h.2.2.2
  set_rep h hg := by
    have hl := h.1
    have hd := Rp.len hg
    exact ⟨sp_len hl hd (by decide), by rw [sp_other hl hd (by decide) (.inl (by decide))]; exact h.2.1, by rw [sp_other hl hd (by decide) (.inl (by decide))]; exact h.2.2.1, by rw [sp_same hl hd (by decide)]; exact hg⟩
instance : Zc T_api_Case := ⟨Zc.cells T_api_Value ++ Zc.cells T_api_Value ++ Zc.cells Int, fun A W => ⟨by rfl, Zc.ok (α := T_api_Value) A W, Zc.ok (α := T_api_Value) A W, Zc.ok (α := Int) A W⟩⟩
structure T_api_State where
  f_ID : Int
  f_Header : Int
  f_Select : Int
  f_Cases : List T_api_Case
  f_Default : Int
  deriving DecidableEq, Inhabited
instance : Rp T_api_State where
  size := 5
  agg := true
  rep A W cs x := cs.length = 5 ∧ Rp.rep A W ((cs.drop 0).take (Rp.size Int)) x.f_ID ∧ Rp.rep A W ((cs.drop 1).take (Rp.size Int)) x.f_Header ∧ Rp.rep A W ((cs.drop 2).take (Rp.size Int)) x.f_Select ∧ Rp.rep A W ((cs.drop 3).take (Rp.size (List T_api_Case))) x.f_Cases ∧ Rp.rep A W ((cs.drop 4).take (Rp.size Int)) x.f_Default
  len h := h.1
  one h := by
    intro u hu
    have h0 := mem_cut (o := 0) (s := Rp.size Int) (by simpa using hu)
    rcases h0 with h1 | h0
    · exact Rp.one h.2.1 u h1
    have h0 := mem_cut (s := Rp.size Int) h0
    rcases h0 with h1 | h0
    · exact Rp.one h.2.2.1 u h1
    have h0 := mem_cut (s := Rp.size Int) h0
    rcases h0 with h1 | h0
    · exact Rp.one h.2.2.2.1 u h1
    have h0 := mem_cut (s := Rp.size (List T_api_Case)) h0
    rcases h0 with h1 | h0
    · exact Rp.one h.2.2.2.2.1 u h1
    have h0 := mem_cut (s := Rp.size Int) h0
    rcases h0 with h1 | h0
    · exact Rp.one h.2.2.2.2.2 u h1
    exact mem_end h.1 (by rfl) h0
  flat h := by cases h
  mono e h := ⟨h.1, Rp.mono e h.2.1, Rp.mono e h.2.2.1, Rp.mono e h.2.2.2.1, Rp.mono e h.2.2.2.2.1, Rp.mono e h.2.2.2.2.2⟩
def le_T_api_State_ID : Lens T_api_State Int where
  off := 0
  get := T_api_State.f_ID
  set b g := { b with f_ID := g }
  inb := by decide
  get_rep h := h.2.1
  set_rep h hg := by
    have hl := h.1
    have hd := Rp.len hg
    exact ⟨sp_len hl hd (by decide), by rw [sp_same hl hd (by decide)]; exact hg, by rw [sp_other hl hd (by decide) (.inr (by decide))]; exact h.2.2.1, by rw [sp_other hl hd (by decide) (.inr (by decide))]; exact h.2.2.2.1, by rw [sp_other hl hd (by decide) (.inr (by decide))]; exact h.2.2.2.2.1, by rw [sp_other hl hd (by decide) (.inr (by decide))]; exact h.2.2.2.2.2⟩
def le_T_api_State_Header : Lens T_api_State Int where
  off := 1
  get := T_api_State.f_Header
  set b g := { b with f_Header := g }
  inb := by decide
  get_rep h := h.2.2.1
  set_rep h hg := by
    have hl := h.1
    have hd := Rp.len hg
    exact ⟨sp_len hl hd (by decide), by rw [sp_other hl hd (by decide) (.inl (by decide))]; exact h.2.1, by rw [sp_same hl hd (by decide)]; exact hg, by rw [sp_other hl hd (by decide) (.inr (by decide))]; exact h.2.2.2.1, by rw [sp_other hl hd (by decide) (.inr (by decide))]; exact h.2.2.2.2.1, by rw [sp_other hl hd (by decide) (.inr (by decide))]; exact h.2.2.2.2.2⟩
def le_T_api_State_Select : Lens T_api_State Int where
  off := 2
  get := T_api_State.f_Select
  set b g := { b with f_Select := g }
  inb := by decide
  get_rep h := h.2.2.2.1
  set_rep h hg := by
    have hl := h.1
    have hd := Rp.len hg
    exact ⟨sp_len hl hd (by decide), by rw [sp_other hl hd (by decide) (.inl (by decide))]; exact h.2.1, by rw [sp_other hl hd (by decide) (.inl (by decide))]; exact h.2.2.1, by rw [sp_same hl hd (by decide)]; exact hg, by rw [sp_other hl hd (by decide) (.inr (by decide))]; exact h.2.2.2.2.1, by rw [sp_other hl hd (by decide) (.inr (by decide))]; exact h.2.2.2.2.2⟩
def le_T_api_State_Cases : Lens T_api_State (List T_api_Case) where
  off := 3
  get := T_api_State.f_Cases
  set b g := { b with f_Cases := g }
  inb := by decide
  get_rep h := h.2.2.2.2.1
  set_rep h hg := by
    have hl := h.1
    have hd := Rp.len hg
    exact ⟨sp_len hl hd (by decide), by rw [sp_other hl hd (by decide) (.inl (by decide))]; exact h.2.1, by rw [sp_other hl hd (by decide) (.inl (by decide))]; exact h.2.2.1, by rw [sp_other hl hd (by decide) (.inl (by decide))]; exact h.2.2.2.1, by rw [sp_same hl hd (by decide)]; exact hg, by rw [sp_other hl hd (by decide) (.inr (by decide))]; exact h.2.2.2.2.2⟩
def le_T_api_State_Default : Lens T_api_State Int where
  off := 4
  get := T_api_State.f_Default
  set b g := { b with f_Default := g }
  inb := by decide
  get_rep h := h.2.2.2.2.2
  set_rep h hg := by
    have hl := h.1
    have hd := Rp.len hg
    exact ⟨sp_len hl hd (by decide), by rw [sp_other hl hd (by decide) (.inl (by decide))]; exact h.2.1, by rw [sp_other hl hd (by decide) (.inl (by decide))]; exact h.2.2.1, by rw [sp_other hl hd (by decide) (.inl (by decide))]; exact h.2.2.2.1, by rw [sp_other hl hd (by decide) (.inl (by decide))]; exact h.2.2.2.2.1, by rw [sp_same hl hd (by decide)]; exact hg⟩
instance : Zc T_api_State := ⟨Zc.cells Int ++ Zc.cells Int ++ Zc.cells Int ++ Zc.cells (List T_api_Case) ++ Zc.cells Int, fun A W => ⟨by rfl, Zc.ok (α := Int) A W, Zc.ok (α := Int) A W, Zc.ok (α := Int) A W, Zc.ok (α := List T_api_Case) A W, Zc.ok (α := Int) A W⟩⟩
structure T_api_Param where
  f_Name : ByteArray
  f_Bits : Int
  deriving DecidableEq, Inhabited
instance : Rp T_api_Param where
  size := 2
  agg := true
  rep A W cs x := cs.length = 2 ∧ Rp.rep A W ((cs.drop 0).take (Rp.size ByteArray)) x.f_Name ∧ Rp.rep A W ((cs.drop 1).take (Rp.size Int)) x.f_Bits
  len h := h.1
  one h := by
    intro u hu
    have h0 := mem_cut (o := 0) (s := Rp.size ByteArray) (by simpa using hu)
    rcases h0 with h1 | h0
    · exact Rp.one h.2.1 u h1
    have h0 := mem_cut (s := Rp.size Int) h0
    rcases h0 with h1 | h0
    · exact Rp.one h.2.2 u h1
    exact mem_end h.1 (by rfl) h0
  flat h := by cases h
  mono e h := ⟨h.1, Rp.mono e h.2.1, Rp.mono e h.2.2⟩
def le_T_api_Param_Name : Lens T_api_Param ByteArray where
  off := 0
  get := T_api_Param.f_Name
  set b g := { b with f_Name := g }
  inb := by decide
  get_rep h := h.2.1
  set_rep h hg := by
    have hl := h.1
    have hd := Rp.len hg
    exact ⟨sp_len hl hd (by decide), by rw [sp_same hl hd (by decide)]; exact hg, by rw [sp_other hl hd (by decide) (.inr (by decide))]; exact h.2.2⟩
def le_T_api_Param_Bits : Lens T_api_Param Int where
  off := 1
  get := T_api_Param.f_Bits
  set b g := { b with f_Bits := g }
  inb := by decide
  get_rep h := h.2.2
  set_rep h hg := by
    have hl := h.1
    have hd := Rp.len hg
    exact ⟨sp_len hl hd (by decide), by rw [sp_other hl hd (by decide) (.inl (by decide))]; exact h.2.1, by rw [sp_same hl hd (by decide)]; exact hg⟩
instance : Zc T_api_Param := ⟨Zc.cells ByteArray ++ Zc.cells Int, fun A W => ⟨by rfl, Zc.ok (α := ByteArray) A W, Zc.ok (α := Int) A W⟩⟩
structure T_api_Operand where
  f_Kind : Int
  f_N : Int
  f_Value : T_api_Value
  deriving DecidableEq, Inhabited
instance : Rp T_api_Operand where
  size := 4
  agg := true
  rep A W cs x := cs.length = 4 ∧ Rp.rep A W ((cs.drop 0).take (Rp.size Int)) x.f_Kind ∧ Rp.rep A W ((cs.drop 1).take (Rp.size Int)) x.f_N ∧ Rp.rep A W ((cs.drop 2).take (Rp.size T_api_Value)) x.f_Value
  len h := h.1
  one h := by
    intro u hu
    have h0 := mem_cut (o := 0) (s := Rp.size Int) (by simpa using hu)
    rcases h0 with h1 | h0
    · exact Rp.one h.2.1 u h1
    have h0 := mem_cut (s := Rp.size Int) h0
    rcases h0 with h1 | h0
    · exact Rp.one h.2.2.1 u h1
    have h0 := mem_cut (s := Rp.size T_api_Value) h0
    rcases h0 with h1 | h0
    · exact Rp.one h.2.2.2 u h1
    exact mem_end h.1 (by rfl) h0
  flat h := by cases h
  mono e h := ⟨h.1, Rp.mono e h.2.1, Rp.mono e h.2.2.1, Rp.mono e h.2.2.2⟩
def le_T_api_Operand_Kind : Lens T_api_Operand Int where
  off := 0
  get := T_api_Operand.f_Kind
  set b g := { b with f_Kind := g }
  inb := by decide
  get_rep h := h.2.1
  set_rep h hg := by
    have hl := h.1
    have hd := Rp.len hg
    exact ⟨sp_len hl hd (by decide), by rw [sp_same hl hd (by decide)]; exact hg, by rw [sp_other hl hd (by decide) (.inr (by decide))]; exact h.2.2.1, by rw [sp_other hl hd (by decide) (.inr (by decide))]; exact h.2.2.2⟩
def le_T_api_Operand_N : Lens T_api_Operand Int where
  off := 1
  get := T_api_Operand.f_N
  set b g := { b with f_N := g }
  inb := by decide
  get_rep h := h.2.2.1
  set_rep h hg := by
    have hl := h.1
    have hd := Rp.len hg
    exact ⟨sp_len hl hd (by decide), by rw [sp_other hl hd (by decide) (.inl (by decide))]; exact h.2.1, by rw [sp_same hl hd (by decide)]; exact hg, by rw [sp_other hl hd (by decide) (.inr (by decide))]; exact h.2.2.2⟩
def le_T_api_Operand_Value : Lens T_api_Operand T_api_Value where
  off := 2
  get := T_api_Operand.f_Value
  set b g := { b with f_Value := g }
  inb := by decide
  get_rep h := h.2.2.2
  set_rep h hg := by
    have hl := h.1
    have hd := Rp.len hg
    exact ⟨sp_len hl hd (by decide), by rw [sp_other hl hd (by decide) (.inl (by decide))]; exact h.2.1, by rw [sp_other hl hd (by decide) (.inl (by decide))]; exact h.2.2.1, by rw [sp_same hl hd (by decide)]; exact hg⟩
instance : Zc T_api_Operand := ⟨Zc.cells Int ++ Zc.cells Int ++ Zc.cells T_api_Value, fun A W => ⟨by rfl, Zc.ok (α := Int) A W, Zc.ok (α := Int) A W, Zc.ok (α := T_api_Value) A W⟩⟩
structure T_api_Prim where
  f_Op : Int
  f_Dst : Int
  f_Src : T_api_Operand
  deriving DecidableEq, Inhabited
instance : Rp T_api_Prim where
  size := 6
  agg := true
  rep A W cs x := cs.length = 6 ∧ Rp.rep A W ((cs.drop 0).take (Rp.size Int)) x.f_Op ∧ Rp.rep A W ((cs.drop 1).take (Rp.size Int)) x.f_Dst ∧ Rp.rep A W ((cs.drop 2).take (Rp.size T_api_Operand)) x.f_Src
  len h := h.1
  one h := by
    intro u hu
    have h0 := mem_cut (o := 0) (s := Rp.size Int) (by simpa using hu)
    rcases h0 with h1 | h0
    · exact Rp.one h.2.1 u h1
    have h0 := mem_cut (s := Rp.size Int) h0
    rcases h0 with h1 | h0
    · exact Rp.one h.2.2.1 u h1
    have h0 := mem_cut (s := Rp.size T_api_Operand) h0
    rcases h0 with h1 | h0
    · exact Rp.one h.2.2.2 u h1
    exact mem_end h.1 (by rfl) h0
  flat h := by cases h
  mono e h := ⟨h.1, Rp.mono e h.2.1, Rp.mono e h.2.2.1, Rp.mono e h.2.2.2⟩
def le_T_api_Prim_Op : Lens T_api_Prim Int where
  off := 0
  get := T_api_Prim.f_Op
  set b g := { b with f_Op := g }
  inb := by decide
  get_rep h := h.2.1
  set_rep h hg := by
    have hl := h.1
    have hd := Rp.len hg
    exact ⟨sp_len hl hd (by decide), by rw [sp_same hl hd (by decide)]; exact hg, by rw [sp_other hl hd (by decide) (.inr (by decide))]; exact h.2.2.1, by rw [sp_other hl hd (by decide) (.inr (by decide))]; exact h.2.2.2⟩
def le_T_api_Prim_Dst : Lens T_api_Prim Int where
  off := 1
  get := T_api_Prim.f_Dst
  set b g := { b with f_Dst := g }
  inb := by decide
  get_rep h := h.2.2.1
  set_rep h hg := by
    have hl := h.1
    have hd := Rp.len hg
    exact ⟨sp_len hl hd (by decide), by rw [sp_other hl hd (by decide) (.inl (by decide))]; exact h.2.1, by rw [sp_same hl hd (by decide)]; exact hg, by rw [sp_other hl hd (by decide) (.inr (by decide))]; exact h.2.2.2⟩
def le_T_api_Prim_Src : Lens T_api_Prim T_api_Operand where
  off := 2
  get := T_api_Prim.f_Src
  set b g := { b with f_Src := g }
  inb := by decide
  get_rep h := h.2.2.2
  set_rep h hg := by
    have hl := h.1
    have hd := Rp.len hg
    exact ⟨sp_len hl hd (by decide), by rw [sp_other hl hd (by decide) (.inl (by decide))]; exact h.2.1, by rw [sp_other hl hd (by decide) (.inl (by decide))]; exact h.2.2.1, by rw [sp_same hl hd (by decide)]; exact hg⟩
instance : Zc T_api_Prim := ⟨Zc.cells Int ++ Zc.cells Int ++ Zc.cells T_api_Operand, fun A W => ⟨by rfl, Zc.ok (α := Int) A W, Zc.ok (α := Int) A W, Zc.ok (α := T_api_Operand) A W⟩⟩
structure T_api_Action where
  f_ID : Int
  f_Name : ByteArray
  f_Params : List T_api_Param
  f_Body : List T_api_Prim
  f_Restriction : ByteArray
  deriving DecidableEq, Inhabited
instance : Rp T_api_Action where
  size := 5
  agg := true
  rep A W cs x := cs.length = 5 ∧ Rp.rep A W ((cs.drop 0).take (Rp.size Int)) x.f_ID ∧ Rp.rep A W ((cs.drop 1).take (Rp.size ByteArray)) x.f_Name ∧ Rp.rep A W ((cs.drop 2).take (Rp.size (List T_api_Param))) x.f_Params ∧ Rp.rep A W ((cs.drop 3).take (Rp.size (List T_api_Prim))) x.f_Body ∧ Rp.rep A W ((cs.drop 4).take (Rp.size ByteArray)) x.f_Restriction
  len h := h.1
  one h := by
    intro u hu
    have h0 := mem_cut (o := 0) (s := Rp.size Int) (by simpa using hu)
    rcases h0 with h1 | h0
    · exact Rp.one h.2.1 u h1
    have h0 := mem_cut (s := Rp.size ByteArray) h0
    rcases h0 with h1 | h0
    · exact Rp.one h.2.2.1 u h1
    have h0 := mem_cut (s := Rp.size (List T_api_Param)) h0
    rcases h0 with h1 | h0
    · exact Rp.one h.2.2.2.1 u h1
    have h0 := mem_cut (s := Rp.size (List T_api_Prim)) h0
    rcases h0 with h1 | h0
    · exact Rp.one h.2.2.2.2.1 u h1
    have h0 := mem_cut (s := Rp.size ByteArray) h0
    rcases h0 with h1 | h0
    · exact Rp.one h.2.2.2.2.2 u h1
    exact mem_end h.1 (by rfl) h0
  flat h := by cases h
  mono e h := ⟨h.1, Rp.mono e h.2.1, Rp.mono e h.2.2.1, Rp.mono e h.2.2.2.1, Rp.mono e h.2.2.2.2.1, Rp.mono e h.2.2.2.2.2⟩
def le_T_api_Action_ID : Lens T_api_Action Int where
  off := 0
  get := T_api_Action.f_ID
  set b g := { b with f_ID := g }
  inb := by decide
  get_rep h := h.2.1
  set_rep h hg := by
    have hl := h.1
    have hd := Rp.len hg
    exact ⟨sp_len hl hd (by decide), by rw [sp_same hl hd (by decide)]; exact hg, by rw [sp_other hl hd (by decide) (.inr (by decide))]; exact h.2.2.1, by rw [sp_other hl hd (by decide) (.inr (by decide))]; exact h.2.2.2.1, by rw [sp_other hl hd (by decide) (.inr (by decide))]; exact h.2.2.2.2.1, by rw [sp_other hl hd (by decide) (.inr (by decide))]; exact h.2.2.2.2.2⟩
def le_T_api_Action_Name : Lens T_api_Action ByteArray where
  off := 1
  get := T_api_Action.f_Name
  set b g := { b with f_Name := g }
  inb := by decide
  get_rep h := h.2.2.1
  set_rep h hg := by
    have hl := h.1
    have hd := Rp.len hg
    exact ⟨sp_len hl hd (by decide), by rw [sp_other hl hd (by decide) (.inl (by decide))]; exact h.2.1, by rw [sp_same hl hd (by decide)]; exact hg, by rw [sp_other hl hd (by decide) (.inr (by decide))]; exact h.2.2.2.1, by rw [sp_other hl hd (by decide) (.inr (by decide))]; exact h.2.2.2.2.1, by rw [sp_other hl hd (by decide) (.inr (by decide))]; exact h.2.2.2.2.2⟩
def le_T_api_Action_Params : Lens T_api_Action (List T_api_Param) where
  off := 2
  get := T_api_Action.f_Params
  set b g := { b with f_Params := g }
  inb := by decide
  get_rep h := h.2.2.2.1
  set_rep h hg := by
    have hl := h.1
    have hd := Rp.len hg
    exact ⟨sp_len hl hd (by decide), by rw [sp_other hl hd (by decide) (.inl (by decide))]; exact h.2.1, by rw [sp_other hl hd (by decide) (.inl (by decide))]; exact h.2.2.1, by rw [sp_same hl hd (by decide)]; exact hg, by rw [sp_other hl hd (by decide) (.inr (by decide))]; exact h.2.2.2.2.1, by rw [sp_other hl hd (by decide) (.inr (by decide))]; exact h.2.2.2.2.2⟩
def le_T_api_Action_Body : Lens T_api_Action (List T_api_Prim) where
  off := 3
  get := T_api_Action.f_Body
  set b g := { b with f_Body := g }
  inb := by decide
  get_rep h := h.2.2.2.2.1
  set_rep h hg := by
    have hl := h.1
    have hd := Rp.len hg
    exact ⟨sp_len hl hd (by decide), by rw [sp_other hl hd (by decide) (.inl (by decide))]; exact h.2.1, by rw [sp_other hl hd (by decide) (.inl (by decide))]; exact h.2.2.1, by rw [sp_other hl hd (by decide) (.inl (by decide))]; exact h.2.2.2.1, by rw [sp_same hl hd (by decide)]; exact hg, by rw [sp_other hl hd (by decide) (.inr (by decide))]; exact h.2.2.2.2.2⟩
def le_T_api_Action_Restriction : Lens T_api_Action ByteArray where
  off := 4
  get := T_api_Action.f_Restriction
  set b g := { b with f_Restriction := g }
  inb := by decide
  get_rep h := h.2.2.2.2.2
  set_rep h hg := by
    have hl := h.1
    have hd := Rp.len hg
    exact ⟨sp_len hl hd (by decide), by rw [sp_other hl hd (by decide) (.inl (by decide))]; exact h.2.1, by rw [sp_other hl hd (by decide) (.inl (by decide))]; exact h.2.2.1, by rw [sp_other hl hd (by decide) (.inl (by decide))]; exact h.2.2.2.1, by rw [sp_other hl hd (by decide) (.inl (by decide))]; exact h.2.2.2.2.1, by rw [sp_same hl hd (by decide)]; exact hg⟩
instance : Zc T_api_Action := ⟨Zc.cells Int ++ Zc.cells ByteArray ++ Zc.cells (List T_api_Param) ++ Zc.cells (List T_api_Prim) ++ Zc.cells ByteArray, fun A W => ⟨by rfl, Zc.ok (α := Int) A W, Zc.ok (α := ByteArray) A W, Zc.ok (α := List T_api_Param) A W, Zc.ok (α := List T_api_Prim) A W, Zc.ok (α := ByteArray) A W⟩⟩
structure T_api_Key where
  f_Name : ByteArray
  f_Field : Int
  f_Kind : Int
  deriving DecidableEq, Inhabited
instance : Rp T_api_Key where
  size := 3
  agg := true
  rep A W cs x := cs.length = 3 ∧ Rp.rep A W ((cs.drop 0).take (Rp.size ByteArray)) x.f_Name ∧ Rp.rep A W ((cs.drop 1).take (Rp.size Int)) x.f_Field ∧ Rp.rep A W ((cs.drop 2).take (Rp.size Int)) x.f_Kind
  len h := h.1
  one h := by
    intro u hu
    have h0 := mem_cut (o := 0) (s := Rp.size ByteArray) (by simpa using hu)
    rcases h0 with h1 | h0
    · exact Rp.one h.2.1 u h1
    have h0 := mem_cut (s := Rp.size Int) h0
    rcases h0 with h1 | h0
    · exact Rp.one h.2.2.1 u h1
    have h0 := mem_cut (s := Rp.size Int) h0
    rcases h0 with h1 | h0
    · exact Rp.one h.2.2.2 u h1
    exact mem_end h.1 (by rfl) h0
  flat h := by cases h
  mono e h := ⟨h.1, Rp.mono e h.2.1, Rp.mono e h.2.2.1, Rp.mono e h.2.2.2⟩
def le_T_api_Key_Name : Lens T_api_Key ByteArray where
  off := 0
  get := T_api_Key.f_Name
  set b g := { b with f_Name := g }
  inb := by decide
  get_rep h := h.2.1
  set_rep h hg := by
    have hl := h.1
    have hd := Rp.len hg
    exact ⟨sp_len hl hd (by decide), by rw [sp_same hl hd (by decide)]; exact hg, by rw [sp_other hl hd (by decide) (.inr (by decide))]; exact h.2.2.1, by rw [sp_other hl hd (by decide) (.inr (by decide))]; exact h.2.2.2⟩
def le_T_api_Key_Field : Lens T_api_Key Int where
  off := 1
  get := T_api_Key.f_Field
  set b g := { b with f_Field := g }
  inb := by decide
  get_rep h := h.2.2.1
  set_rep h hg := by
    have hl := h.1
    have hd := Rp.len hg
    exact ⟨sp_len hl hd (by decide), by rw [sp_other hl hd (by decide) (.inl (by decide))]; exact h.2.1, by rw [sp_same hl hd (by decide)]; exact hg, by rw [sp_other hl hd (by decide) (.inr (by decide))]; exact h.2.2.2⟩
def le_T_api_Key_Kind : Lens T_api_Key Int where
  off := 2
  get := T_api_Key.f_Kind
  set b g := { b with f_Kind := g }
  inb := by decide
  get_rep h := h.2.2.2
  set_rep h hg := by
    have hl := h.1
    have hd := Rp.len hg
    exact ⟨sp_len hl hd (by decide), by rw [sp_other hl hd (by decide) (.inl (by decide))]; exact h.2.1, by rw [sp_other hl hd (by decide) (.inl (by decide))]; exact h.2.2.1, by rw [sp_same hl hd (by decide)]; exact hg⟩
instance : Zc T_api_Key := ⟨Zc.cells ByteArray ++ Zc.cells Int ++ Zc.cells Int, fun A W => ⟨by rfl, Zc.ok (α := ByteArray) A W, Zc.ok (α := Int) A W, Zc.ok (α := Int) A W⟩⟩
structure T_api_Table where
  f_ID : Int
  f_Name : ByteArray
  f_Keys : List T_api_Key
  f_Actions : List Int
  f_Default : Int
  f_DefaultArgs : List T_api_Value
  f_Size : Int
  f_Restriction : ByteArray
  deriving DecidableEq, Inhabited
instance : Rp T_api_Table where
  size := 8
  agg := true
  rep A W cs x := cs.length = 8 ∧ Rp.rep A W ((cs.drop 0).take (Rp.size Int)) x.f_ID ∧ Rp.rep A W ((cs.drop 1).take (Rp.size ByteArray)) x.f_Name ∧ Rp.rep A W ((cs.drop 2).take (Rp.size (List T_api_Key))) x.f_Keys ∧ Rp.rep A W ((cs.drop 3).take (Rp.size (List Int))) x.f_Actions ∧ Rp.rep A W ((cs.drop 4).take (Rp.size Int)) x.f_Default ∧ Rp.rep A W ((cs.drop 5).take (Rp.size (List T_api_Value))) x.f_DefaultArgs ∧ Rp.rep A W ((cs.drop 6).take (Rp.size Int)) x.f_Size ∧ Rp.rep A W ((cs.drop 7).take (Rp.size ByteArray)) x.f_Restriction
  len h := h.1
  one h := by
    intro u hu
    have h0 := mem_cut (o := 0) (s := Rp.size Int) (by simpa using hu)
    rcases h0 with h1 | h0
    · exact Rp.one h.2.1 u h1
    have h0 := mem_cut (s := Rp.size ByteArray) h0
    rcases h0 with h1 | h0
    · exact Rp.one h.2.2.1 u h1
    have h0 := mem_cut (s := Rp.size (List T_api_Key)) h0
    rcases h0 with h1 | h0
    · exact Rp.one h.2.2.2.1 u h1
    have h0 := mem_cut (s := Rp.size (List Int)) h0
    rcases h0 with h1 | h0
    · exact Rp.one h.2.2.2.2.1 u h1
    have h0 := mem_cut (s := Rp.size Int) h0
    rcases h0 with h1 | h0
    · exact Rp.one h.2.2.2.2.2.1 u h1
    have h0 := mem_cut (s := Rp.size (List T_api_Value)) h0
    rcases h0 with h1 | h0
    · exact Rp.one h.2.2.2.2.2.2.1 u h1
    have h0 := mem_cut (s := Rp.size Int) h0
    rcases h0 with h1 | h0
    · exact Rp.one h.2.2.2.2.2.2.2.1 u h1
    have h0 := mem_cut (s := Rp.size ByteArray) h0
    rcases h0 with h1 | h0
    · exact Rp.one h.2.2.2.2.2.2.2.2 u h1
    exact mem_end h.1 (by rfl) h0
  flat h := by cases h
  mono e h := ⟨h.1, Rp.mono e h.2.1, Rp.mono e h.2.2.1, Rp.mono e h.2.2.2.1, Rp.mono e h.2.2.2.2.1, Rp.mono e h.2.2.2.2.2.1, Rp.mono e h.2.2.2.2.2.2.1, Rp.mono e h.2.2.2.2.2.2.2.1, Rp.mono e h.2.2.2.2.2.2.2.2⟩
def le_T_api_Table_ID : Lens T_api_Table Int where
  off := 0
  get := T_api_Table.f_ID
  set b g := { b with f_ID := g }
  inb := by decide
  get_rep h := h.2.1
  set_rep h hg := by
    have hl := h.1
    have hd := Rp.len hg
    exact ⟨sp_len hl hd (by decide), by rw [sp_same hl hd (by decide)]; exact hg, by rw [sp_other hl hd (by decide) (.inr (by decide))]; exact h.2.2.1, by rw [sp_other hl hd (by decide) (.inr (by decide))]; exact h.2.2.2.1, by rw [sp_other hl hd (by decide) (.inr (by decide))]; exact h.2.2.2.2.1, by rw [sp_other hl hd (by decide) (.inr (by decide))]; exact h.2.2.2.2.2.1, by rw [sp_other hl hd (by decide) (.inr (by decide))]; exact h.2.2.2.2.2.2.1, by rw [sp_other hl hd (by decide) (.inr (by decide))]; exact h.2.2.2.2.2.2.2.1, by rw [sp_other hl hd (by decide) (.inr (by decide))]; exact h.2.2.2.2.2.2.2.2⟩
def le_T_api_Table_Name : Lens T_api_Table ByteArray where
  off := 1
  get := T_api_Table.f_Name
  set b g := { b with f_Name := g }
  inb := by decide
  get_rep h := h.2.2.1
  set_rep h hg := by
    have hl := h.1
    have hd := Rp.len hg
    exact ⟨sp_len hl hd (by decide), by rw [sp_other hl hd (by decide) (.inl (by decide))]; exact h.2.1, by rw [sp_same hl hd (by decide)]; exact hg, by rw [sp_other hl hd (by decide) (.inr (by decide))]; exact h.2.2.2.1, by rw [sp_other hl hd (by decide) (.inr (by decide))]; exact h.2.2.2.2.1, by rw [sp_other hl hd (by decide) (.inr (by decide))]; exact h.2.2.2.2.2.1, by rw [sp_other hl hd (by decide) (.inr (by decide))]; exact h.2.2.2.2.2.2.1, by rw [sp_other hl hd (by decide) (.inr (by decide))]; exact h.2.2.2.2.2.2.2.1, by rw [sp_other hl hd (by decide) (.inr (by decide))]; exact h.2.2.2.2.2.2.2.2⟩
def le_T_api_Table_Keys : Lens T_api_Table (List T_api_Key) where
  off := 2
  get := T_api_Table.f_Keys
  set b g := { b with f_Keys := g }
  inb := by decide
  get_rep h := h.2.2.2.1
  set_rep h hg := by
    have hl := h.1
    have hd := Rp.len hg
    exact ⟨sp_len hl hd (by decide), by rw [sp_other hl hd (by decide) (.inl (by decide))]; exact h.2.1, by rw [sp_other hl hd (by decide) (.inl (by decide))]; exact h.2.2.1, by rw [sp_same hl hd (by decide)]; exact hg, by rw [sp_other hl hd (by decide) (.inr (by decide))]; exact h.2.2.2.2.1, by rw [sp_other hl hd (by decide) (.inr (by decide))]; exact h.2.2.2.2.2.1, by rw [sp_other hl hd (by decide) (.inr (by decide))]; exact h.2.2.2.2.2.2.1, by rw [sp_other hl hd (by decide) (.inr (by decide))]; exact h.2.2.2.2.2.2.2.1, by rw [sp_other hl hd (by decide) (.inr (by decide))]; exact h.2.2.2.2.2.2.2.2⟩
def le_T_api_Table_Actions : Lens T_api_Table (List Int) where
  off := 3
  get := T_api_Table.f_Actions
  set b g := { b with f_Actions := g }
  inb := by decide
  get_rep h := h.2.2.2.2.1
  set_rep h hg := by
    have hl := h.1
    have hd := Rp.len hg
    exact ⟨sp_len hl hd (by decide), by rw [sp_other hl hd (by decide) (.inl (by decide))]; exact h.2.1, by rw [sp_other hl hd (by decide) (.inl (by decide))]; exact h.2.2.1, by rw [sp_other hl hd (by decide) (.inl (by decide))]; exact h.2.2.2.1, by rw [sp_same hl hd (by decide)]; exact hg, by rw [sp_other hl hd (by decide) (.inr (by decide))]; exact h.2.2.2.2.2.1, by rw [sp_other hl hd (by decide) (.inr (by decide))]; exact h.2.2.2.2.2.2.1, by rw [sp_other hl hd (by decide) (.inr (by decide))]; exact h.2.2.2.2.2.2.2.1, by rw [sp_other hl hd (by decide) (.inr (by decide))]; exact h.2.2.2.2.2.2.2.2⟩
def le_T_api_Table_Default : Lens T_api_Table Int where
  off := 4
  get := T_api_Table.f_Default
  set b g := { b with f_Default := g }
  inb := by decide
  get_rep h := h.2.2.2.2.2.1
  set_rep h hg := by
    have hl := h.1
    have hd := Rp.len hg
    exact ⟨sp_len hl hd (by decide), by rw [sp_other hl hd (by decide) (.inl (by decide))]; exact h.2.1, by rw [sp_other hl hd (by decide) (.inl (by decide))]; exact h.2.2.1, by rw [sp_other hl hd (by decide) (.inl (by decide))]; exact h.2.2.2.1, by rw [sp_other hl hd (by decide) (.inl (by decide))]; exact h.2.2.2.2.1, by rw [sp_same hl hd (by decide)]; exact hg, by rw [sp_other hl hd (by decide) (.inr (by decide))]; exact h.2.2.2.2.2.2.1, by rw [sp_other hl hd (by decide) (.inr (by decide))]; exact h.2.2.2.2.2.2.2.1, by rw [sp_other hl hd (by decide) (.inr (by decide))]; exact h.2.2.2.2.2.2.2.2⟩
def le_T_api_Table_DefaultArgs : Lens T_api_Table (List T_api_Value) where
  off := 5
  get := T_api_Table.f_DefaultArgs
  set b g := { b with f_DefaultArgs := g }
  inb := by decide
  get_rep h := h.2.2.2.2.2.2.1
  set_rep h hg := by
    have hl := h.1
    have hd := Rp.len hg
    exact ⟨sp_len hl hd (by decide), by rw [sp_other hl hd (by decide) (.inl (by decide))]; exact h.2.1, by rw [sp_other hl hd (by decide) (.inl (by decide))]; exact h.2.2.1, by rw [sp_other hl hd (by decide) (.inl (by decide))]; exact h.2.2.2.1, by rw [sp_other hl hd (by decide) (.inl (by decide))]; exact h.2.2.2.2.1, by rw [sp_other hl hd (by decide) (.inl (by decide))]; exact h.2.2.2.2.2.1, by rw [sp_same hl hd (by decide)]; exact hg, by rw [sp_other hl hd (by decide) (.inr (by decide))]; exact h.2.2.2.2.2.2.2.1, by rw [sp_other hl hd (by decide) (.inr (by decide))]; exact h.2.2.2.2.2.2.2.2⟩
def le_T_api_Table_Size : Lens T_api_Table Int where
  off := 6
  get := T_api_Table.f_Size
  set b g := { b with f_Size := g }
  inb := by decide
  get_rep h := h.2.2.2.2.2.2.2.1
  set_rep h hg := by
    have hl := h.1
    have hd := Rp.len hg
    exact ⟨sp_len hl hd (by decide), by rw [sp_other hl hd (by decide) (.inl (by decide))]; exact h.2.1, by rw [sp_other hl hd (by decide) (.inl (by decide))]; exact h.2.2.1, by rw [sp_other hl hd (by decide) (.inl (by decide))]; exact h.2.2.2.1, by rw [sp_other hl hd (by decide) (.inl (by decide))]; exact h.2.2.2.2.1, by rw [sp_other hl hd (by decide) (.inl (by decide))]; exact h.2.2.2.2.2.1, by rw [sp_other hl hd (by decide) (.inl (by decide))]; exact h.2.2.2.2.2.2.1, by rw [sp_same hl hd (by decide)]; exact hg, by rw [sp_other hl hd (by decide) (.inr (by decide))]; exact h.2.2.2.2.2.2.2.2⟩
def le_T_api_Table_Restriction : Lens T_api_Table ByteArray where
  off := 7
  get := T_api_Table.f_Restriction
  set b g := { b with f_Restriction := g }
  inb := by decide
  get_rep h := h.2.2.2.2.2.2.2.2
  set_rep h hg := by
    have hl := h.1
    have hd := Rp.len hg
    exact ⟨sp_len hl hd (by decide), by rw [sp_other hl hd (by decide) (.inl (by decide))]; exact h.2.1, by rw [sp_other hl hd (by decide) (.inl (by decide))]; exact h.2.2.1, by rw [sp_other hl hd (by decide) (.inl (by decide))]; exact h.2.2.2.1, by rw [sp_other hl hd (by decide) (.inl (by decide))]; exact h.2.2.2.2.1, by rw [sp_other hl hd (by decide) (.inl (by decide))]; exact h.2.2.2.2.2.1, by rw [sp_other hl hd (by decide) (.inl (by decide))]; exact h.2.2.2.2.2.2.1, by rw [sp_other hl hd (by decide) (.inl (by decide))]; exact h.2.2.2.2.2.2.2.1, by rw [sp_same hl hd (by decide)]; exact hg⟩
instance : Zc T_api_Table := ⟨Zc.cells Int ++ Zc.cells ByteArray ++ Zc.cells (List T_api_Key) ++ Zc.cells (List Int) ++ Zc.cells Int ++ Zc.cells (List T_api_Value) ++ Zc.cells Int ++ Zc.cells ByteArray, fun A W => ⟨by rfl, Zc.ok (α := Int) A W, Zc.ok (α := ByteArray) A W, Zc.ok (α := List T_api_Key) A W, Zc.ok (α := List Int) A W, Zc.ok (α := Int) A W, Zc.ok (α := List T_api_Value) A W, Zc.ok (α := Int) A W, Zc.ok (α := ByteArray) A W⟩⟩
structure T_api_Stage where
  f_Table : Int
  f_Header : Int
  deriving DecidableEq, Inhabited
instance : Rp T_api_Stage where
  size := 2
  agg := true
  rep A W cs x := cs.length = 2 ∧ Rp.rep A W ((cs.drop 0).take (Rp.size Int)) x.f_Table ∧ Rp.rep A W ((cs.drop 1).take (Rp.size Int)) x.f_Header
  len h := h.1
  one h := by
    intro u hu
    have h0 := mem_cut (o := 0) (s := Rp.size Int) (by simpa using hu)
    rcases h0 with h1 | h0
    · exact Rp.one h.2.1 u h1
    have h0 := mem_cut (s := Rp.size Int) h0
    rcases h0 with h1 | h0
    · exact Rp.one h.2.2 u h1
    exact mem_end h.1 (by rfl) h0
  flat h := by cases h
  mono e h := ⟨h.1, Rp.mono e h.2.1, Rp.mono e h.2.2⟩
def le_T_api_Stage_Table : Lens T_api_Stage Int where
  off := 0
  get := T_api_Stage.f_Table
  set b g := { b with f_Table := g }
  inb := by decide
  get_rep h := h.2.1
  set_rep h hg := by
    have hl := h.1
    have hd := Rp.len hg
    exact ⟨sp_len hl hd (by decide), by rw [sp_same hl hd (by decide)]; exact hg, by rw [sp_other hl hd (by decide) (.inr (by decide))]; exact h.2.2⟩
def le_T_api_Stage_Header : Lens T_api_Stage Int where
  off := 1
  get := T_api_Stage.f_Header
  set b g := { b with f_Header := g }
  inb := by decide
  get_rep h := h.2.2
  set_rep h hg := by
    have hl := h.1
    have hd := Rp.len hg
    exact ⟨sp_len hl hd (by decide), by rw [sp_other hl hd (by decide) (.inl (by decide))]; exact h.2.1, by rw [sp_same hl hd (by decide)]; exact hg⟩
instance : Zc T_api_Stage := ⟨Zc.cells Int ++ Zc.cells Int, fun A W => ⟨by rfl, Zc.ok (α := Int) A W, Zc.ok (α := Int) A W⟩⟩
structure T_api_Grant where
  f_Table : Int
  f_Read : Bool
  f_Write : Bool
  f_Keys : List Bool
  deriving DecidableEq, Inhabited
instance : Rp T_api_Grant where
  size := 4
  agg := true
  rep A W cs x := cs.length = 4 ∧ Rp.rep A W ((cs.drop 0).take (Rp.size Int)) x.f_Table ∧ Rp.rep A W ((cs.drop 1).take (Rp.size Bool)) x.f_Read ∧ Rp.rep A W ((cs.drop 2).take (Rp.size Bool)) x.f_Write ∧ Rp.rep A W ((cs.drop 3).take (Rp.size (List Bool))) x.f_Keys
  len h := h.1
  one h := by
    intro u hu
    have h0 := mem_cut (o := 0) (s := Rp.size Int) (by simpa using hu)
    rcases h0 with h1 | h0
    · exact Rp.one h.2.1 u h1
    have h0 := mem_cut (s := Rp.size Bool) h0
    rcases h0 with h1 | h0
    · exact Rp.one h.2.2.1 u h1
    have h0 := mem_cut (s := Rp.size Bool) h0
    rcases h0 with h1 | h0
    · exact Rp.one h.2.2.2.1 u h1
    have h0 := mem_cut (s := Rp.size (List Bool)) h0
    rcases h0 with h1 | h0
    · exact Rp.one h.2.2.2.2 u h1
    exact mem_end h.1 (by rfl) h0
  flat h := by cases h
  mono e h := ⟨h.1, Rp.mono e h.2.1, Rp.mono e h.2.2.1, Rp.mono e h.2.2.2.1, Rp.mono e h.2.2.2.2⟩
def le_T_api_Grant_Table : Lens T_api_Grant Int where
  off := 0
  get := T_api_Grant.f_Table
  set b g := { b with f_Table := g }
  inb := by decide
  get_rep h := h.2.1
  set_rep h hg := by
    have hl := h.1
    have hd := Rp.len hg
    exact ⟨sp_len hl hd (by decide), by rw [sp_same hl hd (by decide)]; exact hg, by rw [sp_other hl hd (by decide) (.inr (by decide))]; exact h.2.2.1, by rw [sp_other hl hd (by decide) (.inr (by decide))]; exact h.2.2.2.1, by rw [sp_other hl hd (by decide) (.inr (by decide))]; exact h.2.2.2.2⟩
def le_T_api_Grant_Read : Lens T_api_Grant Bool where
  off := 1
  get := T_api_Grant.f_Read
  set b g := { b with f_Read := g }
  inb := by decide
  get_rep h := h.2.2.1
  set_rep h hg := by
    have hl := h.1
    have hd := Rp.len hg
    exact ⟨sp_len hl hd (by decide), by rw [sp_other hl hd (by decide) (.inl (by decide))]; exact h.2.1, by rw [sp_same hl hd (by decide)]; exact hg, by rw [sp_other hl hd (by decide) (.inr (by decide))]; exact h.2.2.2.1, by rw [sp_other hl hd (by decide) (.inr (by decide))]; exact h.2.2.2.2⟩
def le_T_api_Grant_Write : Lens T_api_Grant Bool where
  off := 2
  get := T_api_Grant.f_Write
  set b g := { b with f_Write := g }
  inb := by decide
  get_rep h := h.2.2.2.1
  set_rep h hg := by
    have hl := h.1
    have hd := Rp.len hg
    exact ⟨sp_len hl hd (by decide), by rw [sp_other hl hd (by decide) (.inl (by decide))]; exact h.2.1, by rw [sp_other hl hd (by decide) (.inl (by decide))]; exact h.2.2.1, by rw [sp_same hl hd (by decide)]; exact hg, by rw [sp_other hl hd (by decide) (.inr (by decide))]; exact h.2.2.2.2⟩
def le_T_api_Grant_Keys : Lens T_api_Grant (List Bool) where
  off := 3
  get := T_api_Grant.f_Keys
  set b g := { b with f_Keys := g }
  inb := by decide
  get_rep h := h.2.2.2.2
  set_rep h hg := by
    have hl := h.1
    have hd := Rp.len hg
    exact ⟨sp_len hl hd (by decide), by rw [sp_other hl hd (by decide) (.inl (by decide))]; exact h.2.1, by rw [sp_other hl hd (by decide) (.inl (by decide))]; exact h.2.2.1, by rw [sp_other hl hd (by decide) (.inl (by decide))]; exact h.2.2.2.1, by rw [sp_same hl hd (by decide)]; exact hg⟩
instance : Zc T_api_Grant := ⟨Zc.cells Int ++ Zc.cells Bool ++ Zc.cells Bool ++ Zc.cells (List Bool), fun A W => ⟨by rfl, Zc.ok (α := Int) A W, Zc.ok (α := Bool) A W, Zc.ok (α := Bool) A W, Zc.ok (α := List Bool) A W⟩⟩
structure T_api_Role where
  f_ID : Int
  f_Name : ByteArray
  f_Grants : List T_api_Grant
  f_Actions : List Int
  f_Quota : Int
  f_Audit : Bool
  deriving DecidableEq, Inhabited
instance : Rp T_api_Role where
  size := 6
  agg := true
  rep A W cs x := cs.length = 6 ∧ Rp.rep A W ((cs.drop 0).take (Rp.size Int)) x.f_ID ∧ Rp.rep A W ((cs.drop 1).take (Rp.size ByteArray)) x.f_Name ∧ Rp.rep A W ((cs.drop 2).take (Rp.size (List T_api_Grant))) x.f_Grants ∧ Rp.rep A W ((cs.drop 3).take (Rp.size (List Int))) x.f_Actions ∧ Rp.rep A W ((cs.drop 4).take (Rp.size Int)) x.f_Quota ∧ Rp.rep A W ((cs.drop 5).take (Rp.size Bool)) x.f_Audit
  len h := h.1
  one h := by
    intro u hu
    have h0 := mem_cut (o := 0) (s := Rp.size Int) (by simpa using hu)
    rcases h0 with h1 | h0
    · exact Rp.one h.2.1 u h1
    have h0 := mem_cut (s := Rp.size ByteArray) h0
    rcases h0 with h1 | h0
    · exact Rp.one h.2.2.1 u h1
    have h0 := mem_cut (s := Rp.size (List T_api_Grant)) h0
    rcases h0 with h1 | h0
    · exact Rp.one h.2.2.2.1 u h1
    have h0 := mem_cut (s := Rp.size (List Int)) h0
    rcases h0 with h1 | h0
    · exact Rp.one h.2.2.2.2.1 u h1
    have h0 := mem_cut (s := Rp.size Int) h0
    rcases h0 with h1 | h0
    · exact Rp.one h.2.2.2.2.2.1 u h1
    have h0 := mem_cut (s := Rp.size Bool) h0
    rcases h0 with h1 | h0
    · exact Rp.one h.2.2.2.2.2.2 u h1
    exact mem_end h.1 (by rfl) h0
  flat h := by cases h
  mono e h := ⟨h.1, Rp.mono e h.2.1, Rp.mono e h.2.2.1, Rp.mono e h.2.2.2.1, Rp.mono e h.2.2.2.2.1, Rp.mono e h.2.2.2.2.2.1, Rp.mono e h.2.2.2.2.2.2⟩
def le_T_api_Role_ID : Lens T_api_Role Int where
  off := 0
  get := T_api_Role.f_ID
  set b g := { b with f_ID := g }
  inb := by decide
  get_rep h := h.2.1
  set_rep h hg := by
    have hl := h.1
    have hd := Rp.len hg
    exact ⟨sp_len hl hd (by decide), by rw [sp_same hl hd (by decide)]; exact hg, by rw [sp_other hl hd (by decide) (.inr (by decide))]; exact h.2.2.1, by rw [sp_other hl hd (by decide) (.inr (by decide))]; exact h.2.2.2.1, by rw [sp_other hl hd (by decide) (.inr (by decide))]; exact h.2.2.2.2.1, by rw [sp_other hl hd (by decide) (.inr (by decide))]; exact h.2.2.2.2.2.1, by rw [sp_other hl hd (by decide) (.inr (by decide))]; exact h.2.2.2.2.2.2⟩
def le_T_api_Role_Name : Lens T_api_Role ByteArray where
  off := 1
  get := T_api_Role.f_Name
  set b g := { b with f_Name := g }
  inb := by decide
  get_rep h := h.2.2.1
  set_rep h hg := by
    have hl := h.1
    have hd := Rp.len hg
    exact ⟨sp_len hl hd (by decide), by rw [sp_other hl hd (by decide) (.inl (by decide))]; exact h.2.1, by rw [sp_same hl hd (by decide)]; exact hg, by rw [sp_other hl hd (by decide) (.inr (by decide))]; exact h.2.2.2.1, by rw [sp_other hl hd (by decide) (.inr (by decide))]; exact h.2.2.2.2.1, by rw [sp_other hl hd (by decide) (.inr (by decide))]; exact h.2.2.2.2.2.1, by rw [sp_other hl hd (by decide) (.inr (by decide))]; exact h.2.2.2.2.2.2⟩
def le_T_api_Role_Grants : Lens T_api_Role (List T_api_Grant) where
  off := 2
  get := T_api_Role.f_Grants
  set b g := { b with f_Grants := g }
  inb := by decide
  get_rep h := h.2.2.2.1
  set_rep h hg := by
    have hl := h.1
    have hd := Rp.len hg
    exact ⟨sp_len hl hd (by decide), by rw [sp_other hl hd (by decide) (.inl (by decide))]; exact h.2.1, by rw [sp_other hl hd (by decide) (.inl (by decide))]; exact h.2.2.1, by rw [sp_same hl hd (by decide)]; exact hg, by rw [sp_other hl hd (by decide) (.inr (by decide))]; exact h.2.2.2.2.1, by rw [sp_other hl hd (by decide) (.inr (by decide))]; exact h.2.2.2.2.2.1, by rw [sp_other hl hd (by decide) (.inr (by decide))]; exact h.2.2.2.2.2.2⟩
def le_T_api_Role_Actions : Lens T_api_Role (List Int) where
  off := 3
  get := T_api_Role.f_Actions
  set b g := { b with f_Actions := g }
  inb := by decide
  get_rep h := h.2.2.2.2.1
  set_rep h hg := by
    have hl := h.1
    have hd := Rp.len hg
    exact ⟨sp_len hl hd (by decide), by rw [sp_other hl hd (by decide) (.inl (by decide))]; exact h.2.1, by rw [sp_other hl hd (by decide) (.inl (by decide))]; exact h.2.2.1, by rw [sp_other hl hd (by decide) (.inl (by decide))]; exact h.2.2.2.1, by rw [sp_same hl hd (by decide)]; exact hg, by rw [sp_other hl hd (by decide) (.inr (by decide))]; exact h.2.2.2.2.2.1, by rw [sp_other hl hd (by decide) (.inr (by decide))]; exact h.2.2.2.2.2.2⟩
def le_T_api_Role_Quota : Lens T_api_Role Int where
  off := 4
  get := T_api_Role.f_Quota
  set b g := { b with f_Quota := g }
  inb := by decide
  get_rep h := h.2.2.2.2.2.1
  set_rep h hg := by
    have hl := h.1
    have hd := Rp.len hg
    exact ⟨sp_len hl hd (by decide), by rw [sp_other hl hd (by decide) (.inl (by decide))]; exact h.2.1, by rw [sp_other hl hd (by decide) (.inl (by decide))]; exact h.2.2.1, by rw [sp_other hl hd (by decide) (.inl (by decide))]; exact h.2.2.2.1, by rw [sp_other hl hd (by decide) (.inl (by decide))]; exact h.2.2.2.2.1, by rw [sp_same hl hd (by decide)]; exact hg, by rw [sp_other hl hd (by decide) (.inr (by decide))]; exact h.2.2.2.2.2.2⟩
def le_T_api_Role_Audit : Lens T_api_Role Bool where
  off := 5
  get := T_api_Role.f_Audit
  set b g := { b with f_Audit := g }
  inb := by decide
  get_rep h := h.2.2.2.2.2.2
  set_rep h hg := by
    have hl := h.1
    have hd := Rp.len hg
    exact ⟨sp_len hl hd (by decide), by rw [sp_other hl hd (by decide) (.inl (by decide))]; exact h.2.1, by rw [sp_other hl hd (by decide) (.inl (by decide))]; exact h.2.2.1, by rw [sp_other hl hd (by decide) (.inl (by decide))]; exact h.2.2.2.1, by rw [sp_other hl hd (by decide) (.inl (by decide))]; exact h.2.2.2.2.1, by rw [sp_other hl hd (by decide) (.inl (by decide))]; exact h.2.2.2.2.2.1, by rw [sp_same hl hd (by decide)]; exact hg⟩
instance : Zc T_api_Role := ⟨Zc.cells Int ++ Zc.cells ByteArray ++ Zc.cells (List T_api_Grant) ++ Zc.cells (List Int) ++ Zc.cells Int ++ Zc.cells Bool, fun A W => ⟨by rfl, Zc.ok (α := Int) A W, Zc.ok (α := ByteArray) A W, Zc.ok (α := List T_api_Grant) A W, Zc.ok (α := List Int) A W, Zc.ok (α := Int) A W, Zc.ok (α := Bool) A W⟩⟩
structure T_api_Ref where
  f_Table : Int
  f_Key : Int
  f_Action : Int
  f_Param : Int
  f_ToTable : Int
  f_ToKey : Int
  deriving DecidableEq, Inhabited
instance : Rp T_api_Ref where
  size := 6
  agg := true
  rep A W cs x := cs.length = 6 ∧ Rp.rep A W ((cs.drop 0).take (Rp.size Int)) x.f_Table ∧ Rp.rep A W ((cs.drop 1).take (Rp.size Int)) x.f_Key ∧ Rp.rep A W ((cs.drop 2).take (Rp.size Int)) x.f_Action ∧ Rp.rep A W ((cs.drop 3).take (Rp.size Int)) x.f_Param ∧ Rp.rep A W ((cs.drop 4).take (Rp.size Int)) x.f_ToTable ∧ Rp.rep A W ((cs.drop 5).take (Rp.size Int)) x.f_ToKey
  len h := h.1
  one h := by
    intro u hu
    have h0 := mem_cut (o := 0) (s := Rp.size Int) (by simpa using hu)
    rcases h0 with h1 | h0
    · exact Rp.one h.2.1 u h1
    have h0 := mem_cut (s := Rp.size Int) h0
    rcases h0 with h1 | h0
    · exact Rp.one h.2.2.1 u h1
    have h0 := mem_cut (s := Rp.size Int) h0
    rcases h0 with h1 | h0
    · exact Rp.one h.2.2.2.1 u h1
    have h0 := mem_cut (s := Rp.size Int) h0
    rcases h0 with h1 | h0
    · exact Rp.one h.2.2.2.2.1 u h1
    have h0 := mem_cut (s := Rp.size Int) h0
    rcases h0 with h1 | h0
    · exact Rp.one h.2.2.2.2.2.1 u h1
    have h0 := mem_cut (s := Rp.size Int) h0
    rcases h0 with h1 | h0
    · exact Rp.one h.2.2.2.2.2.2 u h1
    exact mem_end h.1 (by rfl) h0
  flat h := by cases h
  mono e h := ⟨h.1, Rp.mono e h.2.1, Rp.mono e h.2.2.1, Rp.mono e h.2.2.2.1, Rp.mono e h.2.2.2.2.1, Rp.mono e h.2.2.2.2.2.1, Rp.mono e h.2.2.2.2.2.2⟩
def le_T_api_Ref_Table : Lens T_api_Ref Int where
  off := 0
  get := T_api_Ref.f_Table
  set b g := { b with f_Table := g }
  inb := by decide
  get_rep h := h.2.1
  set_rep h hg := by
    have hl := h.1
    have hd := Rp.len hg
    exact ⟨sp_len hl hd (by decide), by rw [sp_same hl hd (by decide)]; exact hg, by rw [sp_other hl hd (by decide) (.inr (by decide))]; exact h.2.2.1, by rw [sp_other hl hd (by decide) (.inr (by decide))]; exact h.2.2.2.1, by rw [sp_other hl hd (by decide) (.inr (by decide))]; exact h.2.2.2.2.1, by rw [sp_other hl hd (by decide) (.inr (by decide))]; exact h.2.2.2.2.2.1, by rw [sp_other hl hd (by decide) (.inr (by decide))]; exact h.2.2.2.2.2.2⟩
def le_T_api_Ref_Key : Lens T_api_Ref Int where
  off := 1
  get := T_api_Ref.f_Key
  set b g := { b with f_Key := g }
  inb := by decide
  get_rep h := h.2.2.1
  set_rep h hg := by
    have hl := h.1
    have hd := Rp.len hg
    exact ⟨sp_len hl hd (by decide), by rw [sp_other hl hd (by decide) (.inl (by decide))]; exact h.2.1, by rw [sp_same hl hd (by decide)]; exact hg, by rw [sp_other hl hd (by decide) (.inr (by decide))]; exact h.2.2.2.1, by rw [sp_other hl hd (by decide) (.inr (by decide))]; exact h.2.2.2.2.1, by rw [sp_other hl hd (by decide) (.inr (by decide))]; exact h.2.2.2.2.2.1, by rw [sp_other hl hd (by decide) (.inr (by decide))]; exact h.2.2.2.2.2.2⟩
def le_T_api_Ref_Action : Lens T_api_Ref Int where
  off := 2
  get := T_api_Ref.f_Action
  set b g := { b with f_Action := g }
  inb := by decide
  get_rep h := h.2.2.2.1
  set_rep h hg := by
    have hl := h.1
    have hd := Rp.len hg
    exact ⟨sp_len hl hd (by decide), by rw [sp_other hl hd (by decide) (.inl (by decide))]; exact h.2.1, by rw [sp_other hl hd (by decide) (.inl (by decide))]; exact h.2.2.1, by rw [sp_same hl hd (by decide)]; exact hg, by rw [sp_other hl hd (by decide) (.inr (by decide))]; exact h.2.2.2.2.1, by rw [sp_other hl hd (by decide) (.inr (by decide))]; exact h.2.2.2.2.2.1, by rw [sp_other hl hd (by decide) (.inr (by decide))]; exact h.2.2.2.2.2.2⟩
def le_T_api_Ref_Param : Lens T_api_Ref Int where
  off := 3
  get := T_api_Ref.f_Param
  set b g := { b with f_Param := g }
  inb := by decide
  get_rep h := h.2.2.2.2.1
  set_rep h hg := by
    have hl := h.1
    have hd := Rp.len hg
    exact ⟨sp_len hl hd (by decide), by rw [sp_other hl hd (by decide) (.inl (by decide))]; exact h.2.1, by rw [sp_other hl hd (by decide) (.inl (by decide))]; exact h.2.2.1, by rw [sp_other hl hd (by decide) (.inl (by decide))]; exact h.2.2.2.1, by rw [sp_same hl hd (by decide)]; exact hg, by rw [sp_other hl hd (by decide) (.inr (by decide))]; exact h.2.2.2.2.2.1, by rw [sp_other hl hd (by decide) (.inr (by decide))]; exact h.2.2.2.2.2.2⟩
def le_T_api_Ref_ToTable : Lens T_api_Ref Int where
  off := 4
  get := T_api_Ref.f_ToTable
  set b g := { b with f_ToTable := g }
  inb := by decide
  get_rep h := h.2.2.2.2.2.1
  set_rep h hg := by
    have hl := h.1
    have hd := Rp.len hg
    exact ⟨sp_len hl hd (by decide), by rw [sp_other hl hd (by decide) (.inl (by decide))]; exact h.2.1, by rw [sp_other hl hd (by decide) (.inl (by decide))]; exact h.2.2.1, by rw [sp_other hl hd (by decide) (.inl (by decide))]; exact h.2.2.2.1, by rw [sp_other hl hd (by decide) (.inl (by decide))]; exact h.2.2.2.2.1, by rw [sp_same hl hd (by decide)]; exact hg, by rw [sp_other hl hd (by decide) (.inr (by decide))]; exact h.2.2.2.2.2.2⟩
def le_T_api_Ref_ToKey : Lens T_api_Ref Int where
  off := 5
  get := T_api_Ref.f_ToKey
  set b g := { b with f_ToKey := g }
  inb := by decide
  get_rep h := h.2.2.2.2.2.2
  set_rep h hg := by
    have hl := h.1
    have hd := Rp.len hg
    exact ⟨sp_len hl hd (by decide), by rw [sp_other hl hd (by decide) (.inl (by decide))]; exact h.2.1, by rw [sp_other hl hd (by decide) (.inl (by decide))]; exact h.2.2.1, by rw [sp_other hl hd (by decide) (.inl (by decide))]; exact h.2.2.2.1, by rw [sp_other hl hd (by decide) (.inl (by decide))]; exact h.2.2.2.2.1, by rw [sp_other hl hd (by decide) (.inl (by decide))]; exact h.2.2.2.2.2.1, by rw [sp_same hl hd (by decide)]; exact hg⟩
instance : Zc T_api_Ref := ⟨Zc.cells Int ++ Zc.cells Int ++ Zc.cells Int ++ Zc.cells Int ++ Zc.cells Int ++ Zc.cells Int, fun A W => ⟨by rfl, Zc.ok (α := Int) A W, Zc.ok (α := Int) A W, Zc.ok (α := Int) A W, Zc.ok (α := Int) A W, Zc.ok (α := Int) A W, Zc.ok (α := Int) A W⟩⟩
structure T_api_Schema where
  f_Fields : List T_api_Field
  f_Headers : List T_api_Header
  f_States : List T_api_State
  f_Actions : List T_api_Action
  f_Tables : List T_api_Table
  f_Stages : List T_api_Stage
  f_Roles : List T_api_Role
  f_Refs : List T_api_Ref
  f_MaxBatch : Int
  f_Budget : Int
  deriving DecidableEq, Inhabited
instance : Rp T_api_Schema where
  size := 10
  agg := true
  rep A W cs x := cs.length = 10 ∧ Rp.rep A W ((cs.drop 0).take (Rp.size (List T_api_Field))) x.f_Fields ∧ Rp.rep A W ((cs.drop 1).take (Rp.size (List T_api_Header))) x.f_Headers ∧ Rp.rep A W ((cs.drop 2).take (Rp.size (List T_api_State))) x.f_States ∧ Rp.rep A W ((cs.drop 3).take (Rp.size (List T_api_Action))) x.f_Actions ∧ Rp.rep A W ((cs.drop 4).take (Rp.size (List T_api_Table))) x.f_Tables ∧ Rp.rep A W ((cs.drop 5).take (Rp.size (List T_api_Stage))) x.f_Stages ∧ Rp.rep A W ((cs.drop 6).take (Rp.size (List T_api_Role))) x.f_Roles ∧ Rp.rep A W ((cs.drop 7).take (Rp.size (List T_api_Ref))) x.f_Refs ∧ Rp.rep A W ((cs.drop 8).take (Rp.size Int)) x.f_MaxBatch ∧ Rp.rep A W ((cs.drop 9).take (Rp.size Int)) x.f_Budget
  len h := h.1
  one h := by
    intro u hu
    have h0 := mem_cut (o := 0) (s := Rp.size (List T_api_Field)) (by simpa using hu)
    rcases h0 with h1 | h0
    · exact Rp.one h.2.1 u h1
    have h0 := mem_cut (s := Rp.size (List T_api_Header)) h0
    rcases h0 with h1 | h0
    · exact Rp.one h.2.2.1 u h1
    have h0 := mem_cut (s := Rp.size (List T_api_State)) h0
    rcases h0 with h1 | h0
    · exact Rp.one h.2.2.2.1 u h1
    have h0 := mem_cut (s := Rp.size (List T_api_Action)) h0
    rcases h0 with h1 | h0
    · exact Rp.one h.2.2.2.2.1 u h1
    have h0 := mem_cut (s := Rp.size (List T_api_Table)) h0
    rcases h0 with h1 | h0
    · exact Rp.one h.2.2.2.2.2.1 u h1
    have h0 := mem_cut (s := Rp.size (List T_api_Stage)) h0
    rcases h0 with h1 | h0
    · exact Rp.one h.2.2.2.2.2.2.1 u h1
    have h0 := mem_cut (s := Rp.size (List T_api_Role)) h0
    rcases h0 with h1 | h0
    · exact Rp.one h.2.2.2.2.2.2.2.1 u h1
    have h0 := mem_cut (s := Rp.size (List T_api_Ref)) h0
    rcases h0 with h1 | h0
    · exact Rp.one h.2.2.2.2.2.2.2.2.1 u h1
    have h0 := mem_cut (s := Rp.size Int) h0
    rcases h0 with h1 | h0
    · exact Rp.one h.2.2.2.2.2.2.2.2.2.1 u h1
    have h0 := mem_cut (s := Rp.size Int) h0
    rcases h0 with h1 | h0
    · exact Rp.one h.2.2.2.2.2.2.2.2.2.2 u h1
    exact mem_end h.1 (by rfl) h0
  flat h := by cases h
  mono e h := ⟨h.1, Rp.mono e h.2.1, Rp.mono e h.2.2.1, Rp.mono e h.2.2.2.1, Rp.mono e h.2.2.2.2.1, Rp.mono e h.2.2.2.2.2.1, Rp.mono e h.2.2.2.2.2.2.1, Rp.mono e h.2.2.2.2.2.2.2.1, Rp.mono e h.2.2.2.2.2.2.2.2.1, Rp.mono e h.2.2.2.2.2.2.2.2.2.1, Rp.mono e h.2.2.2.2.2.2.2.2.2.2⟩
def le_T_api_Schema_Fields : Lens T_api_Schema (List T_api_Field) where
  off := 0
  get := T_api_Schema.f_Fields
  set b g := { b with f_Fields := g }
  inb := by decide
  get_rep h := h.2.1
  set_rep h hg := by
    have hl := h.1
    have hd := Rp.len hg
    exact ⟨sp_len hl hd (by decide), by rw [sp_same hl hd (by decide)]; exact hg, by rw [sp_other hl hd (by decide) (.inr (by decide))]; exact h.2.2.1, by rw [sp_other hl hd (by decide) (.inr (by decide))]; exact h.2.2.2.1, by rw [sp_other hl hd (by decide) (.inr (by decide))]; exact h.2.2.2.2.1, by rw [sp_other hl hd (by decide) (.inr (by decide))]; exact h.2.2.2.2.2.1, by rw [sp_other hl hd (by decide) (.inr (by decide))]; exact h.2.2.2.2.2.2.1, by rw [sp_other hl hd (by decide) (.inr (by decide))]; exact h.2.2.2.2.2.2.2.1, by rw [sp_other hl hd (by decide) (.inr (by decide))]; exact h.2.2.2.2.2.2.2.2.1, by rw [sp_other hl hd (by decide) (.inr (by decide))]; exact h.2.2.2.2.2.2.2.2.2.1, by rw [sp_other hl hd (by decide) (.inr (by decide))]; exact h.2.2.2.2.2.2.2.2.2.2⟩
def le_T_api_Schema_Headers : Lens T_api_Schema (List T_api_Header) where
  off := 1
  get := T_api_Schema.f_Headers
  set b g := { b with f_Headers := g }
  inb := by decide
  get_rep h := h.2.2.1
  set_rep h hg := by
    have hl := h.1
    have hd := Rp.len hg
    exact ⟨sp_len hl hd (by decide), by rw [sp_other hl hd (by decide) (.inl (by decide))]; exact h.2.1, by rw [sp_same hl hd (by decide)]; exact hg, by rw [sp_other hl hd (by decide) (.inr (by decide))]; exact h.2.2.2.1, by rw [sp_other hl hd (by decide) (.inr (by decide))]; exact h.2.2.2.2.1, by rw [sp_other hl hd (by decide) (.inr (by decide))]; exact h.2.2.2.2.2.1, by rw [sp_other hl hd (by decide) (.inr (by decide))]; exact h.2.2.2.2.2.2.1, by rw [sp_other hl hd (by decide) (.inr (by decide))]; exact h.2.2.2.2.2.2.2.1, by rw [sp_other hl hd (by decide) (.inr (by decide))]; exact h.2.2.2.2.2.2.2.2.1, by rw [sp_other hl hd (by decide) (.inr (by decide))]; exact h.2.2.2.2.2.2.2.2.2.1, by rw [sp_other hl hd (by decide) (.inr (by decide))]; exact h.2.2.2.2.2.2.2.2.2.2⟩
def le_T_api_Schema_States : Lens T_api_Schema (List T_api_State) where
  off := 2
  get := T_api_Schema.f_States
  set b g := { b with f_States := g }
  inb := by decide
  get_rep h := h.2.2.2.1
  set_rep h hg := by
    have hl := h.1
    have hd := Rp.len hg
    exact ⟨sp_len hl hd (by decide), by rw [sp_other hl hd (by decide) (.inl (by decide))]; exact h.2.1, by rw [sp_other hl hd (by decide) (.inl (by decide))]; exact h.2.2.1, by rw [sp_same hl hd (by decide)]; exact hg, by rw [sp_other hl hd (by decide) (.inr (by decide))]; exact h.2.2.2.2.1, by rw [sp_other hl hd (by decide) (.inr (by decide))]; exact h.2.2.2.2.2.1, by rw [sp_other hl hd (by decide) (.inr (by decide))]; exact h.2.2.2.2.2.2.1, by rw [sp_other hl hd (by decide) (.inr (by decide))]; exact h.2.2.2.2.2.2.2.1, by rw [sp_other hl hd (by decide) (.inr (by decide))]; exact h.2.2.2.2.2.2.2.2.1, by rw [sp_other hl hd (by decide) (.inr (by decide))]; exact h.2.2.2.2.2.2.2.2.2.1, by rw [sp_other hl hd (by decide) (.inr (by decide))]; exact h.2.2.2.2.2.2.2.2.2.2⟩
def le_T_api_Schema_Actions : Lens T_api_Schema (List T_api_Action) where
  off := 3
  get := T_api_Schema.f_Actions
  set b g := { b with f_Actions := g }
  inb := by decide
  get_rep h := h.2.2.2.2.1
  set_rep h hg := by
    have hl := h.1
    have hd := Rp.len hg
    exact ⟨sp_len hl hd (by decide), by rw [sp_other hl hd (by decide) (.inl (by decide))]; exact h.2.1, by rw [sp_other hl hd (by decide) (.inl (by decide))]; exact h.2.2.1, by rw [sp_other hl hd (by decide) (.inl (by decide))]; exact h.2.2.2.1, by rw [sp_same hl hd (by decide)]; exact hg, by rw [sp_other hl hd (by decide) (.inr (by decide))]; exact h.2.2.2.2.2.1, by rw [sp_other hl hd (by decide) (.inr (by decide))]; exact h.2.2.2.2.2.2.1, by rw [sp_other hl hd (by decide) (.inr (by decide))]; exact h.2.2.2.2.2.2.2.1, by rw [sp_other hl hd (by decide) (.inr (by decide))]; exact h.2.2.2.2.2.2.2.2.1, by rw [sp_other hl hd (by decide) (.inr (by decide))]; exact h.2.2.2.2.2.2.2.2.2.1, by rw [sp_other hl hd (by decide) (.inr (by decide))]; exact h.2.2.2.2.2.2.2.2.2.2⟩
def le_T_api_Schema_Tables : Lens T_api_Schema (List T_api_Table) where
  off := 4
  get := T_api_Schema.f_Tables
  set b g := { b with f_Tables := g }
  inb := by decide
  get_rep h := h.2.2.2.2.2.1
  set_rep h hg := by
    have hl := h.1
    have hd := Rp.len hg
    exact ⟨sp_len hl hd (by decide), by rw [sp_other hl hd (by decide) (.inl (by decide))]; exact h.2.1, by rw [sp_other hl hd (by decide) (.inl (by decide))]; exact h.2.2.1, by rw [sp_other hl hd (by decide) (.inl (by decide))]; exact h.2.2.2.1, by rw [sp_other hl hd (by decide) (.inl (by decide))]; exact h.2.2.2.2.1, by rw [sp_same hl hd (by decide)]; exact hg, by rw [sp_other hl hd (by decide) (.inr (by decide))]; exact h.2.2.2.2.2.2.1, by rw [sp_other hl hd (by decide) (.inr (by decide))]; exact h.2.2.2.2.2.2.2.1, by rw [sp_other hl hd (by decide) (.inr (by decide))]; exact h.2.2.2.2.2.2.2.2.1, by rw [sp_other hl hd (by decide) (.inr (by decide))]; exact h.2.2.2.2.2.2.2.2.2.1, by rw [sp_other hl hd (by decide) (.inr (by decide))]; exact h.2.2.2.2.2.2.2.2.2.2⟩
def le_T_api_Schema_Stages : Lens T_api_Schema (List T_api_Stage) where
  off := 5
  get := T_api_Schema.f_Stages
  set b g := { b with f_Stages := g }
  inb := by decide
  get_rep h := h.2.2.2.2.2.2.1
  set_rep h hg := by
    have hl := h.1
    have hd := Rp.len hg
    exact ⟨sp_len hl hd (by decide), by rw [sp_other hl hd (by decide) (.inl (by decide))]; exact h.2.1, by rw [sp_other hl hd (by decide) (.inl (by decide))]; exact h.2.2.1, by rw [sp_other hl hd (by decide) (.inl (by decide))]; exact h.2.2.2.1, by rw [sp_other hl hd (by decide) (.inl (by decide))]; exact h.2.2.2.2.1, by rw [sp_other hl hd (by decide) (.inl (by decide))]; exact h.2.2.2.2.2.1, by rw [sp_same hl hd (by decide)]; exact hg, by rw [sp_other hl hd (by decide) (.inr (by decide))]; exact h.2.2.2.2.2.2.2.1, by rw [sp_other hl hd (by decide) (.inr (by decide))]; exact h.2.2.2.2.2.2.2.2.1, by rw [sp_other hl hd (by decide) (.inr (by decide))]; exact h.2.2.2.2.2.2.2.2.2.1, by rw [sp_other hl hd (by decide) (.inr (by decide))]; exact h.2.2.2.2.2.2.2.2.2.2⟩
def le_T_api_Schema_Roles : Lens T_api_Schema (List T_api_Role) where
  off := 6
  get := T_api_Schema.f_Roles
  set b g := { b with f_Roles := g }
  inb := by decide
  get_rep h := h.2.2.2.2.2.2.2.1
  set_rep h hg := by
    have hl := h.1
    have hd := Rp.len hg
    exact ⟨sp_len hl hd (by decide), by rw [sp_other hl hd (by decide) (.inl (by decide))]; exact h.2.1, by rw [sp_other hl hd (by decide) (.inl (by decide))]; exact h.2.2.1, by rw [sp_other hl hd (by decide) (.inl (by decide))]; exact h.2.2.2.1, by rw [sp_other hl hd (by decide) (.inl (by decide))]; exact h.2.2.2.2.1, by rw [sp_other hl hd (by decide) (.inl (by decide))]; exact h.2.2.2.2.2.1, by rw [sp_other hl hd (by decide) (.inl (by decide))]; exact h.2.2.2.2.2.2.1, by rw [sp_same hl hd (by decide)]; exact hg, by rw [sp_other hl hd (by decide) (.inr (by decide))]; exact h.2.2.2.2.2.2.2.2.1, by rw [sp_other hl hd (by decide) (.inr (by decide))]; exact h.2.2.2.2.2.2.2.2.2.1, by rw [sp_other hl hd (by decide) (.inr (by decide))]; exact h.2.2.2.2.2.2.2.2.2.2⟩
def le_T_api_Schema_Refs : Lens T_api_Schema (List T_api_Ref) where
  off := 7
  get := T_api_Schema.f_Refs
  set b g := { b with f_Refs := g }
  inb := by decide
  get_rep h := h.2.2.2.2.2.2.2.2.1
  set_rep h hg := by
    have hl := h.1
    have hd := Rp.len hg
    exact ⟨sp_len hl hd (by decide), by rw [sp_other hl hd (by decide) (.inl (by decide))]; exact h.2.1, by rw [sp_other hl hd (by decide) (.inl (by decide))]; exact h.2.2.1, by rw [sp_other hl hd (by decide) (.inl (by decide))]; exact h.2.2.2.1, by rw [sp_other hl hd (by decide) (.inl (by decide))]; exact h.2.2.2.2.1, by rw [sp_other hl hd (by decide) (.inl (by decide))]; exact h.2.2.2.2.2.1, by rw [sp_other hl hd (by decide) (.inl (by decide))]; exact h.2.2.2.2.2.2.1, by rw [sp_other hl hd (by decide) (.inl (by decide))]; exact h.2.2.2.2.2.2.2.1, by rw [sp_same hl hd (by decide)]; exact hg, by rw [sp_other hl hd (by decide) (.inr (by decide))]; exact h.2.2.2.2.2.2.2.2.2.1, by rw [sp_other hl hd (by decide) (.inr (by decide))]; exact h.2.2.2.2.2.2.2.2.2.2⟩
def le_T_api_Schema_MaxBatch : Lens T_api_Schema Int where
  off := 8
  get := T_api_Schema.f_MaxBatch
  set b g := { b with f_MaxBatch := g }
  inb := by decide
  get_rep h := h.2.2.2.2.2.2.2.2.2.1
  set_rep h hg := by
    have hl := h.1
    have hd := Rp.len hg
    exact ⟨sp_len hl hd (by decide), by rw [sp_other hl hd (by decide) (.inl (by decide))]; exact h.2.1, by rw [sp_other hl hd (by decide) (.inl (by decide))]; exact h.2.2.1, by rw [sp_other hl hd (by decide) (.inl (by decide))]; exact h.2.2.2.1, by rw [sp_other hl hd (by decide) (.inl (by decide))]; exact h.2.2.2.2.1, by rw [sp_other hl hd (by decide) (.inl (by decide))]; exact h.2.2.2.2.2.1, by rw [sp_other hl hd (by decide) (.inl (by decide))]; exact h.2.2.2.2.2.2.1, by rw [sp_other hl hd (by decide) (.inl (by decide))]; exact h.2.2.2.2.2.2.2.1, by rw [sp_other hl hd (by decide) (.inl (by decide))]; exact h.2.2.2.2.2.2.2.2.1, by rw [sp_same hl hd (by decide)]; exact hg, by rw [sp_other hl hd (by decide) (.inr (by decide))]; exact h.2.2.2.2.2.2.2.2.2.2⟩
def le_T_api_Schema_Budget : Lens T_api_Schema Int where
  off := 9
  get := T_api_Schema.f_Budget
  set b g := { b with f_Budget := g }
  inb := by decide
  get_rep h := h.2.2.2.2.2.2.2.2.2.2
  set_rep h hg := by
    have hl := h.1
    have hd := Rp.len hg
    exact ⟨sp_len hl hd (by decide), by rw [sp_other hl hd (by decide) (.inl (by decide))]; exact h.2.1, by rw [sp_other hl hd (by decide) (.inl (by decide))]; exact h.2.2.1, by rw [sp_other hl hd (by decide) (.inl (by decide))]; exact h.2.2.2.1, by rw [sp_other hl hd (by decide) (.inl (by decide))]; exact h.2.2.2.2.1, by rw [sp_other hl hd (by decide) (.inl (by decide))]; exact h.2.2.2.2.2.1, by rw [sp_other hl hd (by decide) (.inl (by decide))]; exact h.2.2.2.2.2.2.1, by rw [sp_other hl hd (by decide) (.inl (by decide))]; exact h.2.2.2.2.2.2.2.1, by rw [sp_other hl hd (by decide) (.inl (by decide))]; exact h.2.2.2.2.2.2.2.2.1, by rw [sp_other hl hd (by decide) (.inl (by decide))]; exact h.2.2.2.2.2.2.2.2.2.1, by rw [sp_same hl hd (by decide)]; exact hg⟩
instance : Zc T_api_Schema := ⟨Zc.cells (List T_api_Field) ++ Zc.cells (List T_api_Header) ++ Zc.cells (List T_api_State) ++ Zc.cells (List T_api_Action) ++ Zc.cells (List T_api_Table) ++ Zc.cells (List T_api_Stage) ++ Zc.cells (List T_api_Role) ++ Zc.cells (List T_api_Ref) ++ Zc.cells Int ++ Zc.cells Int, fun A W => ⟨by rfl, Zc.ok (α := List T_api_Field) A W, Zc.ok (α := List T_api_Header) A W, Zc.ok (α := List T_api_State) A W, Zc.ok (α := List T_api_Action) A W, Zc.ok (α := List T_api_Table) A W, Zc.ok (α := List T_api_Stage) A W, Zc.ok (α := List T_api_Role) A W, Zc.ok (α := List T_api_Ref) A W, Zc.ok (α := Int) A W, Zc.ok (α := Int) A W⟩⟩
theorem zr84 : Zr Try.prog 84 (default : T_api_Schema) := Zr.of (by kernel_rfl)
theorem ty3 : Ty Try.prog 3 Int := Ty.of (by rfl) Try.underlying3 (by kernel_rfl)
theorem fd125_1 : FdA Try.prog 125 1 1 := FdA.of Try.underlying125 rfl rfl ty3 rfl
theorem ty74 : Ty Try.prog 74 (List (BitVec 8)) := Ty.of (by rfl) Try.underlying74 (by kernel_rfl)
theorem fd125_0 : FdA Try.prog 125 0 0 := FdA.of Try.underlying125 rfl rfl ty74 rfl
theorem mixed : Try.prog.follows .mixedOrders = true := by kernel_rfl
theorem en99 : En Try.prog 99 := ⟨_, Try.func99, rfl, by kernel_rfl⟩
theorem en72 : En Try.prog 72 := ⟨_, Try.func72, rfl, by kernel_rfl⟩
theorem bu84 : Bu Try.prog 84 #[(0, 1), (1, 1), (2, 1), (3, 1), (4, 1), (5, 1), (6, 1), (7, 1), (8, 1), (9, 1)] := ⟨_, Try.underlying84, by kernel_rfl, by kernel_rfl⟩
theorem ty84 : Ty Try.prog 84 T_api_Schema := Ty.of (by rfl) Try.underlying84 (by kernel_rfl)
theorem zr127 : Zr Try.prog 127 (default : T_api_Field) := Zr.of (by kernel_rfl)
theorem bu127 : Bu Try.prog 127 #[(0, 1), (1, 1), (2, 1)] := ⟨_, Try.underlying127, by kernel_rfl, by kernel_rfl⟩
theorem ty127 : Ty Try.prog 127 T_api_Field := Ty.of (by rfl) Try.underlying127 (by kernel_rfl)
theorem ty75 : Ty Try.prog 75 (List T_api_Field) := Ty.of (by rfl) Try.underlying75 (by kernel_rfl)
theorem fd84_0 : FdA Try.prog 84 0 0 := FdA.of Try.underlying84 rfl rfl ty75 rfl
theorem zr3 : Zr Try.prog 3 (default : Int) := Zr.of (by kernel_rfl)
theorem zr129 : Zr Try.prog 129 (default : T_api_Header) := Zr.of (by kernel_rfl)
theorem bu129 : Bu Try.prog 129 #[(0, 1), (1, 1), (2, 1)] := ⟨_, Try.underlying129, by kernel_rfl, by kernel_rfl⟩
theorem ty129 : Ty Try.prog 129 T_api_Header := Ty.of (by rfl) Try.underlying129 (by kernel_rfl)
theorem ty76 : Ty Try.prog 76 (List T_api_Header) := Ty.of (by rfl) Try.underlying76 (by kernel_rfl)
theorem fd84_1 : FdA Try.prog 84 1 1 := FdA.of Try.underlying84 rfl rfl ty76 rfl
theorem zr167 : Zr Try.prog 167 (default : T_api_State) := Zr.of (by kernel_rfl)
theorem bu167 : Bu Try.prog 167 #[(0, 1), (1, 1), (2, 1), (3, 1), (4, 1)] := ⟨_, Try.underlying167, by kernel_rfl, by kernel_rfl⟩
theorem ty167 : Ty Try.prog 167 T_api_State := Ty.of (by rfl) Try.underlying167 (by kernel_rfl)
theorem zr24 : Zr Try.prog 24 (default : T_api_Value) := Zr.of (by kernel_rfl)
theorem bu24 : Bu Try.prog 24 #[(0, 1), (1, 1)] := ⟨_, Try.underlying24, by kernel_rfl, by kernel_rfl⟩
theorem zr169 : Zr Try.prog 169 (default : T_api_Case) := Zr.of (by kernel_rfl)
theorem bu169 : Bu Try.prog 169 #[(0, 2), (2, 2), (4, 1)] := ⟨_, Try.underlying169, by kernel_rfl, by kernel_rfl⟩
theorem ty169 : Ty Try.prog 169 T_api_Case := Ty.of (by rfl) Try.underlying169 (by kernel_rfl)
theorem ty165 : Ty Try.prog 165 (List T_api_Case) := Ty.of (by rfl) Try.underlying165 (by kernel_rfl)
theorem fd167_3 : FdA Try.prog 167 3 3 := FdA.of Try.underlying167 rfl rfl ty165 rfl
theorem en77 : En Try.prog 77 := ⟨_, Try.func77, rfl, by kernel_rfl⟩
theorem zh167_3 : Zh Try.prog 167 [3] := by unfold Zh; kernel_rfl
theorem en73 : En Try.prog 73 := ⟨_, Try.func73, rfl, by kernel_rfl⟩
theorem zr171 : Zr Try.prog 171 (default : T_api_Operand) := Zr.of (by kernel_rfl)
theorem bu171 : Bu Try.prog 171 #[(0, 1), (1, 1), (2, 2)] := ⟨_, Try.underlying171, by kernel_rfl, by kernel_rfl⟩
theorem ty171 : Ty Try.prog 171 T_api_Operand := Ty.of (by rfl) Try.underlying171 (by kernel_rfl)
theorem zr146 : Zr Try.prog 146 (default : T_api_Action) := Zr.of (by kernel_rfl)
theorem bu146 : Bu Try.prog 146 #[(0, 1), (1, 1), (2, 1), (3, 1), (4, 1)] := ⟨_, Try.underlying146, by kernel_rfl, by kernel_rfl⟩
theorem zr173 : Zr Try.prog 173 (default : T_api_Prim) := Zr.of (by kernel_rfl)
theorem bu173 : Bu Try.prog 173 #[(0, 1), (1, 1), (2, 4)] := ⟨_, Try.underlying173, by kernel_rfl, by kernel_rfl⟩
theorem ty173 : Ty Try.prog 173 T_api_Prim := Ty.of (by rfl) Try.underlying173 (by kernel_rfl)
theorem zr149 : Zr Try.prog 149 (default : T_api_Param) := Zr.of (by kernel_rfl)
theorem bu149 : Bu Try.prog 149 #[(0, 1), (1, 1)] := ⟨_, Try.underlying149, by kernel_rfl, by kernel_rfl⟩
theorem ty149 : Ty Try.prog 149 T_api_Param := Ty.of (by rfl) Try.underlying149 (by kernel_rfl)
theorem ty146 : Ty Try.prog 146 T_api_Action := Ty.of (by rfl) Try.underlying146 (by kernel_rfl)
theorem ty9 : Ty Try.prog 9 ByteArray := Ty.of (by rfl) Try.underlying9 (by kernel_rfl)
theorem fd146_4 : FdA Try.prog 146 4 4 := FdA.of Try.underlying146 rfl rfl ty9 rfl
theorem en74 : En Try.prog 74 := ⟨_, Try.func74, rfl, by kernel_rfl⟩
theorem zr139 : Zr Try.prog 139 (default : T_api_Key) := Zr.of (by kernel_rfl)
theorem bu139 : Bu Try.prog 139 #[(0, 1), (1, 1), (2, 1)] := ⟨_, Try.underlying139, by kernel_rfl, by kernel_rfl⟩
theorem ty139 : Ty Try.prog 139 T_api_Key := Ty.of (by rfl) Try.underlying139 (by kernel_rfl)
theorem zr97 : Zr Try.prog 97 (default : T_api_Table) := Zr.of (by kernel_rfl)
theorem bu97 : Bu Try.prog 97 #[(0, 1), (1, 1), (2, 1), (3, 1), (4, 1), (5, 1), (6, 1), (7, 1)] := ⟨_, Try.underlying97, by kernel_rfl, by kernel_rfl⟩
theorem ty97 : Ty Try.prog 97 T_api_Table := Ty.of (by rfl) Try.underlying97 (by kernel_rfl)
theorem ty95 : Ty Try.prog 95 (List T_api_Key) := Ty.of (by rfl) Try.underlying95 (by kernel_rfl)
theorem fd97_2 : FdA Try.prog 97 2 2 := FdA.of Try.underlying97 rfl rfl ty95 rfl
theorem zh97_2 : Zh Try.prog 97 [2] := by unfold Zh; kernel_rfl
theorem zh97_n : Zh Try.prog 97 [] := by unfold Zh; kernel_rfl
theorem ty24 : Ty Try.prog 24 T_api_Value := Ty.of (by rfl) Try.underlying24 (by kernel_rfl)
theorem zr9 : Zr Try.prog 9 (default : ByteArray) := Zr.of (by kernel_rfl)
theorem ty174 : Ty Try.prog 174 (List ByteArray) := Ty.of (by rfl) Try.underlying174 (by kernel_rfl)
theorem zr174 : Zr Try.prog 174 (default : List ByteArray) := Zr.of (by kernel_rfl)
theorem fd97_7 : FdA Try.prog 97 7 7 := FdA.of Try.underlying97 rfl rfl ty9 rfl
theorem en75 : En Try.prog 75 := ⟨_, Try.func75, rfl, by kernel_rfl⟩
theorem ty77 : Ty Try.prog 77 (List T_api_State) := Ty.of (by rfl) Try.underlying77 (by kernel_rfl)
theorem fd84_2 : FdA Try.prog 84 2 2 := FdA.of Try.underlying84 rfl rfl ty77 rfl
theorem ty78 : Ty Try.prog 78 (List T_api_Action) := Ty.of (by rfl) Try.underlying78 (by kernel_rfl)
theorem fd84_3 : FdA Try.prog 84 3 3 := FdA.of Try.underlying84 rfl rfl ty78 rfl
theorem ty79 : Ty Try.prog 79 (List T_api_Table) := Ty.of (by rfl) Try.underlying79 (by kernel_rfl)
theorem fd84_4 : FdA Try.prog 84 4 4 := FdA.of Try.underlying84 rfl rfl ty79 rfl
theorem zr178 : Zr Try.prog 178 (default : T_api_Role) := Zr.of (by kernel_rfl)
theorem bu178 : Bu Try.prog 178 #[(0, 1), (1, 1), (2, 1), (3, 1), (4, 1), (5, 1)] := ⟨_, Try.underlying178, by kernel_rfl, by kernel_rfl⟩
theorem ty178 : Ty Try.prog 178 T_api_Role := Ty.of (by rfl) Try.underlying178 (by kernel_rfl)
theorem ty4 : Ty Try.prog 4 Bool := Ty.of (by rfl) Try.underlying4 (by kernel_rfl)
theorem zr4 : Zr Try.prog 4 (default : Bool) := Zr.of (by kernel_rfl)
theorem ty176 : Ty Try.prog 176 (List T_api_Grant) := Ty.of (by rfl) Try.underlying176 (by kernel_rfl)
theorem fd178_2 : FdA Try.prog 178 2 2 := FdA.of Try.underlying178 rfl rfl ty176 rfl
theorem fd97_0 : FdA Try.prog 97 0 0 := FdA.of Try.underlying97 rfl rfl ty3 rfl
theorem zr180 : Zr Try.prog 180 (default : T_api_Grant) := Zr.of (by kernel_rfl)
theorem bu180 : Bu Try.prog 180 #[(0, 1), (1, 1), (2, 1), (3, 1)] := ⟨_, Try.underlying180, by kernel_rfl, by kernel_rfl⟩
theorem ty180 : Ty Try.prog 180 T_api_Grant := Ty.of (by rfl) Try.underlying180 (by kernel_rfl)
theorem zh178_2 : Zh Try.prog 178 [2] := by unfold Zh; kernel_rfl
theorem en76 : En Try.prog 76 := ⟨_, Try.func76, rfl, by kernel_rfl⟩
theorem ty81 : Ty Try.prog 81 (List T_api_Role) := Ty.of (by rfl) Try.underlying81 (by kernel_rfl)
theorem fd84_6 : FdA Try.prog 84 6 6 := FdA.of Try.underlying84 rfl rfl ty81 rfl
theorem zr135 : Zr Try.prog 135 (default : T_api_Stage) := Zr.of (by kernel_rfl)
theorem bu135 : Bu Try.prog 135 #[(0, 1), (1, 1)] := ⟨_, Try.underlying135, by kernel_rfl, by kernel_rfl⟩
theorem ty135 : Ty Try.prog 135 T_api_Stage := Ty.of (by rfl) Try.underlying135 (by kernel_rfl)
theorem ty80 : Ty Try.prog 80 (List T_api_Stage) := Ty.of (by rfl) Try.underlying80 (by kernel_rfl)
theorem fd84_5 : FdA Try.prog 84 5 5 := FdA.of Try.underlying84 rfl rfl ty80 rfl
theorem zh84_5 : Zh Try.prog 84 [5] := by unfold Zh; kernel_rfl
theorem ty82 : Ty Try.prog 82 (List T_api_Ref) := Ty.of (by rfl) Try.underlying82 (by kernel_rfl)
theorem fd84_7 : FdA Try.prog 84 7 7 := FdA.of Try.underlying84 rfl rfl ty82 rfl
theorem zr137 : Zr Try.prog 137 (default : T_api_Ref) := Zr.of (by kernel_rfl)
theorem bu137 : Bu Try.prog 137 #[(0, 1), (1, 1), (2, 1), (3, 1), (4, 1), (5, 1)] := ⟨_, Try.underlying137, by kernel_rfl, by kernel_rfl⟩
theorem ty137 : Ty Try.prog 137 T_api_Ref := Ty.of (by rfl) Try.underlying137 (by kernel_rfl)
theorem zh84_5_7 : Zh Try.prog 84 [5, 7] := by unfold Zh; kernel_rfl
theorem en42 : En Try.prog 42 := ⟨_, Try.func42, rfl, by kernel_rfl⟩
structure T_api_Match where
  f_Present : Bool
  f_Value : T_api_Value
  f_Mask : T_api_Value
  f_Prefix : Int
  f_High : T_api_Value
  deriving DecidableEq, Inhabited
instance : Rp T_api_Match where
  size := 8
  agg := true
  rep A W cs x := cs.length = 8 ∧ Rp.rep A W ((cs.drop 0).take (Rp.size Bool)) x.f_Present ∧ Rp.rep A W ((cs.drop 1).take (Rp.size T_api_Value)) x.f_Value ∧ Rp.rep A W ((cs.drop 3).take (Rp.size T_api_Value)) x.f_Mask ∧ Rp.rep A W ((cs.drop 5).take (Rp.size Int)) x.f_Prefix ∧ Rp.rep A W ((cs.drop 6).take (Rp.size T_api_Value)) x.f_High
  len h := h.1
  one h := by
    intro u hu
    have h0 := mem_cut (o := 0) (s := Rp.size Bool) (by simpa using hu)
    rcases h0 with h1 | h0
    · exact Rp.one h.2.1 u h1
    have h0 := mem_cut (s := Rp.size T_api_Value) h0
    rcases h0 with h1 | h0
    · exact Rp.one h.2.2.1 u h1
    have h0 := mem_cut (s := Rp.size T_api_Value) h0
    rcases h0 with h1 | h0
    · exact Rp.one h.2.2.2.1 u h1
    have h0 := mem_cut (s := Rp.size Int) h0
    rcases h0 with h1 | h0
    · exact Rp.one h.2.2.2.2.1 u h1
    have h0 := mem_cut (s := Rp.size T_api_Value) h0
    rcases h0 with h1 | h0
    · exact Rp.one h.2.2.2.2.2 u h1
    exact mem_end h.1 (by rfl) h0
  flat h := by cases h
  mono e h := ⟨h.1, Rp.mono e h.2.1, Rp.mono e h.2.2.1, Rp.mono e h.2.2.2.1, Rp.mono e h.2.2.2.2.1, Rp.mono e h.2.2.2.2.2⟩
def le_T_api_Match_Present : Lens T_api_Match Bool where
  off := 0
  get := T_api_Match.f_Present
  set b g := { b with f_Present := g }
  inb := by decide
  get_rep h := h.2.1
  set_rep h hg := by
    have hl := h.1
    have hd := Rp.len hg
    exact ⟨sp_len hl hd (by decide), by rw [sp_same hl hd (by decide)]; exact hg, by rw [sp_other hl hd (by decide) (.inr (by decide))]; exact h.2.2.1, by rw [sp_other hl hd (by decide) (.inr (by decide))]; exact h.2.2.2.1, by rw [sp_other hl hd (by decide) (.inr (by decide))]; exact h.2.2.2.2.1, by rw [sp_other hl hd (by decide) (.inr (by decide))]; exact h.2.2.2.2.2⟩
def le_T_api_Match_Value : Lens T_api_Match T_api_Value where
  off := 1
  get := T_api_Match.f_Value
  set b g := { b with f_Value := g }
  inb := by decide
  get_rep h := h.2.2.1
  set_rep h hg := by
    have hl := h.1
    have hd := Rp.len hg
    exact ⟨sp_len hl hd (by decide), by rw [sp_other hl hd (by decide) (.inl (by decide))]; exact h.2.1, by rw [sp_same hl hd (by decide)]; exact hg, by rw [sp_other hl hd (by decide) (.inr (by decide))]; exact h.2.2.2.1, by rw [sp_other hl hd (by decide) (.inr (by decide))]; exact h.2.2.2.2.1, by rw [sp_other hl hd (by decide) (.inr (by decide))]; exact h.2.2.2.2.2⟩
def le_T_api_Match_Mask : Lens T_api_Match T_api_Value where
  off := 3
  get := T_api_Match.f_Mask
  set b g := { b with f_Mask := g }
  inb := by decide
  get_rep h := h.2.2.2.1
  set_rep h hg := by
    have hl := h.1
    have hd := Rp.len hg
    exact ⟨sp_len hl hd (by decide), by rw [sp_other hl hd (by decide) (.inl (by decide))]; exact h.2.1, by rw [sp_other hl hd (by decide) (.inl (by decide))]; exact h.2.2.1, by rw [sp_same hl hd (by decide)]; exact hg, by rw [sp_other hl hd (by decide) (.inr (by decide))]; exact h.2.2.2.2.1, by rw [sp_other hl hd (by decide) (.inr (by decide))]; exact h.2.2.2.2.2⟩
def le_T_api_Match_Prefix : Lens T_api_Match Int where
  off := 5
  get := T_api_Match.f_Prefix
  set b g := { b with f_Prefix := g }
  inb := by decide
  get_rep h := h.2.2.2.2.1
  set_rep h hg := by
    have hl := h.1
    have hd := Rp.len hg
    exact ⟨sp_len hl hd (by decide), by rw [sp_other hl hd (by decide) (.inl (by decide))]; exact h.2.1, by rw [sp_other hl hd (by decide) (.inl (by decide))]; exact h.2.2.1, by rw [sp_other hl hd (by decide) (.inl (by decide))]; exact h.2.2.2.1, by rw [sp_same hl hd (by decide)]; exact hg, by rw [sp_other hl hd (by decide) (.inr (by decide))]; exact h.2.2.2.2.2⟩
def le_T_api_Match_High : Lens T_api_Match T_api_Value where
  off := 6
  get := T_api_Match.f_High
  set b g := { b with f_High := g }
  inb := by decide
  get_rep h := h.2.2.2.2.2
  set_rep h hg := by
    have hl := h.1
    have hd := Rp.len hg
    exact ⟨sp_len hl hd (by decide), by rw [sp_other hl hd (by decide) (.inl (by decide))]; exact h.2.1, by rw [sp_other hl hd (by decide) (.inl (by decide))]; exact h.2.2.1, by rw [sp_other hl hd (by decide) (.inl (by decide))]; exact h.2.2.2.1, by rw [sp_other hl hd (by decide) (.inl (by decide))]; exact h.2.2.2.2.1, by rw [sp_same hl hd (by decide)]; exact hg⟩
instance : Zc T_api_Match := ⟨Zc.cells Bool ++ Zc.cells T_api_Value ++ Zc.cells T_api_Value ++ Zc.cells Int ++ Zc.cells T_api_Value, fun A W => ⟨by rfl, Zc.ok (α := Bool) A W, Zc.ok (α := T_api_Value) A W, Zc.ok (α := T_api_Value) A W, Zc.ok (α := Int) A W, Zc.ok (α := T_api_Value) A W⟩⟩
structure T_api_Entry where
  f_Table : Int
  f_Matches : List T_api_Match
  f_Priority : Int
  f_Action : Int
  f_Args : List T_api_Value
  deriving DecidableEq, Inhabited
instance : Rp T_api_Entry where
  size := 5
  agg := true
  rep A W cs x := cs.length = 5 ∧ Rp.rep A W ((cs.drop 0).take (Rp.size Int)) x.f_Table ∧ Rp.rep A W ((cs.drop 1).take (Rp.size (List T_api_Match))) x.f_Matches ∧ Rp.rep A W ((cs.drop 2).take (Rp.size Int)) x.f_Priority ∧ Rp.rep A W ((cs.drop 3).take (Rp.size Int)) x.f_Action ∧ Rp.rep A W ((cs.drop 4).take (Rp.size (List T_api_Value))) x.f_Args
  len h := h.1
  one h := by
    intro u hu
    have h0 := mem_cut (o := 0) (s := Rp.size Int) (by simpa using hu)
    rcases h0 with h1 | h0
    · exact Rp.one h.2.1 u h1
    have h0 := mem_cut (s := Rp.size (List T_api_Match)) h0
    rcases h0 with h1 | h0
    · exact Rp.one h.2.2.1 u h1
    have h0 := mem_cut (s := Rp.size Int) h0
    rcases h0 with h1 | h0
    · exact Rp.one h.2.2.2.1 u h1
    have h0 := mem_cut (s := Rp.size Int) h0
    rcases h0 with h1 | h0
    · exact Rp.one h.2.2.2.2.1 u h1
    have h0 := mem_cut (s := Rp.size (List T_api_Value)) h0
    rcases h0 with h1 | h0
    · exact Rp.one h.2.2.2.2.2 u h1
    exact mem_end h.1 (by rfl) h0
  flat h := by cases h
  mono e h := ⟨h.1, Rp.mono e h.2.1, Rp.mono e h.2.2.1, Rp.mono e h.2.2.2.1, Rp.mono e h.2.2.2.2.1, Rp.mono e h.2.2.2.2.2⟩
def le_T_api_Entry_Table : Lens T_api_Entry Int where
  off := 0
  get := T_api_Entry.f_Table
  set b g := { b with f_Table := g }
  inb := by decide
  get_rep h := h.2.1
  set_rep h hg := by
    have hl := h.1
    have hd := Rp.len hg
    exact ⟨sp_len hl hd (by decide), by rw [sp_same hl hd (by decide)]; exact hg, by rw [sp_other hl hd (by decide) (.inr (by decide))]; exact h.2.2.1, by rw [sp_other hl hd (by decide) (.inr (by decide))]; exact h.2.2.2.1, by rw [sp_other hl hd (by decide) (.inr (by decide))]; exact h.2.2.2.2.1, by rw [sp_other hl hd (by decide) (.inr (by decide))]; exact h.2.2.2.2.2⟩
def le_T_api_Entry_Matches : Lens T_api_Entry (List T_api_Match) where
  off := 1
  get := T_api_Entry.f_Matches
  set b g := { b with f_Matches := g }
  inb := by decide
  get_rep h := h.2.2.1
  set_rep h hg := by
    have hl := h.1
    have hd := Rp.len hg
    exact ⟨sp_len hl hd (by decide), by rw [sp_other hl hd (by decide) (.inl (by decide))]; exact h.2.1, by rw [sp_same hl hd (by decide)]; exact hg, by rw [sp_other hl hd (by decide) (.inr (by decide))]; exact h.2.2.2.1, by rw [sp_other hl hd (by decide) (.inr (by decide))]; exact h.2.2.2.2.1, by rw [sp_other hl hd (by decide) (.inr (by decide))]; exact h.2.2.2.2.2⟩
def le_T_api_Entry_Priority : Lens T_api_Entry Int where
  off := 2
  get := T_api_Entry.f_Priority
  set b g := { b with f_Priority := g }
  inb := by decide
  get_rep h := h.2.2.2.1
  set_rep h hg := by
    have hl := h.1
    have hd := Rp.len hg
    exact ⟨sp_len hl hd (by decide), by rw [sp_other hl hd (by decide) (.inl (by decide))]; exact h.2.1, by rw [sp_other hl hd (by decide) (.inl (by decide))]; exact h.2.2.1, by rw [sp_same hl hd (by decide)]; exact hg, by rw [sp_other hl hd (by decide) (.inr (by decide))]; exact h.2.2.2.2.1, by rw [sp_other hl hd (by decide) (.inr (by decide))]; exact h.2.2.2.2.2⟩
def le_T_api_Entry_Action : Lens T_api_Entry Int where
  off := 3
  get := T_api_Entry.f_Action
  set b g := { b with f_Action := g }
  inb := by decide
  get_rep h := h.2.2.2.2.1
  set_rep h hg := by
    have hl := h.1
    have hd := Rp.len hg
    exact ⟨sp_len hl hd (by decide), by rw [sp_other hl hd (by decide) (.inl (by decide))]; exact h.2.1, by rw [sp_other hl hd (by decide) (.inl (by decide))]; exact h.2.2.1, by rw [sp_other hl hd (by decide) (.inl (by decide))]; exact h.2.2.2.1, by rw [sp_same hl hd (by decide)]; exact hg, by rw [sp_other hl hd (by decide) (.inr (by decide))]; exact h.2.2.2.2.2⟩
def le_T_api_Entry_Args : Lens T_api_Entry (List T_api_Value) where
  off := 4
  get := T_api_Entry.f_Args
  set b g := { b with f_Args := g }
  inb := by decide
  get_rep h := h.2.2.2.2.2
  set_rep h hg := by
    have hl := h.1
    have hd := Rp.len hg
    exact ⟨sp_len hl hd (by decide), by rw [sp_other hl hd (by decide) (.inl (by decide))]; exact h.2.1, by rw [sp_other hl hd (by decide) (.inl (by decide))]; exact h.2.2.1, by rw [sp_other hl hd (by decide) (.inl (by decide))]; exact h.2.2.2.1, by rw [sp_other hl hd (by decide) (.inl (by decide))]; exact h.2.2.2.2.1, by rw [sp_same hl hd (by decide)]; exact hg⟩
instance : Zc T_api_Entry := ⟨Zc.cells Int ++ Zc.cells (List T_api_Match) ++ Zc.cells Int ++ Zc.cells Int ++ Zc.cells (List T_api_Value), fun A W => ⟨by rfl, Zc.ok (α := Int) A W, Zc.ok (α := List T_api_Match) A W, Zc.ok (α := Int) A W, Zc.ok (α := Int) A W, Zc.ok (α := List T_api_Value) A W⟩⟩
theorem zr91 : Zr Try.prog 91 (default : T_api_Entry) := Zr.of (by kernel_rfl)
theorem en20 : En Try.prog 20 := ⟨_, Try.func20, rfl, by kernel_rfl⟩
theorem bu91 : Bu Try.prog 91 #[(0, 1), (1, 1), (2, 1), (3, 1), (4, 1)] := ⟨_, Try.underlying91, by kernel_rfl, by kernel_rfl⟩
theorem ty91 : Ty Try.prog 91 T_api_Entry := Ty.of (by rfl) Try.underlying91 (by kernel_rfl)
theorem ty88 : Ty Try.prog 88 (List T_api_Match) := Ty.of (by rfl) Try.underlying88 (by kernel_rfl)
theorem fd91_1 : FdA Try.prog 91 1 1 := FdA.of Try.underlying91 rfl rfl ty88 rfl
theorem zr141 : Zr Try.prog 141 (default : T_api_Match) := Zr.of (by kernel_rfl)
theorem fd139_1 : FdA Try.prog 139 1 1 := FdA.of Try.underlying139 rfl rfl ty3 rfl
theorem fd127_0 : FdA Try.prog 127 0 0 := FdA.of Try.underlying127 rfl rfl ty3 rfl
theorem fd127_2 : FdA Try.prog 127 2 2 := FdA.of Try.underlying127 rfl rfl ty3 rfl
theorem en100 : En Try.prog 100 := ⟨_, Try.func100, rfl, by kernel_rfl⟩
theorem ty22 : Ty Try.prog 22 (BitVec 64) := Ty.of (by rfl) Try.underlying22 (by kernel_rfl)
theorem fd24_0 : FdA Try.prog 24 0 0 := FdA.of Try.underlying24 rfl rfl ty22 rfl
theorem fd24_1 : FdA Try.prog 24 1 1 := FdA.of Try.underlying24 rfl rfl ty22 rfl
theorem en48 : En Try.prog 48 := ⟨_, Try.func48, rfl, by kernel_rfl⟩
theorem fd139_2 : FdA Try.prog 139 2 2 := FdA.of Try.underlying139 rfl rfl ty3 rfl
theorem en101 : En Try.prog 101 := ⟨_, Try.func101, rfl, by kernel_rfl⟩
theorem fv24_1 : Fv Try.prog 24 1 22 1 := ⟨_, _, Try.underlying24, rfl, rfl, rfl⟩
theorem bu141 : Bu Try.prog 141 #[(0, 1), (1, 2), (3, 2), (5, 1), (6, 2)] := ⟨_, Try.underlying141, by kernel_rfl, by kernel_rfl⟩
theorem ty141 : Ty Try.prog 141 T_api_Match := Ty.of (by rfl) Try.underlying141 (by kernel_rfl)
theorem en78 : En Try.prog 78 := ⟨_, Try.func78, rfl, by kernel_rfl⟩
theorem zh91_1 : Zh Try.prog 91 [1] := by unfold Zh; kernel_rfl
theorem fd91_2 : FdA Try.prog 91 2 2 := FdA.of Try.underlying91 rfl rfl ty3 rfl
theorem ty43 : Ty Try.prog 43 (List Int) := Ty.of (by rfl) Try.underlying43 (by kernel_rfl)
theorem fd97_3 : FdA Try.prog 97 3 3 := FdA.of Try.underlying97 rfl rfl ty43 rfl
theorem fd91_3 : FdA Try.prog 91 3 3 := FdA.of Try.underlying91 rfl rfl ty3 rfl
theorem fd146_0 : FdA Try.prog 146 0 0 := FdA.of Try.underlying146 rfl rfl ty3 rfl
theorem en79 : En Try.prog 79 := ⟨_, Try.func79, rfl, by kernel_rfl⟩
theorem fv146_2 : Fv Try.prog 146 2 143 2 := ⟨_, _, Try.underlying146, rfl, rfl, rfl⟩
theorem ty143 : Ty Try.prog 143 (List T_api_Param) := Ty.of (by rfl) Try.underlying143 (by kernel_rfl)
theorem ty89 : Ty Try.prog 89 (List T_api_Value) := Ty.of (by rfl) Try.underlying89 (by kernel_rfl)
theorem fd91_4 : FdA Try.prog 91 4 4 := FdA.of Try.underlying91 rfl rfl ty89 rfl
theorem fd149_1 : FdA Try.prog 149 1 1 := FdA.of Try.underlying149 rfl rfl ty3 rfl
theorem zh91_1_4 : Zh Try.prog 91 [1, 4] := by unfold Zh; kernel_rfl
theorem en43 : En Try.prog 43 := ⟨_, Try.func43, rfl, by kernel_rfl⟩
structure T_cube_Cube where
  f_Value : Vector T_api_Value 4
  f_Mask : Vector T_api_Value 4
  deriving DecidableEq, Inhabited
instance : Rp T_cube_Cube where
  size := 16
  agg := true
  rep A W cs x := cs.length = 16 ∧ Rp.rep A W ((cs.drop 0).take (Rp.size (Vector T_api_Value 4))) x.f_Value ∧ Rp.rep A W ((cs.drop 8).take (Rp.size (Vector T_api_Value 4))) x.f_Mask
  len h := h.1
  one h := by
    intro u hu
    have h0 := mem_cut (o := 0) (s := Rp.size (Vector T_api_Value 4)) (by simpa using hu)
    rcases h0 with h1 | h0
    · exact Rp.one h.2.1 u h1
    have h0 := mem_cut (s := Rp.size (Vector T_api_Value 4)) h0
    rcases h0 with h1 | h0
    · exact Rp.one h.2.2 u h1
    exact mem_end h.1 (by rfl) h0
  flat h := by cases h
  mono e h := ⟨h.1, Rp.mono e h.2.1, Rp.mono e h.2.2⟩
def le_T_cube_Cube_Value : Lens T_cube_Cube (Vector T_api_Value 4) where
  off := 0
  get := T_cube_Cube.f_Value
  set b g := { b with f_Value := g }
  inb := by decide
  get_rep h := h.2.1
  set_rep h hg := by
    have hl := h.1
    have hd := Rp.len hg
    exact ⟨sp_len hl hd (by decide), by rw [sp_same hl hd (by decide)]; exact hg, by rw [sp_other hl hd (by decide) (.inr (by decide))]; exact h.2.2⟩
def le_T_cube_Cube_Mask : Lens T_cube_Cube (Vector T_api_Value 4) where
  off := 8
  get := T_cube_Cube.f_Mask
  set b g := { b with f_Mask := g }
  inb := by decide
  get_rep h := h.2.2
  set_rep h hg := by
    have hl := h.1
    have hd := Rp.len hg
    exact ⟨sp_len hl hd (by decide), by rw [sp_other hl hd (by decide) (.inl (by decide))]; exact h.2.1, by rw [sp_same hl hd (by decide)]; exact hg⟩
instance : Zc T_cube_Cube := ⟨Zc.cells (Vector T_api_Value 4) ++ Zc.cells (Vector T_api_Value 4), fun A W => ⟨by rfl, Zc.ok (α := Vector T_api_Value 4) A W, Zc.ok (α := Vector T_api_Value 4) A W⟩⟩
theorem zr28 : Zr Try.prog 28 (default : T_cube_Cube) := Zr.of (by kernel_rfl)
theorem fd91_0 : FdA Try.prog 91 0 0 := FdA.of Try.underlying91 rfl rfl ty3 rfl
theorem en103 : En Try.prog 103 := ⟨_, Try.func103, rfl, by kernel_rfl⟩
theorem en102 : En Try.prog 102 := ⟨_, Try.func102, rfl, by kernel_rfl⟩
theorem en80 : En Try.prog 80 := ⟨_, Try.func80, rfl, by kernel_rfl⟩
theorem bu28 : Bu Try.prog 28 #[(0, 8), (8, 8)] := ⟨_, Try.underlying28, by kernel_rfl, by kernel_rfl⟩
theorem ty28 : Ty Try.prog 28 T_cube_Cube := Ty.of (by rfl) Try.underlying28 (by kernel_rfl)
theorem en105 : En Try.prog 105 := ⟨_, Try.func105, rfl, by kernel_rfl⟩
theorem en104 : En Try.prog 104 := ⟨_, Try.func104, rfl, by kernel_rfl⟩
theorem en81 : En Try.prog 81 := ⟨_, Try.func81, rfl, by kernel_rfl⟩
theorem fd141_0 : FdA Try.prog 141 0 0 := FdA.of Try.underlying141 rfl rfl ty4 rfl
theorem en115 : En Try.prog 115 := ⟨_, Try.func115, rfl, by kernel_rfl⟩
theorem en112 : En Try.prog 112 := ⟨_, Try.func112, rfl, by kernel_rfl⟩
theorem en106 : En Try.prog 106 := ⟨_, Try.func106, rfl, by kernel_rfl⟩
theorem fd141_3 : FdA Try.prog 141 3 5 := FdA.of Try.underlying141 rfl rfl ty3 rfl
theorem en57 : En Try.prog 57 := ⟨_, Try.func57, rfl, by kernel_rfl⟩
theorem en107 : En Try.prog 107 := ⟨_, Try.func107, rfl, by kernel_rfl⟩
theorem fd141_2 : FdA Try.prog 141 2 3 := FdA.of Try.underlying141 rfl rfl ty24 rfl
theorem en82 : En Try.prog 82 := ⟨_, Try.func82, rfl, by kernel_rfl⟩
theorem ty26 : Ty Try.prog 26 (Vector T_api_Value 4) := Ty.of (by rfl) Try.underlying26 (by kernel_rfl)
theorem fd28_1 : FdA Try.prog 28 1 8 := FdA.of Try.underlying28 rfl rfl ty26 rfl
theorem ar26 : Ar Try.prog 26 4 2 := Ar.of Try.underlying26 ty24 rfl
theorem fd141_1 : FdA Try.prog 141 1 1 := FdA.of Try.underlying141 rfl rfl ty24 rfl
theorem en56 : En Try.prog 56 := ⟨_, Try.func56, rfl, by kernel_rfl⟩
theorem fd28_0 : FdA Try.prog 28 0 0 := FdA.of Try.underlying28 rfl rfl ty26 rfl
theorem en44 : En Try.prog 44 := ⟨_, Try.func44, rfl, by kernel_rfl⟩
theorem zr36 : Zr Try.prog 36 (default : Vector (BitVec 8) 512) := Zr.of (by kernel_rfl)
theorem zr186 : Zr Try.prog 186 (default : Vector (List Int) 6) := Zr.of (by kernel_rfl)
theorem ar186 : Ar Try.prog 186 6 1 := Ar.of Try.underlying186 ty43 rfl
theorem zh186_0 : Zh Try.prog 186 [0] := by unfold Zh; kernel_rfl
theorem fd129_0 : FdA Try.prog 129 0 0 := FdA.of Try.underlying129 rfl rfl ty3 rfl
theorem zh186_0_1 : Zh Try.prog 186 [0, 1] := by unfold Zh; kernel_rfl
theorem fd167_0 : FdA Try.prog 167 0 0 := FdA.of Try.underlying167 rfl rfl ty3 rfl
theorem zh186_0_1_2 : Zh Try.prog 186 [0, 1, 2] := by unfold Zh; kernel_rfl
theorem zh186_0_1_2_3 : Zh Try.prog 186 [0, 1, 2, 3] := by unfold Zh; kernel_rfl
theorem zh186_0_1_2_3_4 : Zh Try.prog 186 [0, 1, 2, 3, 4] := by unfold Zh; kernel_rfl
theorem fd178_0 : FdA Try.prog 178 0 0 := FdA.of Try.underlying178 rfl rfl ty3 rfl
theorem zh186_0_1_2_3_4_5 : Zh Try.prog 186 [0, 1, 2, 3, 4, 5] := by unfold Zh; kernel_rfl
theorem ty186 : Ty Try.prog 186 (Vector (List Int) 6) := Ty.of (by rfl) Try.underlying186 (by kernel_rfl)
theorem en109 : En Try.prog 109 := ⟨_, Try.func109, rfl, by kernel_rfl⟩
theorem en108 : En Try.prog 108 := ⟨_, Try.func108, rfl, by kernel_rfl⟩
theorem en83 : En Try.prog 83 := ⟨_, Try.func83, rfl, by kernel_rfl⟩
theorem zr26 : Zr Try.prog 26 (default : Vector T_api_Value 4) := Zr.of (by kernel_rfl)
theorem ty36 : Ty Try.prog 36 (Vector (BitVec 8) 512) := Ty.of (by rfl) Try.underlying36 (by kernel_rfl)
theorem en110 : En Try.prog 110 := ⟨_, Try.func110, rfl, by kernel_rfl⟩
theorem en85 : En Try.prog 85 := ⟨_, Try.func85, rfl, by kernel_rfl⟩
theorem en49 : En Try.prog 49 := ⟨_, Try.func49, rfl, by kernel_rfl⟩
theorem zr111 : Zr Try.prog 111 (default : Vector Bool 128) := Zr.of (by kernel_rfl)
theorem en64 : En Try.prog 64 := ⟨_, Try.func64, rfl, by kernel_rfl⟩
theorem ar111 : Ar Try.prog 111 128 1 := Ar.of Try.underlying111 ty4 rfl
theorem ty111 : Ty Try.prog 111 (Vector Bool 128) := Ty.of (by rfl) Try.underlying111 (by kernel_rfl)
theorem en63 : En Try.prog 63 := ⟨_, Try.func63, rfl, by kernel_rfl⟩
theorem en65 : En Try.prog 65 := ⟨_, Try.func65, rfl, by kernel_rfl⟩
theorem en84 : En Try.prog 84 := ⟨_, Try.func84, rfl, by kernel_rfl⟩
theorem en62 : En Try.prog 62 := ⟨_, Try.func62, rfl, by kernel_rfl⟩
theorem ar36 : Ar Try.prog 36 512 1 := Ar.of Try.underlying36 ty5 rfl
theorem en55 : En Try.prog 55 := ⟨_, Try.func55, rfl, by kernel_rfl⟩
theorem en45 : En Try.prog 45 := ⟨_, Try.func45, rfl, by kernel_rfl⟩
theorem en17 : En Try.prog 17 := ⟨_, Try.func17, rfl, by kernel_rfl⟩
theorem eqv5 : Eqv Try.prog 5 (BitVec 8) 1 := eqv_u8 (K := .u8) Try.underlying5
theorem eqv36 : Eqv Try.prog 36 (Vector (BitVec 8) 512) 2 := eqv_arr Try.underlying36 ty5 eqv5
theorem eqg36 : Try.prog.eqGuardType Try.prog.depth 36 = false := by kernel_rfl
theorem eqv22 : Eqv Try.prog 22 (BitVec 64) 1 := eqv_u64 (K := .u64) Try.underlying22
theorem eqv24 : Eqv Try.prog 24 T_api_Value 2 := eqv_struct (k := 1) rfl Try.underlying24 (by kernel_rfl) fun d hd A W xs ys x y hx hy => by
  refine Eq.trans (eqf_cons le_T_api_Value_Hi ty22 rfl (by rfl) eqv22 (by omega) hx hy (eqf_cons le_T_api_Value_Lo ty22 rfl (by rfl) eqv22 (by omega) hx hy (eqf_nil))) ?_
  congr 1
  rw [Bool.eq_iff_iff]
  simp only [Bool.and_eq_true, decide_eq_true_eq, and_true]
  cases x; cases y
  simp [le_T_api_Value_Hi, le_T_api_Value_Lo]

theorem eqv26 : Eqv Try.prog 26 (Vector T_api_Value 4) 3 := eqv_arr Try.underlying26 ty24 eqv24
theorem eqv28 : Eqv Try.prog 28 T_cube_Cube 4 := eqv_struct (k := 3) rfl Try.underlying28 (by kernel_rfl) fun d hd A W xs ys x y hx hy => by
  refine Eq.trans (eqf_cons le_T_cube_Cube_Value ty26 rfl (by rfl) eqv26 (by omega) hx hy (eqf_cons le_T_cube_Cube_Mask ty26 rfl (by rfl) eqv26 (by omega) hx hy (eqf_nil))) ?_
  congr 1
  rw [Bool.eq_iff_iff]
  simp only [Bool.and_eq_true, decide_eq_true_eq, and_true]
  cases x; cases y
  simp [le_T_cube_Cube_Value, le_T_cube_Cube_Mask]

theorem eqg28 : Try.prog.eqGuardType Try.prog.depth 28 = false := by kernel_rfl
theorem en46 : En Try.prog 46 := ⟨_, Try.func46, rfl, by kernel_rfl⟩
theorem eqg24 : Try.prog.eqGuardType Try.prog.depth 24 = false := by kernel_rfl
theorem en47 : En Try.prog 47 := ⟨_, Try.func47, rfl, by kernel_rfl⟩
theorem en52 : En Try.prog 52 := ⟨_, Try.func52, rfl, by kernel_rfl⟩
theorem eqg26 : Try.prog.eqGuardType Try.prog.depth 26 = false := by kernel_rfl
theorem en25 : En Try.prog 25 := ⟨_, Try.func25, rfl, by kernel_rfl⟩
theorem en86 : En Try.prog 86 := ⟨_, Try.func86, rfl, by kernel_rfl⟩
theorem en88 : En Try.prog 88 := ⟨_, Try.func88, rfl, by kernel_rfl⟩
theorem en111 : En Try.prog 111 := ⟨_, Try.func111, rfl, by kernel_rfl⟩
theorem fd141_4 : FdA Try.prog 141 4 6 := FdA.of Try.underlying141 rfl rfl ty24 rfl
theorem en87 : En Try.prog 87 := ⟨_, Try.func87, rfl, by kernel_rfl⟩
theorem en50 : En Try.prog 50 := ⟨_, Try.func50, rfl, by kernel_rfl⟩
theorem en58 : En Try.prog 58 := ⟨_, Try.func58, rfl, by kernel_rfl⟩
theorem en18 : En Try.prog 18 := ⟨_, Try.func18, rfl, by kernel_rfl⟩
theorem en89 : En Try.prog 89 := ⟨_, Try.func89, rfl, by kernel_rfl⟩
theorem en53 : En Try.prog 53 := ⟨_, Try.func53, rfl, by kernel_rfl⟩
theorem en59 : En Try.prog 59 := ⟨_, Try.func59, rfl, by kernel_rfl⟩
theorem en90 : En Try.prog 90 := ⟨_, Try.func90, rfl, by kernel_rfl⟩
theorem en54 : En Try.prog 54 := ⟨_, Try.func54, rfl, by kernel_rfl⟩
theorem en61 : En Try.prog 61 := ⟨_, Try.func61, rfl, by kernel_rfl⟩
theorem en60 : En Try.prog 60 := ⟨_, Try.func60, rfl, by kernel_rfl⟩
theorem en21 : En Try.prog 21 := ⟨_, Try.func21, rfl, by kernel_rfl⟩
theorem en15 : En Try.prog 15 := ⟨_, Try.func15, rfl, by kernel_rfl⟩
theorem en66 : En Try.prog 66 := ⟨_, Try.func66, rfl, by kernel_rfl⟩
theorem en30 : En Try.prog 30 := ⟨_, Try.func30, rfl, by kernel_rfl⟩
theorem en19 : En Try.prog 19 := ⟨_, Try.func19, rfl, by kernel_rfl⟩
end Go.Proofs.Ytabodolbdalimaa
