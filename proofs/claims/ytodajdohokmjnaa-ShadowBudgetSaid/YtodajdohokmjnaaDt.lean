/-
  Printed by the decompiler (dec.py) out of the seat's translation. The types of its data, and facts on its tables. Conditions: none.
-/
import Derived.Test.YtodajdohokmjnaaRows
import Derived.Test.YtodajdohokmjnaaGvM
namespace Go.Proofs.Ytodajdohokmjnaa
open Go Gv
set_option linter.unusedVariables false
set_option linter.unusedSimpArgs false
set_option maxRecDepth 100000
structure T_mcase_Codes where
  f_l : List (BitVec 8)
  f_at : Int
  deriving DecidableEq, Inhabited
instance : Rp T_mcase_Codes where
  size := 2
  agg := true
  rep A W cs x := cs.length = 2 ∧ Rp.rep A W ((cs.drop 0).take (Rp.size (List (BitVec 8)))) x.f_l ∧ Rp.rep A W ((cs.drop 1).take (Rp.size Int)) x.f_at
  len h := h.1
  one h := by
    intro u hu
    have h0 := mem_cut (o := 0) (s := Rp.size (List (BitVec 8))) (by simpa using hu)
    rcases h0 with h1 | h0
    · exact Rp.one h.2.1 u h1
    have h0 := mem_cut (s := Rp.size Int) h0
    rcases h0 with h1 | h0
    · exact Rp.one h.2.2 u h1
    exact mem_end h.1 (by rfl) h0
  flat h := by cases h
  mono e h := ⟨h.1, Rp.mono e h.2.1, Rp.mono e h.2.2⟩
def le_T_mcase_Codes_l : Lens T_mcase_Codes (List (BitVec 8)) where
  off := 0
  get := T_mcase_Codes.f_l
  set b g := { b with f_l := g }
  inb := by decide
  get_rep h := h.2.1
  set_rep h hg := by
    have hl := h.1
    have hd := Rp.len hg
    exact ⟨sp_len hl hd (by decide), by rw [sp_same hl hd (by decide)]; exact hg, by rw [sp_other hl hd (by decide) (.inr (by decide))]; exact h.2.2⟩
def le_T_mcase_Codes_at : Lens T_mcase_Codes Int where
  off := 1
  get := T_mcase_Codes.f_at
  set b g := { b with f_at := g }
  inb := by decide
  get_rep h := h.2.2
  set_rep h hg := by
    have hl := h.1
    have hd := Rp.len hg
    exact ⟨sp_len hl hd (by decide), by rw [sp_other hl hd (by decide) (.inl (by decide))]; exact h.2.1, by rw [sp_same hl hd (by decide)]; exact hg⟩
instance : Zc T_mcase_Codes := ⟨Zc.cells (List (BitVec 8)) ++ Zc.cells Int, fun A W => ⟨by rfl, Zc.ok (α := List (BitVec 8)) A W, Zc.ok (α := Int) A W⟩⟩
theorem ty5 : Ty Try.prog 5 (BitVec 8) := Ty.of (by rfl) Try.underlying5 (by kernel_rfl)
theorem zr120 : Zr Try.prog 120 (default : T_mcase_Codes) := Zr.of (by kernel_rfl)
theorem bu120 : Bu Try.prog 120 #[(0, 1), (1, 1)] := ⟨_, Try.underlying120, by kernel_rfl, by kernel_rfl⟩
theorem en12 : En Try.prog 12 := ⟨_, Try.func12, rfl, by kernel_rfl⟩
structure T_api_Field where
  f_ID : Int
  f_Name : ByteArray
  f_Bits : Int
  deriving DecidableEq, Inhabited
instance : Rp T_api_Field where
  size := 3
  agg := true
  rep A W cs x := cs.length = 3 ∧ Rp.rep A W ((cs.drop 0).take (Rp.size Int)) x.f_ID ∧ Rp.rep A W ((cs.drop 1).take (Rp.size ByteArray)) x.f_Name ∧ Rp.rep A W ((cs.drop 2).take (Rp.size Int)) x.f_Bits
  len h := h.1
  one h := by
    intro u hu
    have h0 := mem_cut (o := 0) (s := Rp.size Int) (by simpa using hu)
    rcases h0 with h1 | h0
    · exact Rp.one h.2.1 u h1
    have h0 := mem_cut (s := Rp.size ByteArray) h0
    rcases h0 with h1 | h0
    · exact Rp.one h.2.2.1 u h1
    have h0 := mem_cut (s := Rp.size Int) h0
    rcases h0 with h1 | h0
    · exact Rp.one h.2.2.2 u h1
    exact mem_end h.1 (by rfl) h0
  flat h := by cases h
  mono e h := ⟨h.1, Rp.mono e h.2.1, Rp.mono e h.2.2.1, Rp.mono e h.2.2.2⟩
def le_T_api_Field_ID : Lens T_api_Field Int where
  off := 0
  get := T_api_Field.f_ID
  set b g := { b with f_ID := g }
  inb := by decide
  get_rep h := h.2.1
  set_rep h hg := by
    have hl := h.1
    have hd := Rp.len hg
    exact ⟨sp_len hl hd (by decide), by rw [sp_same hl hd (by decide)]; exact hg, by rw [sp_other hl hd (by decide) (.inr (by decide))]; exact h.2.2.1, by rw [sp_other hl hd (by decide) (.inr (by decide))]; exact h.2.2.2⟩
def le_T_api_Field_Name : Lens T_api_Field ByteArray where
  off := 1
  get := T_api_Field.f_Name
  set b g := { b with f_Name := g }
  inb := by decide
  get_rep h := h.2.2.1
  set_rep h hg := by
    have hl := h.1
    have hd := Rp.len hg
    exact ⟨sp_len hl hd (by decide), by rw [sp_other hl hd (by decide) (.inl (by decide))]; exact h.2.1, by rw [sp_same hl hd (by decide)]; exact hg, by rw [sp_other hl hd (by decide) (.inr (by decide))]; exact h.2.2.2⟩
def le_T_api_Field_Bits : Lens T_api_Field Int where
  off := 2
  get := T_api_Field.f_Bits
  set b g := { b with f_Bits := g }
  inb := by decide
  get_rep h := h.2.2.2
  set_rep h hg := by
    have hl := h.1
    have hd := Rp.len hg
    exact ⟨sp_len hl hd (by decide), by rw [sp_other hl hd (by decide) (.inl (by decide))]; exact h.2.1, by rw [sp_other hl hd (by decide) (.inl (by decide))]; exact h.2.2.1, by rw [sp_same hl hd (by decide)]; exact hg⟩
instance : Zc T_api_Field := ⟨Zc.cells Int ++ Zc.cells ByteArray ++ Zc.cells Int, fun A W => ⟨by rfl, Zc.ok (α := Int) A W, Zc.ok (α := ByteArray) A W, Zc.ok (α := Int) A W⟩⟩
structure T_api_Header where
  f_ID : Int
  f_Name : ByteArray
  f_Fields : List Int
  deriving DecidableEq, Inhabited
instance : Rp T_api_Header where
  size := 3
  agg := true
  rep A W cs x := cs.length = 3 ∧ Rp.rep A W ((cs.drop 0).take (Rp.size Int)) x.f_ID ∧ Rp.rep A W ((cs.drop 1).take (Rp.size ByteArray)) x.f_Name ∧ Rp.rep A W ((cs.drop 2).take (Rp.size (List Int))) x.f_Fields
  len h := h.1
  one h := by
    intro u hu
    have h0 := mem_cut (o := 0) (s := Rp.size Int) (by simpa using hu)
    rcases h0 with h1 | h0
    · exact Rp.one h.2.1 u h1
    have h0 := mem_cut (s := Rp.size ByteArray) h0
    rcases h0 with h1 | h0
    · exact Rp.one h.2.2.1 u h1
    have h0 := mem_cut (s := Rp.size (List Int)) h0
    rcases h0 with h1 | h0
    · exact Rp.one h.2.2.2 u h1
    exact mem_end h.1 (by rfl) h0
  flat h := by cases h
  mono e h := ⟨h.1, Rp.mono e h.2.1, Rp.mono e h.2.2.1, Rp.mono e h.2.2.2⟩
def le_T_api_Header_ID : Lens T_api_Header Int where
  off := 0
  get := T_api_Header.f_ID
  set b g := { b with f_ID := g }
  inb := by decide
  get_rep h := h.2.1
  set_rep h hg := by
    have hl := h.1
    have hd := Rp.len hg
    exact ⟨sp_len hl hd (by decide), by rw [sp_same hl hd (by decide)]; exact hg, by rw [sp_other hl hd (by decide) (.inr (by decide))]; exact h.2.2.1, by rw [sp_other hl hd (by decide) (.inr (by decide))]; exact h.2.2.2⟩
def le_T_api_Header_Name : Lens T_api_Header ByteArray where
  off := 1
  get := T_api_Header.f_Name
  set b g := { b with f_Name := g }
  inb := by decide
  get_rep h := h.2.2.1
  set_rep h hg := by
    have hl := h.1
    have hd := Rp.len hg
    exact ⟨sp_len hl hd (by decide), by rw [sp_other hl hd (by decide) (.inl (by decide))]; exact h.2.1, by rw [sp_same hl hd (by decide)]; exact hg, by rw [sp_other hl hd (by decide) (.inr (by decide))]; exact h.2.2.2⟩
def le_T_api_Header_Fields : Lens T_api_Header (List Int) where
  off := 2
  get := T_api_Header.f_Fields
  set b g := { b with f_Fields := g }
  inb := by decide
  get_rep h := h.2.2.2
  set_rep h hg := by
    have hl := h.1
    have hd := Rp.len hg
    exact ⟨sp_len hl hd (by decide), by rw [sp_other hl hd (by decide) (.inl (by decide))]; exact h.2.1, by rw [sp_other hl hd (by decide) (.inl (by decide))]; exact h.2.2.1, by rw [sp_same hl hd (by decide)]; exact hg⟩
instance : Zc T_api_Header := ⟨Zc.cells Int ++ Zc.cells ByteArray ++ Zc.cells (List Int), fun A W => ⟨by rfl, Zc.ok (α := Int) A W, Zc.ok (α := ByteArray) A W, Zc.ok (α := List Int) A W⟩⟩
structure T_api_Value where
  f_Hi : BitVec 64
  f_Lo : BitVec 64
  deriving DecidableEq, Inhabited
instance : Rp T_api_Value where
  size := 2
  agg := true
  rep A W cs x := cs.length = 2 ∧ Rp.rep A W ((cs.drop 0).take (Rp.size (BitVec 64))) x.f_Hi ∧ Rp.rep A W ((cs.drop 1).take (Rp.size (BitVec 64))) x.f_Lo
  len h := h.1
  one h := by
    intro u hu
    have h0 := mem_cut (o := 0) (s := Rp.size (BitVec 64)) (by simpa using hu)
    rcases h0 with h1 | h0
    · exact Rp.one h.2.1 u h1
    have h0 := mem_cut (s := Rp.size (BitVec 64)) h0
    rcases h0 with h1 | h0
    · exact Rp.one h.2.2 u h1
    exact mem_end h.1 (by rfl) h0
  flat h := by cases h
  mono e h := ⟨h.1, Rp.mono e h.2.1, Rp.mono e h.2.2⟩
def le_T_api_Value_Hi : Lens T_api_Value (BitVec 64) where
  off := 0
  get := T_api_Value.f_Hi
  set b g := { b with f_Hi := g }
  inb := by decide
  get_rep h := h.2.1
  set_rep h hg := by
    have hl := h.1
    have hd := Rp.len hg
    exact ⟨sp_len hl hd (by decide), by rw [sp_same hl hd (by decide)]; exact hg, by rw [sp_other hl hd (by decide) (.inr (by decide))]; exact h.2.2⟩
def le_T_api_Value_Lo : Lens T_api_Value (BitVec 64) where
  off := 1
  get := T_api_Value.f_Lo
  set b g := { b with f_Lo := g }
  inb := by decide
  get_rep h := h.2.2
  set_rep h hg := by
    have hl := h.1
    have hd := Rp.len hg
    exact ⟨sp_len hl hd (by decide), by rw [sp_other hl hd (by decide) (.inl (by decide))]; exact h.2.1, by rw [sp_same hl hd (by decide)]; exact hg⟩
instance : Zc T_api_Value := ⟨Zc.cells (BitVec 64) ++ Zc.cells (BitVec 64), fun A W => ⟨by rfl, Zc.ok (α := BitVec 64) A W, Zc.ok (α := BitVec 64) A W⟩⟩
structure T_api_Case where
  f_Value : T_api_Value
  f_Mask : T_api_Value
  f_Next : Int
  deriving DecidableEq, Inhabited
instance : Rp T_api_Case where
  size := 5
  agg := true
  rep A W cs x := cs.length = 5 ∧ Rp.rep A W ((cs.drop 0).take (Rp.size T_api_Value)) x.f_Value ∧ Rp.rep A W ((cs.drop 2).take (Rp.size T_api_Value)) x.f_Mask ∧ Rp.rep A W ((cs.drop 4).take (Rp.size Int)) x.f_Next
  len h := h.1
  one h := by
    intro u hu
    have h0 := mem_cut (o := 0) (s := Rp.size T_api_Value) (by simpa using hu)
    rcases h0 with h1 | h0
    · exact Rp.one h.2.1 u h1
    have h0 := mem_cut (s := Rp.size T_api_Value) h0
    rcases h0 with h1 | h0
    · exact Rp.one h.2.2.1 u h1
    have h0 := mem_cut (s := Rp.size Int) h0
    rcases h0 with h1 | h0
    · exact Rp.one h.2.2.2 u h1
    exact mem_end h.1 (by rfl) h0
  flat h := by cases h
  mono e h := ⟨h.1, Rp.mono e h.2.1, Rp.mono e h.2.2.1, Rp.mono e h.2.2.2⟩
def le_T_api_Case_Value : Lens T_api_Case T_api_Value where
  off := 0
  get := T_api_Case.f_Value
  set b g := { b with f_Value := g }
  inb := by decide
  get_rep h := h.2.1
  set_rep h hg := by
    have hl := h.1
    have hd := Rp.len hg
    exact ⟨sp_len hl hd (by decide), by rw [sp_same hl hd (by decide)]; exact hg, by rw [sp_other hl hd (by decide) (.inr (by decide))]; exact h.2.2.1, by rw [sp_other hl hd (by decide) (.inr (by decide))]; exact h.2.2.2⟩
def le_T_api_Case_Mask : Lens T_api_Case T_api_Value where
  off := 2
  get := T_api_Case.f_Mask
  set b g := { b with f_Mask := g }
  inb := by decide
  get_rep h := h.2.2.1
  set_rep h hg := by
    have hl := h.1
    have hd := Rp.len hg
    exact ⟨sp_len hl hd (by decide), by rw [sp_other hl hd (by decide) (.inl (by decide))]; exact h.2.1, by rw [sp_same hl hd (by decide)]; exact hg, by rw [sp_other hl hd (by decide) (.inr (by decide))]; exact h.2.2.2⟩
def le_T_api_Case_Next : Lens T_api_Case Int where
  off := 4
  get := T_api_Case.f_Next
  set b g := { b with f_Next := g }
  inb := by decide
  get_rep h := h.2.2.2
  set_rep h hg := by
    have hl := h.1
    have hd := Rp.len hg
    exact ⟨sp_len hl hd (by decide), by rw [sp_other hl hd (by decide) (.inl (by decide))]; exact h.2.1, by rw [sp_other hl hd (by decide) (.inl (by decide))]; exact h.2.2.1, by rw [sp_same hl hd (by decide)]; exact hg⟩
instance : Zc T_api_Case := ⟨Zc.cells T_api_Value ++ Zc.cells T_api_Value ++ Zc.cells Int, fun A W => ⟨by rfl, Zc.ok (α := T_api_Value) A W, Zc.ok (α := T_api_Value) A W, Zc.ok (α := Int) A W⟩⟩
structure T_api_State where
  f_ID : Int
  f_Header : Int
  f_Select : Int
  f_Cases : List T_api_Case
  f_Default : Int
  deriving DecidableEq, Inhabited
instance : Rp T_api_State where
  size := 5
  agg := true
  rep A W cs x := cs.length = 5 ∧ Rp.rep A W ((cs.drop 0).take (Rp.size Int)) x.f_ID ∧ Rp.rep A W ((cs.drop 1).take (Rp.size Int)) x.f_Header ∧ Rp.rep A W ((cs.drop 2).take (Rp.size Int)) x.f_Select ∧ Rp.rep A W ((cs.drop 3).take (Rp.size (List T_api_Case))) x.f_Cases ∧ Rp.rep A W ((cs.drop 4).take (Rp.size Int)) x.f_Default
  len h := h.1
  one h := by
    intro u hu
    have h0 := mem_cut (o := 0) (s := Rp.size Int) (by simpa using hu)
    rcases h0 with h1 | h0
    · exact Rp.one h.2.1 u h1
    have h0 := mem_cut (s := Rp.size Int) h0
    rcases h0 with h1 | h0
    · exact Rp.one h.2.2.1 u h1
    have h0 := mem_cut (s := Rp.size Int) h0
    rcases h0 with h1 | h0
    · exact Rp.one h.2.2.2.1 u h1
    have h0 := mem_cut (s := Rp.size (List T_api_Case)) h0
    rcases h0 with h1 | h0
    · exact Rp.one h.2.2.2.2.1 u h1
    have h0 := mem_cut (s := Rp.size Int) h0
    rcases h0 with h1 | h0
    · exact Rp.one h.2.2.2.2.2 u h1
    exact mem_end h.1 (by rfl) h0
  flat h := by cases h
  mono e h := ⟨h.1, Rp.mono e h.2.1, Rp.mono e h.2.2.1, Rp.mono e h.2.2.2.1, Rp.mono e h.2.2.2.2.1, Rp.mono e h.2.2.2.2.2⟩
def le_T_api_State_ID : Lens T_api_State Int where
  off := 0
  get := T_api_State.f_ID
  set b g := { b with f_ID := g }
  inb := by decide
  get_rep h := h.2.1
  set_rep h hg := by
    have hl := h.1
    have hd := Rp.len hg
    exact ⟨sp_len hl hd (by decide), by rw [sp_same hl hd (by decide)]; exact hg, by rw [sp_other hl hd (by decide) (.inr (by decide))]; exact h.2.2.1, by rw [sp_other hl hd (by decide) (.inr (by decide))]; exact h.2.2.2.1, by rw [sp_other hl hd (by decide) (.inr (by decide))]; exact h.2.2.2.2.1, by rw [sp_other hl hd (by decide) (.inr (by decide))]; exact h.2.2.2.2.2⟩
def le_T_api_State_Header : Lens T_api_State Int where
  off := 1
  get := T_api_State.f_Header
  set b g := { b with f_Header := g }
  inb := by decide
  get_rep h := h.2.2.1
  set_rep h hg := by
    have hl := h.1
    have hd := Rp.len hg
    exact ⟨sp_len hl hd (by decide), by rw [sp_other hl hd (by decide) (.inl (by decide))]; exact h.2.1, by rw [sp_same hl hd (by decide)]; exact hg, by rw [sp_other hl hd (by decide) (.inr (by decide))]; exact h.2.2.2.1, by rw [sp_other hl hd (by decide) (.inr (by decide))]; exact h.2.2.2.2.1, by rw [sp_other hl hd (by decide) (.inr (by decide))]; exact h.2.2.2.2.2⟩
def le_T_api_State_Select : Lens T_api_State Int where
  off := 2
  get := T_api_State.f_Select
  set b g := { b with f_Select := g }
  inb := by decide
  get_rep h := h.2.2.2.1
  set_rep h hg := by
    have hl := h.1
    have hd := Rp.len hg
    exact ⟨sp_len hl hd (by decide), by rw [sp_other hl hd (by decide) (.inl (by decide))]; exact h.2.1, by rw [sp_other hl hd (by decide) (.inl (by decide))]; exact h.2.2.1, by rw [sp_same hl hd (by decide)]; exact hg, by rw [sp_other hl hd (by decide) (.inr (by decide))]; exact h.2.2.2.2.1, by rw [sp_other hl hd (by decide) (.inr (by decide))]; exact h.2.2.2.2.2⟩
def le_T_api_State_Cases : Lens T_api_State (List T_api_Case) where
  off := 3
  get := T_api_State.f_Cases
  set b g := { b with f_Cases := g }
  inb := by decide
  get_rep h := h.2.2.2.2.1
  set_rep h hg := by
    have hl := h.1
    have hd := Rp.len hg
    exact ⟨sp_len hl hd (by decide), by rw [sp_other hl hd (by decide) (.inl (by decide))]; exact h.2.1, by rw [sp_other hl hd (by decide) (.inl (by decide))]; exact h.2.2.1, by rw [sp_other hl hd (by decide) (.inl (by decide))]; exact h.2.2.2.1, by rw [sp_same hl hd (by decide)]; exact hg, by rw [sp_other hl hd (by decide) (.inr (by decide))]; exact h.2.2.2.2.2⟩
def le_T_api_State_Default : Lens T_api_State Int where
  off := 4
  get := T_api_State.f_Default
  set b g := { b with f_Default := g }
  inb := by decide
  get_rep h := h.2.2.2.2.2
  set_rep h hg := by
    have hl := h.1
    have hd := Rp.len hg
    exact ⟨sp_len hl hd (by decide), by rw [sp_other hl hd (by decide) (.inl (by decide))]; exact h.2.1, by rw [sp_other hl hd (by decide) (.inl (by decide))]; exact h.2.2.1, by rw [sp_other hl hd (by decide) (.inl (by decide))]; exact h.2.2.2.1, by rw [sp_other hl hd (by decide) (.inl (by decide))]; exact h.2.2.2.2.1, by rw [sp_same hl hd (by decide)]; exact hg⟩
instance : Zc T_api_State := ⟨Zc.cells Int ++ Zc.cells Int ++ Zc.cells Int ++ Zc.cells (List T_api_Case) ++ Zc.cells Int, fun A W => ⟨by rfl, Zc.ok (α := Int) A W, Zc.ok (α := Int) A W, Zc.ok (α := Int) A W, Zc.ok (α := List T_api_Case) A W, Zc.ok (α := Int) A W⟩⟩
structure T_api_Param where
  f_Name : ByteArray
  f_Bits : Int
  deriving DecidableEq, Inhabited
instance : Rp T_api_Param where
  size := 2
  agg := true
  rep A W cs x := cs.length = 2 ∧ Rp.rep A W ((cs.drop 0).take (Rp.size ByteArray)) x.f_Name ∧ Rp.rep A W ((cs.drop 1).take (Rp.size Int)) x.f_Bits
  len h := h.1
  one h := by
    intro u hu
    have h0 := mem_cut (o := 0) (s := Rp.size ByteArray) (by simpa using hu)
    rcases h0 with h1 | h0
    · exact Rp.one h.2.1 u h1
    have h0 := mem_cut (s := Rp.size Int) h0
    rcases h0 with h1 | h0
    · exact Rp.one h.2.2 u h1
    exact mem_end h.1 (by rfl) h0
  flat h := by cases h
  mono e h := ⟨h.1, Rp.mono e h.2.1, Rp.mono e h.2.2⟩
def le_T_api_Param_Name : Lens T_api_Param ByteArray where
  off := 0
  get := T_api_Param.f_Name
  set b g := { b with f_Name := g }
  inb := by decide
  get_rep h := h.2.1
  set_rep h hg := by
    have hl := h.1
    have hd := Rp.len hg
    exact ⟨sp_len hl hd (by decide), by rw [sp_same hl hd (by decide)]; exact hg, by rw [sp_other hl hd (by decide) (.inr (by decide))]; exact h.2.2⟩
def le_T_api_Param_Bits : Lens T_api_Param Int where
  off := 1
  get := T_api_Param.f_Bits
  set b g := { b with f_Bits := g }
  inb := by decide
  get_rep h := h.2.2
  set_rep h hg := by
    have hl := h.1
    have hd := Rp.len hg
    exact ⟨sp_len hl hd (by decide), by rw [sp_other hl hd (by decide) (.inl (by decide))]; exact h.2.1, by rw [sp_same hl hd (by decide)]; exact hg⟩
instance : Zc T_api_Param := ⟨Zc.cells ByteArray ++ Zc.cells Int, fun A W => ⟨by rfl, Zc.ok (α := ByteArray) A W, Zc.ok (α := Int) A W⟩⟩
structure T_api_Operand where
  f_Kind : Int
  f_N : Int
  f_Value : T_api_Value
  deriving DecidableEq, Inhabited
instance : Rp T_api_Operand where
  size := 4
  agg := true
  rep A W cs x := cs.length = 4 ∧ Rp.rep A W ((cs.drop 0).take (Rp.size Int)) x.f_Kind ∧ Rp.rep A W ((cs.drop 1).take (Rp.size Int)) x.f_N ∧ Rp.rep A W ((cs.drop 2).take (Rp.size T_api_Value)) x.f_Value
  len h := h.1
  one h := by
    intro u hu
    have h0 := mem_cut (o := 0) (s := Rp.size Int) (by simpa using hu)
    rcases h0 with h1 | h0
    · exact Rp.one h.2.1 u h1
    have h0 := mem_cut (s := Rp.size Int) h0
    rcases h0 with h1 | h0
    · exact Rp.one h.2.2.1 u h1
    have h0 := mem_cut (s := Rp.size T_api_Value) h0
    rcases h0 with h1 | h0
    · exact Rp.one h.2.2.2 u h1
    exact mem_end h.1 (by rfl) h0
  flat h := by cases h
  mono e h := ⟨h.1, Rp.mono e h.2.1, Rp.mono e h.2.2.1, Rp.mono e h.2.2.2⟩
def le_T_api_Operand_Kind : Lens T_api_Operand Int where
  off := 0
  get := T_api_Operand.f_Kind
  set b g := { b with f_Kind := g }
  inb := by decide
  get_rep h := h.2.1
  set_rep h hg := by
    have hl := h.1
    have hd := Rp.len hg
    exact ⟨sp_len hl hd (by decide), by rw [sp_same hl hd (by decide)]; exact hg, by rw [sp_other hl hd (by decide) (.inr (by decide))]; exact h.2.2.1, by rw [sp_other hl hd (by decide) (.inr (by decide))]; exact h.2.2.2⟩
def le_T_api_Operand_N : Lens T_api_Operand Int where
  off := 1
  get := T_api_Operand.f_N
  set b g := { b with f_N := g }
  inb := by decide
  get_rep h := h.2.2.1
  set_rep h hg := by
    have hl := h.1
    have hd := Rp.len hg
    exact ⟨sp_len hl hd (by decide), by rw [sp_other hl hd (by decide) (.inl (by decide))]; exact h.2.1, by rw [sp_same hl hd (by decide)]; exact hg, by rw [sp_other hl hd (by decide) (.inr (by decide))]; exact h.2.2.2⟩
def le_T_api_Operand_Value : Lens T_api_Operand T_api_Value where
  off := 2
  get := T_api_Operand.f_Value
  set b g := { b with f_Value := g }
  inb := by decide
  get_rep h := h.2.2.2
  set_rep h hg := by
    have hl := h.1
    have hd := Rp.len hg
    exact ⟨sp_len hl hd (by decide), by rw [sp_other hl hd (by decide) (.inl (by decide))]; exact h.2.1, by rw [sp_other hl hd (by decide) (.inl (by decide))]; exact h.2.2.1, by rw [sp_same hl hd (by decide)]; exact hg⟩
instance : Zc T_api_Operand := ⟨Zc.cells Int ++ Zc.cells Int ++ Zc.cells T_api_Value, fun A W => ⟨by rfl, Zc.ok (α := Int) A W, Zc.ok (α := Int) A W, Zc.ok (α := T_api_Value) A W⟩⟩
structure T_api_Prim where
  f_Op : Int
  f_Dst : Int
  f_Src : T_api_Operand
  deriving DecidableEq, Inhabited
instance : Rp T_api_Prim where
  size := 6
  agg := true
  rep A W cs x := cs.length = 6 ∧ Rp.rep A W ((cs.drop 0).take (Rp.size Int)) x.f_Op ∧ Rp.rep A W ((cs.drop 1).take (Rp.size Int)) x.f_Dst ∧ Rp.rep A W ((cs.drop 2).take (Rp.size T_api_Operand)) x.f_Src
  len h := h.1
  one h := by
    intro u hu
    have h0 := mem_cut (o := 0) (s := Rp.size Int) (by simpa using hu)
    rcases h0 with h1 | h0
    · exact Rp.one h.2.1 u h1
    have h0 := mem_cut (s := Rp.size Int) h0
    rcases h0 with h1 | h0
    · exact Rp.one h.2.2.1 u h1
    have h0 := mem_cut (s := Rp.size T_api_Operand) h0
    rcases h0 with h1 | h0
    · exact Rp.one h.2.2.2 u h1
    exact mem_end h.1 (by rfl) h0
  flat h := by cases h
  mono e h := ⟨h.1, Rp.mono e h.2.1, Rp.mono e h.2.2.1, Rp.mono e h.2.2.2⟩
def le_T_api_Prim_Op : Lens T_api_Prim Int where
  off := 0
  get := T_api_Prim.f_Op
  set b g := { b with f_Op := g }
  inb := by decide
  get_rep h := h.2.1
  set_rep h hg := by
    have hl := h.1
    have hd := Rp.len hg
    exact ⟨sp_len hl hd (by decide), by rw [sp_same hl hd (by decide)]; exact hg, by rw [sp_other hl hd (by decide) (.inr (by decide))]; exact h.2.2.1, by rw [sp_other hl hd (by decide) (.inr (by decide))]; exact h.2.2.2⟩
def le_T_api_Prim_Dst : Lens T_api_Prim Int where
  off := 1
  get := T_api_Prim.f_Dst
  set b g := { b with f_Dst := g }
  inb := by decide
  get_rep h := h.2.2.1
  set_rep h hg := by
    have hl := h.1
    have hd := Rp.len hg
    exact ⟨sp_len hl hd (by decide), by rw [sp_other hl hd (by decide) (.inl (by decide))]; exact h.2.1, by rw [sp_same hl hd (by decide)]; exact hg, by rw [sp_other hl hd (by decide) (.inr (by decide))]; exact h.2.2.2⟩
def le_T_api_Prim_Src : Lens T_api_Prim T_api_Operand where
  off := 2
  get := T_api_Prim.f_Src
  set b g := { b with f_Src := g }
  inb := by decide
  get_rep h := h.2.2.2
  set_rep h hg := by
    have hl := h.1
    have hd := Rp.len hg
    exact ⟨sp_len hl hd (by decide), by rw [sp_other hl hd (by decide) (.inl (by decide))]; exact h.2.1, by rw [sp_other hl hd (by decide) (.inl (by decide))]; exact h.2.2.1, by rw [sp_same hl hd (by decide)]; exact hg⟩
instance : Zc T_api_Prim := ⟨Zc.cells Int ++ Zc.cells Int ++ Zc.cells T_api_Operand, fun A W => ⟨by rfl, Zc.ok (α := Int) A W, Zc.ok (α := Int) A W, Zc.ok (α := T_api_Operand) A W⟩⟩
structure T_api_Action where
  f_ID : Int
  f_Name : ByteArray
  f_Params : List T_api_Param
  f_Body : List T_api_Prim
  f_Restriction : ByteArray
  deriving DecidableEq, Inhabited
instance : Rp T_api_Action where
  size := 5
  agg := true
  rep A W cs x := cs.length = 5 ∧ Rp.rep A W ((cs.drop 0).take (Rp.size Int)) x.f_ID ∧ Rp.rep A W ((cs.drop 1).take (Rp.size ByteArray)) x.f_Name ∧ Rp.rep A W ((cs.drop 2).take (Rp.size (List T_api_Param))) x.f_Params ∧ Rp.rep A W ((cs.drop 3).take (Rp.size (List T_api_Prim))) x.f_Body ∧ Rp.rep A W ((cs.drop 4).take (Rp.size ByteArray)) x.f_Restriction
  len h := h.1
  one h := by
    intro u hu
    have h0 := mem_cut (o := 0) (s := Rp.size Int) (by simpa using hu)
    rcases h0 with h1 | h0
    · exact Rp.one h.2.1 u h1
    have h0 := mem_cut (s := Rp.size ByteArray) h0
    rcases h0 with h1 | h0
    · exact Rp.one h.2.2.1 u h1
    have h0 := mem_cut (s := Rp.size (List T_api_Param)) h0
    rcases h0 with h1 | h0
    · exact Rp.one h.2.2.2.1 u h1
    have h0 := mem_cut (s := Rp.size (List T_api_Prim)) h0
    rcases h0 with h1 | h0
    · exact Rp.one h.2.2.2.2.1 u h1
    have h0 := mem_cut (s := Rp.size ByteArray) h0
    rcases h0 with h1 | h0
    · exact Rp.one h.2.2.2.2.2 u h1
    exact mem_end h.1 (by rfl) h0
  flat h := by cases h
  mono e h := ⟨h.1, Rp.mono e h.2.1, Rp.mono e h.2.2.1, Rp.mono e h.2.2.2.1, Rp.mono e h.2.2.2.2.1, Rp.mono e h.2.2.2.2.2⟩
def le_T_api_Action_ID : Lens T_api_Action Int where
  off := 0
  get := T_api_Action.f_ID
  set b g := { b with f_ID := g }
  inb := by decide
  get_rep h := h.2.1
  set_rep h hg := by
    have hl := h.1
    have hd := Rp.len hg
    exact ⟨sp_len hl hd (by decide), by rw [sp_same hl hd (by decide)]; exact hg, by rw [sp_other hl hd (by decide) (.inr (by decide))]; exact h.2.2.1, by rw [sp_other hl hd (by decide) (.inr (by decide))]; exact h.2.2.2.1, by rw [sp_other hl hd (by decide) (.inr (by decide))]; exact h.2.2.2.2.1, by rw [sp_other hl hd (by decide) (.inr (by decide))]; exact h.2.2.2.2.2⟩
def le_T_api_Action_Name : Lens T_api_Action ByteArray where
  off := 1
  get := T_api_Action.f_Name
  set b g := { b with f_Name := g }
  inb := by decide
  get_rep h := h.2.2.1
  set_rep h hg := by
    have hl := h.1
    have hd := Rp.len hg
    exact ⟨sp_len hl hd (by decide), by rw [sp_other hl hd (by decide) (.inl (by decide))]; exact h.2.1, by rw [sp_same hl hd (by decide)]; exact hg, by rw [sp_other hl hd (by decide) (.inr (by decide))]; exact h.2.2.2.1, by rw [sp_other hl hd (by decide) (.inr (by decide))]; exact h.2.2.2.2.1, by rw [sp_other hl hd (by decide) (.inr (by decide))]; exact h.2.2.2.2.2⟩
def le_T_api_Action_Params : Lens T_api_Action (List T_api_Param) where
  off := 2
  get := T_api_Action.f_Params
  set b g := { b with f_Params := g }
  inb := by decide
  get_rep h := h.2.2.2.1
  set_rep h hg := by
    have hl := h.1
    have hd := Rp.len hg
    exact ⟨sp_len hl hd (by decide), by rw [sp_other hl hd (by decide) (.inl (by decide))]; exact h.2.1, by rw [sp_other hl hd (by decide) (.inl (by decide))]; exact h.2.2.1, by rw [sp_same hl hd (by decide)]; exact hg, by rw [sp_other hl hd (by decide) (.inr (by decide))]; exact h.2.2.2.2.1, by rw [sp_other hl hd (by decide) (.inr (by decide))]; exact h.2.2.2.2.2⟩
def le_T_api_Action_Body : Lens T_api_Action (List T_api_Prim) where
  off := 3
  get := T_api_Action.f_Body
  set b g := { b with f_Body := g }
  inb := by decide
  get_rep h := h.2.2.2.2.1
  set_rep h hg := by
    have hl := h.1
    have hd := Rp.len hg
    exact ⟨sp_len hl hd (by decide), by rw [sp_other hl hd (by decide) (.inl (by decide))]; exact h.2.1, by rw [sp_other hl hd (by decide) (.inl (by decide))]; exact h.2.2.1, by rw [sp_other hl hd (by decide) (.inl (by decide))]; exact h.2.2.2.1, by rw [sp_same hl hd (by decide)]; exact hg, by rw [sp_other hl hd (by decide) (.inr (by decide))]; exact h.2.2.2.2.2⟩
def le_T_api_Action_Restriction : Lens T_api_Action ByteArray where
  off := 4
  get := T_api_Action.f_Restriction
  set b g := { b with f_Restriction := g }
  inb := by decide
  get_rep h := h.2.2.2.2.2
  set_rep h hg := by
    have hl := h.1
    have hd := Rp.len hg
    exact ⟨sp_len hl hd (by decide), by rw [sp_other hl hd (by decide) (.inl (by decide))]; exact h.2.1, by rw [sp_other hl hd (by decide) (.inl (by decide))]; exact h.2.2.1, by rw [sp_other hl hd (by decide) (.inl (by decide))]; exact h.2.2.2.1, by rw [sp_other hl hd (by decide) (.inl (by decide))]; exact h.2.2.2.2.1, by rw [sp_same hl hd (by decide)]; exact hg⟩
instance : Zc T_api_Action := ⟨Zc.cells Int ++ Zc.cells ByteArray ++ Zc.cells (List T_api_Param) ++ Zc.cells (List T_api_Prim) ++ Zc.cells ByteArray, fun A W => ⟨by rfl, Zc.ok (α := Int) A W, Zc.ok (α := ByteArray) A W, Zc.ok (α := List T_api_Param) A W, Zc.ok (α := List T_api_Prim) A W, Zc.ok (α := ByteArray) A W⟩⟩
structure T_api_Key where
  f_Name : ByteArray
  f_Field : Int
  f_Kind : Int
  deriving DecidableEq, Inhabited
instance : Rp T_api_Key where
  size := 3
  agg := true
  rep A W cs x := cs.length = 3 ∧ Rp.rep A W ((cs.drop 0).take (Rp.size ByteArray)) x.f_Name ∧ Rp.rep A W ((cs.drop 1).take (Rp.size Int)) x.f_Field ∧ Rp.rep A W ((cs.drop 2).take (Rp.size Int)) x.f_Kind
  len h := h.1
  one h := by
    intro u hu
    have h0 := mem_cut (o := 0) (s := Rp.size ByteArray) (by simpa using hu)
    rcases h0 with h1 | h0
    · exact Rp.one h.2.1 u h1
    have h0 := mem_cut (s := Rp.size Int) h0
    rcases h0 with h1 | h0
    · exact Rp.one h.2.2.1 u h1
    have h0 := mem_cut (s := Rp.size Int) h0
    rcases h0 with h1 | h0
    · exact Rp.one h.2.2.2 u h1
    exact mem_end h.1 (by rfl) h0
  flat h := by cases h
  mono e h := ⟨h.1, Rp.mono e h.2.1, Rp.mono e h.2.2.1, Rp.mono e h.2.2.2⟩
def le_T_api_Key_Name : Lens T_api_Key ByteArray where
  off := 0
  get := T_api_Key.f_Name
  set b g := { b with f_Name := g }
  inb := by decide
  get_rep h := h.2.1
  set_rep h hg := by
    have hl := h.1
    have hd := Rp.len hg
    exact ⟨sp_len hl hd (by decide), by rw [sp_same hl hd (by decide)]; exact hg, by rw [sp_other hl hd (by decide) (.inr (by decide))]; exact h.2.2.1, by rw [sp_other hl hd (by decide) (.inr (by decide))]; exact h.2.2.2⟩
def le_T_api_Key_Field : Lens T_api_Key Int where
  off := 1
  get := T_api_Key.f_Field
  set b g := { b with f_Field := g }
  inb := by decide
  get_rep h := h.2.2.1
  set_rep h hg := by
    have hl := h.1
    have hd := Rp.len hg
    exact ⟨sp_len hl hd (by decide), by rw [sp_other hl hd (by decide) (.inl (by decide))]; exact h.2.1, by rw [sp_same hl hd (by decide)]; exact hg, by rw [sp_other hl hd (by decide) (.inr (by decide))]; exact h.2.2.2⟩
def le_T_api_Key_Kind : Lens T_api_Key Int where
  off := 2
  get := T_api_Key.f_Kind
  set b g := { b with f_Kind := g }
  inb := by decide
  get_rep h := h.2.2.2
  set_rep h hg := by
    have hl := h.1
    have hd := Rp.len hg
    exact ⟨sp_len hl hd (by decide), by rw [sp_other hl hd (by decide) (.inl (by decide))]; exact h.2.1, by rw [sp_other hl hd (by decide) (.inl (by decide))]; exact h.2.2.1, by rw [sp_same hl hd (by decide)]; exact hg⟩
instance : Zc T_api_Key := ⟨Zc.cells ByteArray ++ Zc.cells Int ++ Zc.cells Int, fun A W => ⟨by rfl, Zc.ok (α := ByteArray) A W, Zc.ok (α := Int) A W, Zc.ok (α := Int) A W⟩⟩
structure T_api_Table where
  f_ID : Int
  f_Name : ByteArray
  f_Keys : List T_api_Key
  f_Actions : List Int
  f_Default : Int
  f_DefaultArgs : List T_api_Value
  f_Size : Int
  f_Restriction : ByteArray
  deriving DecidableEq, Inhabited
instance : Rp T_api_Table where
  size := 8
  agg := true
  rep A W cs x := cs.length = 8 ∧ Rp.rep A W ((cs.drop 0).take (Rp.size Int)) x.f_ID ∧ Rp.rep A W ((cs.drop 1).take (Rp.size ByteArray)) x.f_Name ∧ Rp.rep A W ((cs.drop 2).take (Rp.size (List T_api_Key))) x.f_Keys ∧ Rp.rep A W ((cs.drop 3).take (Rp.size (List Int))) x.f_Actions ∧ Rp.rep A W ((cs.drop 4).take (Rp.size Int)) x.f_Default ∧ Rp.rep A W ((cs.drop 5).take (Rp.size (List T_api_Value))) x.f_DefaultArgs ∧ Rp.rep A W ((cs.drop 6).take (Rp.size Int)) x.f_Size ∧ Rp.rep A W ((cs.drop 7).take (Rp.size ByteArray)) x.f_Restriction
  len h := h.1
  one h := by
    intro u hu
    have h0 := mem_cut (o := 0) (s := Rp.size Int) (by simpa using hu)
    rcases h0 with h1 | h0
    · exact Rp.one h.2.1 u h1
    have h0 := mem_cut (s := Rp.size ByteArray) h0
    rcases h0 with h1 | h0
    · exact Rp.one h.2.2.1 u h1
    have h0 := mem_cut (s := Rp.size (List T_api_Key)) h0
    rcases h0 with h1 | h0
    · exact Rp.one h.2.2.2.1 u h1
    have h0 := mem_cut (s := Rp.size (List Int)) h0
    rcases h0 with h1 | h0
    · exact Rp.one h.2.2.2.2.1 u h1
    have h0 := mem_cut (s := Rp.size Int) h0
    rcases h0 with h1 | h0
    · exact Rp.one h.2.2.2.2.2.1 u h1
    have h0 := mem_cut (s := Rp.size (List T_api_Value)) h0
    rcases h0 with h1 | h0
    · exact Rp.one h.2.2.2.2.2.2.1 u h1
    have h0 := mem_cut (s := Rp.size Int) h0
    rcases h0 with h1 | h0
    · exact Rp.one h.2.2.2.2.2.2.2.1 u h1
    have h0 := mem_cut (s := Rp.size ByteArray) h0
    rcases h0 with h1 | h0
    · exact Rp.one h.2.2.2.2.2.2.2.2 u h1
    exact mem_end h.1 (by rfl) h0
  flat h := by cases h
  mono e h := ⟨h.1, Rp.mono e h.2.1, Rp.mono e h.2.2.1, Rp.mono e h.2.2.2.1, Rp.mono e h.2.2.2.2.1, Rp.mono e h.2.2.2.2.2.1, Rp.mono e h.2.2.2.2.2.2.1, Rp.mono e h.2.2.2.2.2.2.2.1, Rp.mono e h.2.2.2.2.2.2.2.2⟩
def le_T_api_Table_ID : Lens T_api_Table Int where
  off := 0
  get := T_api_Table.f_ID
  set b g := { b with f_ID := g }
  inb := by decide
  get_rep h := h.2.1
  set_rep h hg := by
    have hl := h.1
    have hd := Rp.len hg
    exact ⟨sp_len hl hd (by decide), by rw [sp_same hl hd (by decide)]; exact hg, by rw [sp_other hl hd (by decide) (.inr (by decide))]; exact h.2.2.1, by rw [sp_other hl hd (by decide) (.inr (by decide))]; exact h.2.2.2.1, by rw [sp_other hl hd (by decide) (.inr (by decide))]; exact h.2.2.2.2.1, by rw [sp_other hl hd (by decide) (.inr (by decide))]; exact h.2.2.2.2.2.1, by rw [sp_other hl hd (by decide) (.inr (by decide))]; exact h.2.2.2.2.2.2.1, by rw [sp_other hl hd (by decide) (.inr (by decide))]; exact h.2.2.2.2.2.2.2.1, by rw [sp_other hl hd (by decide) (.inr (by decide))]; exact h.2.2.2.2.2.2.2.2⟩
def le_T_api_Table_Name : Lens T_api_Table ByteArray where
  off := 1
  get := T_api_Table.f_Name
  set b g := { b with f_Name := g }
  inb := by decide
  get_rep h := h.2.2.1
  set_rep h hg := by
    have hl := h.1
    have hd := Rp.len hg
    exact ⟨sp_len hl hd (by decide), by rw [sp_other hl hd (by decide) (.inl (by decide))]; exact h.2.1, by rw [sp_same hl hd (by decide)]; exact hg, by rw [sp_other hl hd (by decide) (.inr (by decide))]; exact h.2.2.2.1, by rw [sp_other hl hd (by decide) (.inr (by decide))]; exact h.2.2.2.2.1, by rw [sp_other hl hd (by decide) (.inr (by decide))]; exact h.2.2.2.2.2.1, by rw [sp_other hl hd (by decide) (.inr (by decide))]; exact h.2.2.2.2.2.2.1, by rw [sp_other hl hd (by decide) (.inr (by decide))]; exact h.2.2.2.2.2.2.2.1, by rw [sp_other hl hd (by decide) (.inr (by decide))]; exact h.2.2.2.2.2.2.2.2⟩
def le_T_api_Table_Keys : Lens T_api_Table (List T_api_Key) where
  off := 2
  get := T_api_Table.f_Keys
  set b g := { b with f_Keys := g }
  inb := by decide
  get_rep h := h.2.2.2.1
  set_rep h hg := by
    have hl := h.1
    have hd := Rp.len hg
    exact ⟨sp_len hl hd (by decide), by rw [sp_other hl hd (by decide) (.inl (by decide))]; exact h.2.1, by rw [sp_other hl hd (by decide) (.inl (by decide))]; exact h.2.2.1, by rw [sp_same hl hd (by decide)]; exact hg, by rw [sp_other hl hd (by decide) (.inr (by decide))]; exact h.2.2.2.2.1, by rw [sp_other hl hd (by decide) (.inr (by decide))]; exact h.2.2.2.2.2.1, by rw [sp_other hl hd (by decide) (.inr (by decide))]; exact h.2.2.2.2.2.2.1, by rw [sp_other hl hd (by decide) (.inr (by decide))]; exact h.2.2.2.2.2.2.2.1, by rw [sp_other hl hd (by decide) (.inr (by decide))]; exact h.2.2.2.2.2.2.2.2⟩
def le_T_api_Table_Actions : Lens T_api_Table (List Int) where
  off := 3
  get := T_api_Table.f_Actions
  set b g := { b with f_Actions := g }
  inb := by decide
  get_rep h := h.2.2.2.2.1
  set_rep h hg := by
    have hl := h.1
    have hd := Rp.len hg
    exact ⟨sp_len hl hd (by decide), by rw [sp_other hl hd (by decide) (.inl (by decide))]; exact h.2.1, by rw [sp_other hl hd (by decide) (.inl (by decide))]; exact h.2.2.1, by rw [sp_other hl hd (by decide) (.inl (by decide))]; exact h.2.2.2.1, by rw [sp_same hl hd (by decide)]; exact hg, by rw [sp_other hl hd (by decide) (.inr (by decide))]; exact h.2.2.2.2.2.1, by rw [sp_other hl hd (by decide) (.inr (by decide))]; exact h.2.2.2.2.2.2.1, by rw [sp_other hl hd (by decide) (.inr (by decide))]; exact h.2.2.2.2.2.2.2.1, by rw [sp_other hl hd (by decide) (.inr (by decide))]; exact h.2.2.2.2.2.2.2.2⟩
def le_T_api_Table_Default : Lens T_api_Table Int where
  off := 4
  get := T_api_Table.f_Default
  set b g := { b with f_Default := g }
  inb := by decide
  get_rep h := h.2.2.2.2.2.1
  set_rep h hg := by
    have hl := h.1
    have hd := Rp.len hg
    exact ⟨sp_len hl hd (by decide), by rw [sp_other hl hd (by decide) (.inl (by decide))]; exact h.2.1, by rw [sp_other hl hd (by decide) (.inl (by decide))]; exact h.2.2.1, by rw [sp_other hl hd (by decide) (.inl (by decide))]; exact h.2.2.2.1, by rw [sp_other hl hd (by decide) (.inl (by decide))]; exact h.2.2.2.2.1, by rw [sp_same hl hd (by decide)]; exact hg, by rw [sp_other hl hd (by decide) (.inr (by decide))]; exact h.2.2.2.2.2.2.1, by rw [sp_other hl hd (by decide) (.inr (by decide))]; exact h.2.2.2.2.2.2.2.1, by rw [sp_other hl hd (by decide) (.inr (by decide))]; exact h.2.2.2.2.2.2.2.2⟩
def le_T_api_Table_DefaultArgs : Lens T_api_Table (List T_api_Value) where
  off := 5
  get := T_api_Table.f_DefaultArgs
  set b g := { b with f_DefaultArgs := g }
  inb := by decide
  get_rep h := h.2.2.2.2.2.2.1
  set_rep h hg := by
    have hl := h.1
    have hd := Rp.len hg
    exact ⟨sp_len hl hd (by decide), by rw [sp_other hl hd (by decide) (.inl (by decide))]; exact h.2.1, by rw [sp_other hl hd (by decide) (.inl (by decide))]; exact h.2.2.1, by rw [sp_other hl hd (by decide) (.inl (by decide))]; exact h.2.2.2.1, by rw [sp_other hl hd (by decide) (.inl (by decide))]; exact h.2.2.2.2.1, by rw [sp_other hl hd (by decide) (.inl (by decide))]; exact h.2.2.2.2.2.1, by rw [sp_same hl hd (by decide)]; exact hg, by rw [sp_other hl hd (by decide) (.inr (by decide))]; exact h.2.2.2.2.2.2.2.1, by rw [sp_other hl hd (by decide) (.inr (by decide))]; exact h.2.2.2.2.2.2.2.2⟩
def le_T_api_Table_Size : Lens T_api_Table Int where
  off := 6
  get := T_api_Table.f_Size
  set b g := { b with f_Size := g }
  inb := by decide
  get_rep h := h.2.2.2.2.2.2.2.1
  set_rep h hg := by
    have hl := h.1
    have hd := Rp.len hg
    exact ⟨sp_len hl hd (by decide), by rw [sp_other hl hd (by decide) (.inl (by decide))]; exact h.2.1, by rw [sp_other hl hd (by decide) (.inl (by decide))]; exact h.2.2.1, by rw [sp_other hl hd (by decide) (.inl (by decide))]; exact h.2.2.2.1, by rw [sp_other hl hd (by decide) (.inl (by decide))]; exact h.2.2.2.2.1, by rw [sp_other hl hd (by decide) (.inl (by decide))]; exact h.2.2.2.2.2.1, by rw [sp_other hl hd (by decide) (.inl (by decide))]; exact h.2.2.2.2.2.2.1, by rw [sp_same hl hd (by decide)]; exact hg, by rw [sp_other hl hd (by decide) (.inr (by decide))]; exact h.2.2.2.2.2.2.2.2⟩
def le_T_api_Table_Restriction : Lens T_api_Table ByteArray where
  off := 7
  get := T_api_Table.f_Restriction
  set b g := { b with f_Restriction := g }
  inb := by decide
  get_rep h := h.2.2.2.2.2.2.2.2
  set_rep h hg := by
    have hl := h.1
    have hd := Rp.len hg
    exact ⟨sp_len hl hd (by decide), by rw [sp_other hl hd (by decide) (.inl (by decide))]; exact h.2.1, by rw [sp_other hl hd (by decide) (.inl (by decide))]; exact h.2.2.1, by rw [sp_other hl hd (by decide) (.inl (by decide))]; exact h.2.2.2.1, by rw [sp_other hl hd (by decide) (.inl (by decide))]; exact h.2.2.2.2.1, by rw [sp_other hl hd (by decide) (.inl (by decide))]; exact h.2.2.2.2.2.1, by rw [sp_other hl hd (by decide) (.inl (by decide))]; exact h.2.2.2.2.2.2.1, by rw [sp_other hl hd (by decide) (.inl (by decide))]; exact h.2.2.2.2.2.2.2.1, by rw [sp_same hl hd (by decide)]; exact hg⟩
instance : Zc T_api_Table := ⟨Zc.cells Int ++ Zc.cells ByteArray ++ Zc.cells (List T_api_Key) ++ Zc.cells (List Int) ++ Zc.cells Int ++ Zc.cells (List T_api_Value) ++ Zc.cells Int ++ Zc.cells ByteArray, fun A W => ⟨by rfl, Zc.ok (α := Int) A W, Zc.ok (α := ByteArray) A W, Zc.ok (α := List T_api_Key) A W, Zc.ok (α := List Int) A W, Zc.ok (α := Int) A W, Zc.ok (α := List T_api_Value) A W, Zc.ok (α := Int) A W, Zc.ok (α := ByteArray) A W⟩⟩
structure T_api_Stage where
  f_Table : Int
  f_Header : Int
  deriving DecidableEq, Inhabited
instance : Rp T_api_Stage where
  size := 2
  agg := true
  rep A W cs x := cs.length = 2 ∧ Rp.rep A W ((cs.drop 0).take (Rp.size Int)) x.f_Table ∧ Rp.rep A W ((cs.drop 1).take (Rp.size Int)) x.f_Header
  len h := h.1
  one h := by
    intro u hu
    have h0 := mem_cut (o := 0) (s := Rp.size Int) (by simpa using hu)
    rcases h0 with h1 | h0
    · exact Rp.one h.2.1 u h1
    have h0 := mem_cut (s := Rp.size Int) h0
    rcases h0 with h1 | h0
    · exact Rp.one h.2.2 u h1
    exact mem_end h.1 (by rfl) h0
  flat h := by cases h
  mono e h := ⟨h.1, Rp.mono e h.2.1, Rp.mono e h.2.2⟩
def le_T_api_Stage_Table : Lens T_api_Stage Int where
  off := 0
  get := T_api_Stage.f_Table
  set b g := { b with f_Table := g }
  inb := by decide
  get_rep h := h.2.1
  set_rep h hg := by
    have hl := h.1
    have hd := Rp.len hg
    exact ⟨sp_len hl hd (by decide), by rw [sp_same hl hd (by decide)]; exact hg, by rw [sp_other hl hd (by decide) (.inr (by decide))]; exact h.2.2⟩
def le_T_api_Stage_Header : Lens T_api_Stage Int where
  off := 1
  get := T_api_Stage.f_Header
  set b g := { b with f_Header := g }
  inb := by decide
  get_rep h := h.2.2
  set_rep h hg := by
    have hl := h.1
    have hd := Rp.len hg
    exact ⟨sp_len hl hd (by decide), by rw [sp_other hl hd (by decide) (.inl (by decide))]; exact h.2.1, by rw [sp_same hl hd (by decide)]; exact hg⟩
instance : Zc T_api_Stage := ⟨Zc.cells Int ++ Zc.cells Int, fun A W => ⟨by rfl, Zc.ok (α := Int) A W, Zc.ok (α := Int) A W⟩⟩
structure T_api_Grant where
  f_Table : Int
  f_Read : Bool
  f_Write : Bool
  f_Keys : List Bool
  deriving DecidableEq, Inhabited
instance : Rp T_api_Grant where
  size := 4
  agg := true
  rep A W cs x := cs.length = 4 ∧ Rp.rep A W ((cs.drop 0).take (Rp.size Int)) x.f_Table ∧ Rp.rep A W ((cs.drop 1).take (Rp.size Bool)) x.f_Read ∧ Rp.rep A W ((cs.drop 2).take (Rp.size Bool)) x.f_Write ∧ Rp.rep A W ((cs.drop 3).take (Rp.size (List Bool))) x.f_Keys
  len h := h.1
  one h := by
    intro u hu
    have h0 := mem_cut (o := 0) (s := Rp.size Int) (by simpa using hu)
    rcases h0 with h1 | h0
    · exact Rp.one h.2.1 u h1
    have h0 := mem_cut (s := Rp.size Bool) h0
    rcases h0 with h1 | h0
    · exact Rp.one h.2.2.1 u h1
    have h0 := mem_cut (s := Rp.size Bool) h0
    rcases h0 with h1 | h0
    · exact Rp.one h.2.2.2.1 u h1
    have h0 := mem_cut (s := Rp.size (List Bool)) h0
    rcases h0 with h1 | h0
    · exact Rp.one h.2.2.2.2 u h1
    exact mem_end h.1 (by rfl) h0
  flat h := by cases h
  mono e h := ⟨h.1, Rp.mono e h.2.1, Rp.mono e h.2.2.1, Rp.mono e h.2.2.2.1, Rp.mono e h.2.2.2.2⟩
def le_T_api_Grant_Table : Lens T_api_Grant Int where
  off := 0
  get := T_api_Grant.f_Table
  set b g := { b with f_Table := g }
  inb := by decide
  get_rep h := h.2.1
  set_rep h hg := by
    have hl := h.1
    have hd := Rp.len hg
    exact ⟨sp_len hl hd (by decide), by rw [sp_same hl hd (by decide)]; exact hg, by rw [sp_other hl hd (by decide) (.inr (by decide))]; exact h.2.2.1, by rw [sp_other hl hd (by decide) (.inr (by decide))]; exact h.2.2.2.1, by rw [sp_other hl hd (by decide) (.inr (by decide))]; exact h.2.2.2.2⟩
def le_T_api_Grant_Read : Lens T_api_Grant Bool where
  off := 1
  get := T_api_Grant.f_Read
  set b g := { b with f_Read := g }
  inb := by decide
  get_rep h := h.2.2.1
  set_rep h hg := by
    have hl := h.1
    have hd := Rp.len hg
    exact ⟨sp_len hl hd (by decide), by rw [sp_other hl hd (by decide) (.inl (by decide))]; exact h.2.1, by rw [sp_same hl hd (by decide)]; exact hg, by rw [sp_other hl hd (by decide) (.inr (by decide))]; exact h.2.2.2.1, by rw [sp_other hl hd (by decide) (.inr (by decide))]; exact h.2.2.2.2⟩
def le_T_api_Grant_Write : Lens T_api_Grant Bool where
  off := 2
  get := T_api_Grant.f_Write
  set b g := { b with f_Write := g }
  inb := by decide
  get_rep h := h.2.2.2.1
  set_rep h hg := by
    have hl := h.1
    have hd := Rp.len hg
    exact ⟨sp_len hl hd (by decide), by rw [sp_other hl hd (by decide) (.inl (by decide))]; exact h.2.1, by rw [sp_other hl hd (by decide) (.inl (by decide))]; exact h.2.2.1, by rw [sp_same hl hd (by decide)]; exact hg, by rw [sp_other hl hd (by decide) (.inr (by decide))]; exact h.2.2.2.2⟩
def le_T_api_Grant_Keys : Lens T_api_Grant (List Bool) where
  off := 3
  get := T_api_Grant.f_Keys
  set b g := { b with f_Keys := g }
  inb := by decide
  get_rep h := h.2.2.2.2
  set_rep h hg := by
    have hl := h.1
    have hd := Rp.len hg
    exact ⟨sp_len hl hd (by decide), by rw [sp_other hl hd (by decide) (.inl (by decide))]; exact h.2.1, by rw [sp_other hl hd (by decide) (.inl (by decide))]; exact h.2.2.1, by rw [sp_other hl hd (by decide) (.inl (by decide))]; exact h.2.2.2.1, by rw [sp_same hl hd (by decide)]; exact hg⟩
instance : Zc T_api_Grant := ⟨Zc.cells Int ++ Zc.cells Bool ++ Zc.cells Bool ++ Zc.cells (List Bool), fun A W => ⟨by rfl, Zc.ok (α := Int) A W, Zc.ok (α := Bool) A W, Zc.ok (α := Bool) A W, Zc.ok (α := List Bool) A W⟩⟩
structure T_api_Role where
  f_ID : Int
  f_Name : ByteArray
  f_Grants : List T_api_Grant
  f_Actions : List Int
  f_Quota : Int
  f_Audit : Bool
  deriving DecidableEq, Inhabited
instance : Rp T_api_Role where
  size := 6
  agg := true
  rep A W cs x := cs.length = 6 ∧ Rp.rep A W ((cs.drop 0).take (Rp.size Int)) x.f_ID ∧ Rp.rep A W ((cs.drop 1).take (Rp.size ByteArray)) x.f_Name ∧ Rp.rep A W ((cs.drop 2).take (Rp.size (List T_api_Grant))) x.f_Grants ∧ Rp.rep A W ((cs.drop 3).take (Rp.size (List Int))) x.f_Actions ∧ Rp.rep A W ((cs.drop 4).take (Rp.size Int)) x.f_Quota ∧ Rp.rep A W ((cs.drop 5).take (Rp.size Bool)) x.f_Audit
  len h := h.1
  one h := by
    intro u hu
    have h0 := mem_cut (o := 0) (s := Rp.size Int) (by simpa using hu)
    rcases h0 with h1 | h0
    · exact Rp.one h.2.1 u h1
    have h0 := mem_cut (s := Rp.size ByteArray) h0
    rcases h0 with h1 | h0
    · exact Rp.one h.2.2.1 u h1
    have h0 := mem_cut (s := Rp.size (List T_api_Grant)) h0
    rcases h0 with h1 | h0
    · exact Rp.one h.2.2.2.1 u h1
    have h0 := mem_cut (s := Rp.size (List Int)) h0
    rcases h0 with h1 | h0
    · exact Rp.one h.2.2.2.2.1 u h1
    have h0 := mem_cut (s := Rp.size Int) h0
    rcases h0 with h1 | h0
    · exact Rp.one h.2.2.2.2.2.1 u h1
    have h0 := mem_cut (s := Rp.size Bool) h0
    rcases h0 with h1 | h0
    · exact Rp.one h.2.2.2.2.2.2 u h1
    exact mem_end h.1 (by rfl) h0
  flat h := by cases h
  mono e h := ⟨h.1, Rp.mono e h.2.1, Rp.mono e h.2.2.1, Rp.mono e h.2.2.2.1, Rp.mono e h.2.2.2.2.1, Rp.mono e h.2.2.2.2.2.1, Rp.mono e h.2.2.2.2.2.2⟩
def le_T_api_Role_ID : Lens T_api_Role Int where
  off := 0
  get := T_api_Role.f_ID
  set b g := { b with f_ID := g }
  inb := by decide
  get_rep h := h.2.1
  set_rep h hg := by
    have hl := h.1
    have hd := Rp.len hg
    exact ⟨sp_len hl hd (by decide), by rw [sp_same hl hd (by decide)]; exact hg, by rw [sp_other hl hd (by decide) (.inr (by decide))]; exact h.2.2.1, by rw [sp_other hl hd (by decide) (.inr (by decide))]; exact h.2.2.2.1, by rw [sp_other hl hd (by decide) (.inr (by decide))]; exact h.2.2.2.2.1, by rw [sp_other hl hd (by decide) (.inr (by decide))]; exact h.2.2.2.2.2.1, by rw [sp_other hl hd (by decide) (.inr (by decide))]; exact h.2.2.2.2.2.2⟩
def le_T_api_Role_Name : Lens T_api_Role ByteArray where
  off := 1
  get := T_api_Role.f_Name
  set b g := { b with f_Name := g }
  inb := by decide
  get_rep h := h.2.2.1
  set_rep h hg := by
    have hl := h.1
    have hd := Rp.len hg
    exact ⟨sp_len hl hd (by decide), by rw [sp_other hl hd (by decide) (.inl (by decide))]; exact h.2.1, by rw [sp_same hl hd (by decide)]; exact hg, by rw [sp_other hl hd (by decide) (.inr (by decide))]; exact h.2.2.2.1, by rw [sp_other hl hd (by decide) (.inr (by decide))]; exact h.2.2.2.2.1, by rw [sp_other hl hd (by decide) (.inr (by decide))]; exact h.2.2.2.2.2.1, by rw [sp_other hl hd (by decide) (.inr (by decide))]; exact h.2.2.2.2.2.2⟩
def le_T_api_Role_Grants : Lens T_api_Role (List T_api_Grant) where
  off := 2
  get := T_api_Role.f_Grants
  set b g := { b with f_Grants := g }
  inb := by decide
  get_rep h := h.2.2.2.1
  set_rep h hg := by
    have hl := h.1
    have hd := Rp.len hg
    exact ⟨sp_len hl hd (by decide), by rw [sp_other hl hd (by decide) (.inl (by decide))]; exact h.2.1, by rw [sp_other hl hd (by decide) (.inl (by decide))]; exact h.2.2.1, by rw [sp_same hl hd (by decide)]; exact hg, by rw [sp_other hl hd (by decide) (.inr (by decide))]; exact h.2.2.2.2.1, by rw [sp_other hl hd (by decide) (.inr (by decide))]; exact h.2.2.2.2.2.1, by rw [sp_other hl hd (by decide) (.inr (by decide))]; exact h.2.2.2.2.2.2⟩
def le_T_api_Role_Actions : Lens T_api_Role (List Int) where
  off := 3
  get := T_api_Role.f_Actions
  set b g := { b with f_Actions := g }
  inb := by decide
  get_rep h := h.2.2.2.2.1
  set_rep h hg := by
    have hl := h.1
    have hd := Rp.len hg
    exact ⟨sp_len hl hd (by decide), by rw [sp_other hl hd (by decide) (.inl (by decide))]; exact h.2.1, by rw [sp_other hl hd (by decide) (.inl (by decide))]; exact h.2.2.1, by rw [sp_other hl hd (by decide) (.inl (by decide))]; exact h.2.2.2.1, by rw [sp_same hl hd (by decide)]; exact hg, by rw [sp_other hl hd (by decide) (.inr (by decide))]; exact h.2.2.2.2.2.1, by rw [sp_other hl hd (by decide) (.inr (by decide))]; exact h.2.2.2.2.2.2⟩
def le_T_api_Role_Quota : Lens T_api_Role Int where
  off := 4
  get := T_api_Role.f_Quota
  set b g := { b with f_Quota := g }
  inb := by decide
  get_rep h := h.2.2.2.2.2.1
  set_rep h hg := by
    have hl := h.1
    have hd := Rp.len hg
    exact ⟨sp_len hl hd (by decide), by rw [sp_other hl hd (by decide) (.inl (by decide))]; exact h.2.1, by rw [sp_other hl hd (by decide) (.inl (by decide))]; exact h.2.2.1, by rw [sp_other hl hd (by decide) (.inl (by decide))]; exact h.2.2.2.1, by rw [sp_other hl hd (by decide) (.inl (by decide))]; exact h.2.2.2.2.1, by rw [sp_same hl hd (by decide)]; exact hg, by rw [sp_other hl hd (by decide) (.inr (by decide))]; exact h.2.2.2.2.2.2⟩
def le_T_api_Role_Audit : Lens T_api_Role Bool where
  off := 5
  get := T_api_Role.f_Audit
  set b g := { b with f_Audit := g }
  inb := by decide
  get_rep h := h.2.2.2.2.2.2
  set_rep h hg := by
    have hl := h.1
    have hd := Rp.len hg
    exact ⟨sp_len hl hd (by decide), by rw [sp_other hl hd (by decide) (.inl (by decide))]; exact h.2.1, by rw [sp_other hl hd (by decide) (.inl (by decide))]; exact h.2.2.1, by rw [sp_other hl hd (by decide) (.inl (by decide))]; exact h.2.2.2.1, by rw [sp_other hl hd (by decide) (.inl (by decide))]; exact h.2.2.2.2.1, by rw [sp_other hl hd (by decide) (.inl (by decide))]; exact h.2.2.2.2.2.1, by rw [sp_same hl hd (by decide)]; exact hg⟩
instance : Zc T_api_Role := ⟨Zc.cells Int ++ Zc.cells ByteArray ++ Zc.cells (List T_api_Grant) ++ Zc.cells (List Int) ++ Zc.cells Int ++ Zc.cells Bool, fun A W => ⟨by rfl, Zc.ok (α := Int) A W, Zc.ok (α := ByteArray) A W, Zc.ok (α := List T_api_Grant) A W, Zc.ok (α := List Int) A W, Zc.ok (α := Int) A W, Zc.ok (α := Bool) A W⟩⟩
structure T_api_Ref where
  f_Table : Int
  f_Key : Int
  f_Action : Int
  f_Param : Int
  f_ToTable : Int
  f_ToKey : Int
  deriving DecidableEq, Inhabited
instance : Rp T_api_Ref where
  size := 6
  agg := true
  rep A W cs x := cs.length = 6 ∧ Rp.rep A W ((cs.drop 0).take (Rp.size Int)) x.f_Table ∧ Rp.rep A W ((cs.drop 1).take (Rp.size Int)) x.f_Key ∧ Rp.rep A W ((cs.drop 2).take (Rp.size Int)) x.f_Action ∧ Rp.rep A W ((cs.drop 3).take (Rp.size Int)) x.f_Param ∧ Rp.rep A W ((cs.drop 4).take (Rp.size Int)) x.f_ToTable ∧ Rp.rep A W ((cs.drop 5).take (Rp.size Int)) x.f_ToKey
  len h := h.1
  one h := by
    intro u hu
    have h0 := mem_cut (o := 0) (s := Rp.size Int) (by simpa using hu)
    rcases h0 with h1 | h0
    · exact Rp.one h.2.1 u h1
    have h0 := mem_cut (s := Rp.size Int) h0
    rcases h0 with h1 | h0
    · exact Rp.one h.2.2.1 u h1
    have h0 := mem_cut (s := Rp.size Int) h0
    rcases h0 with h1 | h0
    · exact Rp.one h.2.2.2.1 u h1
    have h0 := mem_cut (s := Rp.size Int) h0
    rcases h0 with h1 | h0
    · exact Rp.one h.2.2.2.2.1 u h1
    have h0 := mem_cut (s := Rp.size Int) h0
    rcases h0 with h1 | h0
    · exact Rp.one h.2.2.2.2.2.1 u h1
    have h0 := mem_cut (s := Rp.size Int) h0
    rcases h0 with h1 | h0
    · exact Rp.one h.2.2.2.2.2.2 u h1
    exact mem_end h.1 (by rfl) h0
  flat h := by cases h
  mono e h := ⟨h.1, Rp.mono e h.2.1, Rp.mono e h.2.2.1, Rp.mono e h.2.2.2.1, Rp.mono e h.2.2.2.2.1, Rp.mono e h.2.2.2.2.2.1, Rp.mono e h.2.2.2.2.2.2⟩
def le_T_api_Ref_Table : Lens T_api_Ref Int where
  off := 0
  get := T_api_Ref.f_Table
  set b g := { b with f_Table := g }
  inb := by decide
  get_rep h := h.2.1
  set_rep h hg := by
    have hl := h.1
    have hd := Rp.len hg
    exact ⟨sp_len hl hd (by decide), by rw [sp_same hl hd (by decide)]; exact hg, by rw [sp_other hl hd (by decide) (.inr (by decide))]; exact h.2.2.1, by rw [sp_other hl hd (by decide) (.inr (by decide))]; exact h.2.2.2.1, by rw [sp_other hl hd (by decide) (.inr (by decide))]; exact h.2.2.2.2.1, by rw [sp_other hl hd (by decide) (.inr (by decide))]; exact h.2.2.2.2.2.1, by rw [sp_other hl hd (by decide) (.inr (by decide))]; exact h.2.2.2.2.2.2⟩
def le_T_api_Ref_Key : Lens T_api_Ref Int where
  off := 1
  get := T_api_Ref.f_Key
  set b g := { b with f_Key := g }
  inb := by decide
  get_rep h := h.2.2.1
  set_rep h hg := by
    have hl := h.1
    have hd := Rp.len hg
    exact ⟨sp_len hl hd (by decide), by rw [sp_other hl hd (by decide) (.inl (by decide))]; exact h.2.1, by rw [sp_same hl hd (by decide)]; exact hg, by rw [sp_other hl hd (by decide) (.inr (by decide))]; exact h.2.2.2.1, by rw [sp_other hl hd (by decide) (.inr (by decide))]; exact h.2.2.2.2.1, by rw [sp_other hl hd (by decide) (.inr (by decide))]; exact h.2.2.2.2.2.1, by rw [sp_other hl hd (by decide) (.inr (by decide))]; exact h.2.2.2.2.2.2⟩
def le_T_api_Ref_Action : Lens T_api_Ref Int where
  off := 2
  get := T_api_Ref.f_Action
  set b g := { b with f_Action := g }
  inb := by decide
  get_rep h := h.2.2.2.1
  set_rep h hg := by
    have hl := h.1
    have hd := Rp.len hg
    exact ⟨sp_len hl hd (by decide), by rw [sp_other hl hd (by decide) (.inl (by decide))]; exact h.2.1, by rw [sp_other hl hd (by decide) (.inl (by decide))]; exact h.2.2.1, by rw [sp_same hl hd (by decide)]; exact hg, by rw [sp_other hl hd (by decide) (.inr (by decide))]; exact h.2.2.2.2.1, by rw [sp_other hl hd (by decide) (.inr (by decide))]; exact h.2.2.2.2.2.1, by rw [sp_other hl hd (by decide) (.inr (by decide))]; exact h.2.2.2.2.2.2⟩
def le_T_api_Ref_Param : Lens T_api_Ref Int where
  off := 3
  get := T_api_Ref.f_Param
  set b g := { b with f_Param := g }
  inb := by decide
  get_rep h := h.2.2.2.2.1
  set_rep h hg := by
    have hl := h.1
    have hd := Rp.len hg
    exact ⟨sp_len hl hd (by decide), by rw [sp_other hl hd (by decide) (.inl (by decide))]; exact h.2.1, by rw [sp_other hl hd (by decide) (.inl (by decide))]; exact h.2.2.1, by rw [sp_other hl hd (by decide) (.inl (by decide))]; exact h.2.2.2.1, by rw [sp_same hl hd (by decide)]; exact hg, by rw [sp_other hl hd (by decide) (.inr (by decide))]; exact h.2.2.2.2.2.1, by rw [sp_other hl hd (by decide) (.inr (by decide))]; exact h.2.2.2.2.2.2⟩
def le_T_api_Ref_ToTable : Lens T_api_Ref Int where
  off := 4
  get := T_api_Ref.f_ToTable
  set b g := { b with f_ToTable := g }
  inb := by decide
  get_rep h := h.2.2.2.2.2.1
  set_rep h hg := by
    have hl := h.1
    have hd := Rp.len hg
    exact ⟨sp_len hl hd (by decide), by rw [sp_other hl hd (by decide) (.inl (by decide))]; exact h.2.1, by rw [sp_other hl hd (by decide) (.inl (by decide))]; exact h.2.2.1, by rw [sp_other hl hd (by decide) (.inl (by decide))]; exact h.2.2.2.1, by rw [sp_other hl hd (by decide) (.inl (by decide))]; exact h.2.2.2.2.1, by rw [sp_same hl hd (by decide)]; exact hg, by rw [sp_other hl hd (by decide) (.inr (by decide))]; exact h.2.2.2.2.2.2⟩
def le_T_api_Ref_ToKey : Lens T_api_Ref Int where
  off := 5
  get := T_api_Ref.f_ToKey
  set b g := { b with f_ToKey := g }
  inb := by decide
  get_rep h := h.2.2.2.2.2.2
  set_rep h hg := by
    have hl := h.1
    have hd := Rp.len hg
    exact ⟨sp_len hl hd (by decide), by rw [sp_other hl hd (by decide) (.inl (by decide))]; exact h.2.1, by rw [sp_other hl hd (by decide) (.inl (by decide))]; exact h.2.2.1, by rw [sp_other hl hd (by decide) (.inl (by decide))]; exact h.2.2.2.1, by rw [sp_other hl hd (by decide) (.inl (by decide))]; exact h.2.2.2.2.1, by rw [sp_other hl hd (by decide) (.inl (by decide))]; exact h.2.2.2.2.2.1, by rw [sp_same hl hd (by decide)]; exact hg⟩
instance : Zc T_api_Ref := ⟨Zc.cells Int ++ Zc.cells Int ++ Zc.cells Int ++ Zc.cells Int ++ Zc.cells Int ++ Zc.cells Int, fun A W => ⟨by rfl, Zc.ok (α := Int) A W, Zc.ok (α := Int) A W, Zc.ok (α := Int) A W, Zc.ok (α := Int) A W, Zc.ok (α := Int) A W, Zc.ok (α := Int) A W⟩⟩
structure T_api_Schema where
  f_Fields : List T_api_Field
  f_Headers : List T_api_Header
  f_States : List T_api_State
  f_Actions : List T_api_Action
  f_Tables : List T_api_Table
  f_Stages : List T_api_Stage
  f_Roles : List T_api_Role
  f_Refs : List T_api_Ref
  f_MaxBatch : Int
  f_Budget : Int
  deriving DecidableEq, Inhabited
instance : Rp T_api_Schema where
  size := 10
  agg := true
  rep A W cs x := cs.length = 10 ∧ Rp.rep A W ((cs.drop 0).take (Rp.size (List T_api_Field))) x.f_Fields ∧ Rp.rep A W ((cs.drop 1).take (Rp.size (List T_api_Header))) x.f_Headers ∧ Rp.rep A W ((cs.drop 2).take (Rp.size (List T_api_State))) x.f_States ∧ Rp.rep A W ((cs.drop 3).take (Rp.size (List T_api_Action))) x.f_Actions ∧ Rp.rep A W ((cs.drop 4).take (Rp.size (List T_api_Table))) x.f_Tables ∧ Rp.rep A W ((cs.drop 5).take (Rp.size (List T_api_Stage))) x.f_Stages ∧ Rp.rep A W ((cs.drop 6).take (Rp.size (List T_api_Role))) x.f_Roles ∧ Rp.rep A W ((cs.drop 7).take (Rp.size (List T_api_Ref))) x.f_Refs ∧ Rp.rep A W ((cs.drop 8).take (Rp.size Int)) x.f_MaxBatch ∧ Rp.rep A W ((cs.drop 9).take (Rp.size Int)) x.f_Budget
  len h := h.1
  one h := by
    intro u hu
    have h0 := mem_cut (o := 0) (s := Rp.size (List T_api_Field)) (by simpa using hu)
    rcases h0 with h1 | h0
    · exact Rp.one h.2.1 u h1
    have h0 := mem_cut (s := Rp.size (List T_api_Header)) h0
    rcases h0 with h1 | h0
    · exact Rp.one h.2.2.1 u h1
    have h0 := mem_cut (s := Rp.size (List T_api_State)) h0
    rcases h0 with h1 | h0
    · exact Rp.one h.2.2.2.1 u h1
    have h0 := mem_cut (s := Rp.size (List T_api_Action)) h0
    rcases h0 with h1 | h0
    · exact Rp.one h.2.2.2.2.1 u h1
    have h0 := mem_cut (s := Rp.size (List T_api_Table)) h0
    rcases h0 with h1 | h0
    · exact Rp.one h.2.2.2.2.2.1 u h1
    have h0 := mem_cut (s := Rp.size (List T_api_Stage)) h0
    rcases h0 with h1 | h0
    · exact Rp.one h.2.2.2.2.2.2.1 u h1
    have h0 := mem_cut (s := Rp.size (List T_api_Role)) h0
    rcases h0 with h1 | h0
    · exact Rp.one h.2.2.2.2.2.2.2.1 u h1
    have h0 := mem_cut (s := Rp.size (List T_api_Ref)) h0
    rcases h0 with h1 | h0
    · exact Rp.one h.2.2.2.2.2.2.2.2.1 u h1
    have h0 := mem_cut (s := Rp.size Int) h0
    rcases h0 with h1 | h0
    · exact Rp.one h.2.2.2.2.2.2.2.2.2.1 u h1
    have h0 := mem_cut (s := Rp.size Int) h0
    rcases h0 with h1 | h0
    · exact Rp.one h.2.2.2.2.2.2.2.2.2.2 u h1
    exact mem_end h.1 (by rfl) h0
  flat h := by cases h
  mono e h := ⟨h.1, Rp.mono e h.2.1, Rp.mono e h.2.2.1, Rp.mono e h.2.2.2.1, Rp.mono e h.2.2.2.2.1, Rp.mono e h.2.2.2.2.2.1, Rp.mono e h.2.2.2.2.2.2.1, Rp.mono e h.2.2.2.2.2.2.2.1, Rp.mono e h.2.2.2.2.2.2.2.2.1, Rp.mono e h.2.2.2.2.2.2.2.2.2.1, Rp.mono e h.2.2.2.2.2.2.2.2.2.2⟩
def le_T_api_Schema_Fields : Lens T_api_Schema (List T_api_Field) where
  off := 0
  get := T_api_Schema.f_Fields
  set b g := { b with f_Fields := g }
  inb := by decide
  get_rep h := h.2.1
  set_rep h hg := by
    have hl := h.1
    have hd := Rp.len hg
    exact ⟨sp_len hl hd (by decide), by rw [sp_same hl hd (by decide)]; exact hg, by rw [sp_other hl hd (by decide) (.inr (by decide))]; exact h.2.2.1, by rw [sp_other hl hd (by decide) (.inr (by decide))]; exact h.2.2.2.1, by rw [sp_other hl hd (by decide) (.inr (by decide))]; exact h.2.2.2.2.1, by rw [sp_other hl hd (by decide) (.inr (by decide))]; exact h.2.2.2.2.2.1, by rw [sp_other hl hd (by decide) (.inr (by decide))]; exact h.2.2.2.2.2.2.1, by rw [sp_other hl hd (by decide) (.inr (by decide))]; exact h.2.2.2.2.2.2.2.1, by rw [sp_other hl hd (by decide) (.inr (by decide))]; exact h.2.2.2.2.2.2.2.2.1, by rw [sp_other hl hd (by decide) (.inr (by decide))]; exact h.2.2.2.2.2.2.2.2.2.1, by rw [sp_other hl hd (by decide) (.inr (by decide))]; exact h.2.2.2.2.2.2.2.2.2.2⟩
def le_T_api_Schema_Headers : Lens T_api_Schema (List T_api_Header) where
  off := 1
  get := T_api_Schema.f_Headers
  set b g := { b with f_Headers := g }
  inb := by decide
  get_rep h := h.2.2.1
  set_rep h hg := by
    have hl := h.1
    have hd := Rp.len hg
    exact ⟨sp_len hl hd (by decide), by rw [sp_other hl hd (by decide) (.inl (by decide))]; exact h.2.1, by rw [sp_same hl hd (by decide)]; exact hg, by rw [sp_other hl hd (by decide) (.inr (by decide))]; exact h.2.2.2.1, by rw [sp_other hl hd (by decide) (.inr (by decide))]; exact h.2.2.2.2.1, by rw [sp_other hl hd (by decide) (.inr (by decide))]; exact h.2.2.2.2.2.1, by rw [sp_other hl hd (by decide) (.inr (by decide))]; exact h.2.2.2.2.2.2.1, by rw [sp_other hl hd (by decide) (.inr (by decide))]; exact h.2.2.2.2.2.2.2.1, by rw [sp_other hl hd (by decide) (.inr (by decide))]; exact h.2.2.2.2.2.2.2.2.1, by rw [sp_other hl hd (by decide) (.inr (by decide))]; exact h.2.2.2.2.2.2.2.2.2.1, by rw [sp_other hl hd (by decide) (.inr (by decide))]; exact h.2.2.2.2.2.2.2.2.2.2⟩
def le_T_api_Schema_States : Lens T_api_Schema (List T_api_State) where
  off := 2
  get := T_api_Schema.f_States
  set b g := { b with f_States := g }
  inb := by decide
  get_rep h := h.2.2.2.1
  set_rep h hg := by
    have hl := h.1
    have hd := Rp.len hg
    exact ⟨sp_len hl hd (by decide), by rw [sp_other hl hd (by decide) (.inl (by decide))]; exact h.2.1, by rw [sp_other hl hd (by decide) (.inl (by decide))]; exact h.2.2.1, by rw [sp_same hl hd (by decide)]; exact hg, by rw [sp_other hl hd (by decide) (.inr (by decide))]; exact h.2.2.2.2.1, by rw [sp_other hl hd (by decide) (.inr (by decide))]; exact h.2.2.2.2.2.1, by rw [sp_other hl hd (by decide) (.inr (by decide))]; exact h.2.2.2.2.2.2.1, by rw [sp_other hl hd (by decide) (.inr (by decide))]; exact h.2.2.2.2.2.2.2.1, by rw [sp_other hl hd (by decide) (.inr (by decide))]; exact h.2.2.2.2.2.2.2.2.1, by rw [sp_other hl hd (by decide) (.inr (by decide))]; exact h.2.2.2.2.2.2.2.2.2.1, by rw [sp_other hl hd (by decide) (.inr (by decide))]; exact h.2.2.2.2.2.2.2.2.2.2⟩
def le_T_api_Schema_Actions : Lens T_api_Schema (List T_api_Action) where
  off := 3
  get := T_api_Schema.f_Actions
  set b g := { b with f_Actions := g }
  inb := by decide
  get_rep h := h.2.2.2.2.1
  set_rep h hg := by
    have hl := h.1
    have hd := Rp.len hg
    exact ⟨sp_len hl hd (by decide), by rw [sp_other hl hd (by decide) (.inl (by decide))]; exact h.2.1, by rw [sp_other hl hd (by decide) (.inl (by decide))]; exact h.2.2.1, by rw [sp_other hl hd (by decide) (.inl (by decide))]; exact h.2.2.2.1, by rw [sp_same hl hd (by decide)]; exact hg, by rw [sp_other hl hd (by decide) (.inr (by decide))]; exact h.2.2.2.2.2.1, by rw [sp_other hl hd (by decide) (.inr (by decide))]; exact h.2.2.2.2.2.2.1, by rw [sp_other hl hd (by decide) (.inr (by decide))]; exact h.2.2.2.2.2.2.2.1, by rw [sp_other hl hd (by decide) (.inr (by decide))]; exact h.2.2.2.2.2.2.2.2.1, by rw [sp_other hl hd (by decide) (.inr (by decide))]; exact h.2.2.2.2.2.2.2.2.2.1, by rw [sp_other hl hd (by decide) (.inr (by decide))]; exact h.2.2.2.2.2.2.2.2.2.2⟩
def le_T_api_Schema_Tables : Lens T_api_Schema (List T_api_Table) where
  off := 4
  get := T_api_Schema.f_Tables
  set b g := { b with f_Tables := g }
  inb := by decide
  get_rep h := h.2.2.2.2.2.1
  set_rep h hg := by
    have hl := h.1
    have hd := Rp.len hg
    exact ⟨sp_len hl hd (by decide), by rw [sp_other hl hd (by decide) (.inl (by decide))]; exact h.2.1, by rw [sp_other hl hd (by decide) (.inl (by decide))]; exact h.2.2.1, by rw [sp_other hl hd (by decide) (.inl (by decide))]; exact h.2.2.2.1, by rw [sp_other hl hd (by decide) (.inl (by decide))]; exact h.2.2.2.2.1, by rw [sp_same hl hd (by decide)]; exact hg, by rw [sp_other hl hd (by decide) (.inr (by decide))]; exact h.2.2.2.2.2.2.1, by rw [sp_other hl hd (by decide) (.inr (by decide))]; exact h.2.2.2.2.2.2.2.1, by rw [sp_other hl hd (by decide) (.inr (by decide))]; exact h.2.2.2.2.2.2.2.2.1, by rw [sp_other hl hd (by decide) (.inr (by decide))]; exact h.2.2.2.2.2.2.2.2.2.1, by rw [sp_other hl hd (by decide) (.inr (by decide))]; exact h.2.2.2.2.2.2.2.2.2.2⟩
def le_T_api_Schema_Stages : Lens T_api_Schema (List T_api_Stage) where
  off := 5
  get := T_api_Schema.f_Stages
  set b g := { b with f_Stages := g }
  inb := by decide
  get_rep h := h.2.2.2.2.2.2.1
  set_rep h hg := by
    have hl := h.1
    have hd := Rp.len hg
    exact ⟨sp_len hl hd (by decide), by rw [sp_other hl hd (by decide) (.inl (by decide))]; exact h.2.1, by rw [sp_other hl hd (by decide) (.inl (by decide))]; exact h.2.2.1, by rw [sp_other hl hd (by decide) (.inl (by decide))]; exact h.2.2.2.1, by rw [sp_other hl hd (by decide) (.inl (by decide))]; exact h.2.2.2.2.1, by rw [sp_other hl hd (by decide) (.inl (by decide))]; exact h.2.2.2.2.2.1, by rw [sp_same hl hd (by decide)]; exact hg, by rw [sp_other hl hd (by decide) (.inr (by decide))]; exact h.2.2.2.2.2.2.2.1, by rw [sp_other hl hd (by decide) (.inr (by decide))]; exact h.2.2.2.2.2.2.2.2.1, by rw [sp_other hl hd (by decide) (.inr (by decide))]; exact h.2.2.2.2.2.2.2.2.2.1, by rw [sp_other hl hd (by decide) (.inr (by decide))]; exact h.2.2.2.2.2.2.2.2.2.2⟩
def le_T_api_Schema_Roles : Lens T_api_Schema (List T_api_Role) where
  off := 6
  get := T_api_Schema.f_Roles
  set b g := { b with f_Roles := g }
  inb := by decide
  get_rep h := h.2.2.2.2.2.2.2.1
  set_rep h hg := by
    have hl := h.1
    have hd := Rp.len hg
    exact ⟨sp_len hl hd (by decide), by rw [sp_other hl hd (by decide) (.inl (by decide))]; exact h.2.1, by rw [sp_other hl hd (by decide) (.inl (by decide))]; exact h.2.2.1, by rw [sp_other hl hd (by decide) (.inl (by decide))]; exact h.2.2.2.1, by rw [sp_other hl hd (by decide) (.inl (by decide))]; exact h.2.2.2.2.1, by rw [sp_other hl hd (by decide) (.inl (by decide))]; exact h.2.2.2.2.2.1, by rw [sp_other hl hd (by decide) (.inl (by decide))]; exact h.2.2.2.2.2.2.1, by rw [sp_same hl hd (by decide)]; exact hg, by rw [sp_other hl hd (by decide) (.inr (by decide))]; exact h.2.2.2.2.2.2.2.2.1, by rw [sp_other hl hd (by decide) (.inr (by decide))]; exact h.2.2.2.2.2.2.2.2.2.1, by rw [sp_other hl hd (by decide) (.inr (by decide))]; exact h.2.2.2.2.2.2.2.2.2.2⟩
def le_T_api_Schema_Refs : Lens T_api_Schema (List T_api_Ref) where
  off := 7
  get := T_api_Schema.f_Refs
  set b g := { b with f_Refs := g }
  inb := by decide
  get_rep h := h.2.2.2.2.2.2.2.2.1
  set_rep h hg := by
    have hl := h.1
    have hd := Rp.len hg
    exact ⟨sp_len hl hd (by decide), by rw [sp_other hl hd (by decide) (.inl (by decide))]; exact h.2.1, by rw [sp_other hl hd (by decide) (.inl (by decide))]; exact h.2.2.1, by rw [sp_other hl hd (by decide) (.inl (by decide))]; exact h.2.2.2.1, by rw [sp_other hl hd (by decide) (.inl (by decide))]; exact h.2.2.2.2.1, by rw [sp_other hl hd (by decide) (.inl (by decide))]; exact h.2.2.2.2.2.1, by rw [sp_other hl hd (by decide) (.inl (by decide))]; exact h.2.2.2.2.2.2.1, by rw [sp_other hl hd (by decide) (.inl (by decide))]; exact h.2.2.2.2.2.2.2.1, by rw [sp_same hl hd (by decide)]; exact hg, by rw [sp_other hl hd (by decide) (.inr (by decide))]; exact h.2.2.2.2.2.2.2.2.2.1, by rw [sp_other hl hd (by decide) (.inr (by decide))]; exact h.2.2.2.2.2.2.2.2.2.2⟩
def le_T_api_Schema_MaxBatch : Lens T_api_Schema Int where
  off := 8
  get := T_api_Schema.f_MaxBatch
  set b g := { b with f_MaxBatch := g }
  inb := by decide
  get_rep h := h.2.2.2.2.2.2.2.2.2.1
  set_rep h hg := by
    have hl := h.1
    have hd := Rp.len hg
    exact ⟨sp_len hl hd (by decide), by rw [sp_other hl hd (by decide) (.inl (by decide))]; exact h.2.1, by rw [sp_other hl hd (by decide) (.inl (by decide))]; exact h.2.2.1, by rw [sp_other hl hd (by decide) (.inl (by decide))]; exact h.2.2.2.1, by rw [sp_other hl hd (by decide) (.inl (by decide))]; exact h.2.2.2.2.1, by rw [sp_other hl hd (by decide) (.inl (by decide))]; exact h.2.2.2.2.2.1, by rw [sp_other hl hd (by decide) (.inl (by decide))]; exact h.2.2.2.2.2.2.1, by rw [sp_other hl hd (by decide) (.inl (by decide))]; exact h.2.2.2.2.2.2.2.1, by rw [sp_other hl hd (by decide) (.inl (by decide))]; exact h.2.2.2.2.2.2.2.2.1, by rw [sp_same hl hd (by decide)]; exact hg, by rw [sp_other hl hd (by decide) (.inr (by decide))]; exact h.2.2.2.2.2.2.2.2.2.2⟩
def le_T_api_Schema_Budget : Lens T_api_Schema Int where
  off := 9
  get := T_api_Schema.f_Budget
  set b g := { b with f_Budget := g }
  inb := by decide
  get_rep h := h.2.2.2.2.2.2.2.2.2.2
  set_rep h hg := by
    have hl := h.1
    have hd := Rp.len hg
    exact ⟨sp_len hl hd (by decide), by rw [sp_other hl hd (by decide) (.inl (by decide))]; exact h.2.1, by rw [sp_other hl hd (by decide) (.inl (by decide))]; exact h.2.2.1, by rw [sp_other hl hd (by decide) (.inl (by decide))]; exact h.2.2.2.1, by rw [sp_other hl hd (by decide) (.inl (by decide))]; exact h.2.2.2.2.1, by rw [sp_other hl hd (by decide) (.inl (by decide))]; exact h.2.2.2.2.2.1, by rw [sp_other hl hd (by decide) (.inl (by decide))]; exact h.2.2.2.2.2.2.1, by rw [sp_other hl hd (by decide) (.inl (by decide))]; exact h.2.2.2.2.2.2.2.1, by rw [sp_other hl hd (by decide) (.inl (by decide))]; exact h.2.2.2.2.2.2.2.2.1, by rw [sp_other hl hd (by decide) (.inl (by decide))]; exact h.2.2.2.2.2.2.2.2.2.1, by rw [sp_same hl hd (by decide)]; exact hg⟩
instance : Zc T_api_Schema := ⟨Zc.cells (List T_api_Field) ++ Zc.cells (List T_api_Header) ++ Zc.cells (List T_api_State) ++ Zc.cells (List T_api_Action) ++ Zc.cells (List T_api_Table) ++ Zc.cells (List T_api_Stage) ++ Zc.cells (List T_api_Role) ++ Zc.cells (List T_api_Ref) ++ Zc.cells Int ++ Zc.cells Int, fun A W => ⟨by rfl, Zc.ok (α := List T_api_Field) A W, Zc.ok (α := List T_api_Header) A W, Zc.ok (α := List T_api_State) A W, Zc.ok (α := List T_api_Action) A W, Zc.ok (α := List T_api_Table) A W, Zc.ok (α := List T_api_Stage) A W, Zc.ok (α := List T_api_Role) A W, Zc.ok (α := List T_api_Ref) A W, Zc.ok (α := Int) A W, Zc.ok (α := Int) A W⟩⟩
theorem zr33 : Zr Try.prog 33 (default : T_api_Schema) := Zr.of (by kernel_rfl)
theorem ty3 : Ty Try.prog 3 Int := Ty.of (by rfl) Try.underlying3 (by kernel_rfl)
theorem fd120_1 : FdA Try.prog 120 1 1 := FdA.of Try.underlying120 rfl rfl ty3 rfl
theorem ty22 : Ty Try.prog 22 (List (BitVec 8)) := Ty.of (by rfl) Try.underlying22 (by kernel_rfl)
theorem fd120_0 : FdA Try.prog 120 0 0 := FdA.of Try.underlying120 rfl rfl ty22 rfl
theorem mixed : Try.prog.follows .mixedOrders = true := by kernel_rfl
theorem en76 : En Try.prog 76 := ⟨_, Try.func76, rfl, by kernel_rfl⟩
theorem en49 : En Try.prog 49 := ⟨_, Try.func49, rfl, by kernel_rfl⟩
theorem bu33 : Bu Try.prog 33 #[(0, 1), (1, 1), (2, 1), (3, 1), (4, 1), (5, 1), (6, 1), (7, 1), (8, 1), (9, 1)] := ⟨_, Try.underlying33, by kernel_rfl, by kernel_rfl⟩
theorem ty33 : Ty Try.prog 33 T_api_Schema := Ty.of (by rfl) Try.underlying33 (by kernel_rfl)
theorem zr123 : Zr Try.prog 123 (default : T_api_Field) := Zr.of (by kernel_rfl)
theorem bu123 : Bu Try.prog 123 #[(0, 1), (1, 1), (2, 1)] := ⟨_, Try.underlying123, by kernel_rfl, by kernel_rfl⟩
theorem ty123 : Ty Try.prog 123 T_api_Field := Ty.of (by rfl) Try.underlying123 (by kernel_rfl)
theorem ty24 : Ty Try.prog 24 (List T_api_Field) := Ty.of (by rfl) Try.underlying24 (by kernel_rfl)
theorem fd33_0 : FdA Try.prog 33 0 0 := FdA.of Try.underlying33 rfl rfl ty24 rfl
theorem zr3 : Zr Try.prog 3 (default : Int) := Zr.of (by kernel_rfl)
theorem zr125 : Zr Try.prog 125 (default : T_api_Header) := Zr.of (by kernel_rfl)
theorem bu125 : Bu Try.prog 125 #[(0, 1), (1, 1), (2, 1)] := ⟨_, Try.underlying125, by kernel_rfl, by kernel_rfl⟩
theorem ty125 : Ty Try.prog 125 T_api_Header := Ty.of (by rfl) Try.underlying125 (by kernel_rfl)
theorem ty25 : Ty Try.prog 25 (List T_api_Header) := Ty.of (by rfl) Try.underlying25 (by kernel_rfl)
theorem fd33_1 : FdA Try.prog 33 1 1 := FdA.of Try.underlying33 rfl rfl ty25 rfl
theorem zr196 : Zr Try.prog 196 (default : T_api_State) := Zr.of (by kernel_rfl)
theorem bu196 : Bu Try.prog 196 #[(0, 1), (1, 1), (2, 1), (3, 1), (4, 1)] := ⟨_, Try.underlying196, by kernel_rfl, by kernel_rfl⟩
theorem ty196 : Ty Try.prog 196 T_api_State := Ty.of (by rfl) Try.underlying196 (by kernel_rfl)
theorem zr47 : Zr Try.prog 47 (default : T_api_Value) := Zr.of (by kernel_rfl)
theorem bu47 : Bu Try.prog 47 #[(0, 1), (1, 1)] := ⟨_, Try.underlying47, by kernel_rfl, by kernel_rfl⟩
theorem zr198 : Zr Try.prog 198 (default : T_api_Case) := Zr.of (by kernel_rfl)
theorem bu198 : Bu Try.prog 198 #[(0, 2), (2, 2), (4, 1)] := ⟨_, Try.underlying198, by kernel_rfl, by kernel_rfl⟩
theorem ty198 : Ty Try.prog 198 T_api_Case := Ty.of (by rfl) Try.underlying198 (by kernel_rfl)
theorem ty194 : Ty Try.prog 194 (List T_api_Case) := Ty.of (by rfl) Try.underlying194 (by kernel_rfl)
theorem fd196_3 : FdA Try.prog 196 3 3 := FdA.of Try.underlying196 rfl rfl ty194 rfl
theorem en54 : En Try.prog 54 := ⟨_, Try.func54, rfl, by kernel_rfl⟩
theorem zh196_3 : Zh Try.prog 196 [3] := by unfold Zh; kernel_rfl
theorem en50 : En Try.prog 50 := ⟨_, Try.func50, rfl, by kernel_rfl⟩
theorem zr200 : Zr Try.prog 200 (default : T_api_Operand) := Zr.of (by kernel_rfl)
theorem bu200 : Bu Try.prog 200 #[(0, 1), (1, 1), (2, 2)] := ⟨_, Try.underlying200, by kernel_rfl, by kernel_rfl⟩
theorem ty200 : Ty Try.prog 200 T_api_Operand := Ty.of (by rfl) Try.underlying200 (by kernel_rfl)
theorem zr168 : Zr Try.prog 168 (default : T_api_Action) := Zr.of (by kernel_rfl)
theorem bu168 : Bu Try.prog 168 #[(0, 1), (1, 1), (2, 1), (3, 1), (4, 1)] := ⟨_, Try.underlying168, by kernel_rfl, by kernel_rfl⟩
theorem zr202 : Zr Try.prog 202 (default : T_api_Prim) := Zr.of (by kernel_rfl)
theorem bu202 : Bu Try.prog 202 #[(0, 1), (1, 1), (2, 4)] := ⟨_, Try.underlying202, by kernel_rfl, by kernel_rfl⟩
theorem ty202 : Ty Try.prog 202 T_api_Prim := Ty.of (by rfl) Try.underlying202 (by kernel_rfl)
theorem zr171 : Zr Try.prog 171 (default : T_api_Param) := Zr.of (by kernel_rfl)
theorem bu171 : Bu Try.prog 171 #[(0, 1), (1, 1)] := ⟨_, Try.underlying171, by kernel_rfl, by kernel_rfl⟩
theorem ty171 : Ty Try.prog 171 T_api_Param := Ty.of (by rfl) Try.underlying171 (by kernel_rfl)
theorem ty168 : Ty Try.prog 168 T_api_Action := Ty.of (by rfl) Try.underlying168 (by kernel_rfl)
theorem ty9 : Ty Try.prog 9 ByteArray := Ty.of (by rfl) Try.underlying9 (by kernel_rfl)
theorem fd168_4 : FdA Try.prog 168 4 4 := FdA.of Try.underlying168 rfl rfl ty9 rfl
theorem en51 : En Try.prog 51 := ⟨_, Try.func51, rfl, by kernel_rfl⟩
theorem zr163 : Zr Try.prog 163 (default : T_api_Key) := Zr.of (by kernel_rfl)
theorem bu163 : Bu Try.prog 163 #[(0, 1), (1, 1), (2, 1)] := ⟨_, Try.underlying163, by kernel_rfl, by kernel_rfl⟩
theorem ty163 : Ty Try.prog 163 T_api_Key := Ty.of (by rfl) Try.underlying163 (by kernel_rfl)
theorem zr136 : Zr Try.prog 136 (default : T_api_Table) := Zr.of (by kernel_rfl)
theorem bu136 : Bu Try.prog 136 #[(0, 1), (1, 1), (2, 1), (3, 1), (4, 1), (5, 1), (6, 1), (7, 1)] := ⟨_, Try.underlying136, by kernel_rfl, by kernel_rfl⟩
theorem ty136 : Ty Try.prog 136 T_api_Table := Ty.of (by rfl) Try.underlying136 (by kernel_rfl)
theorem ty134 : Ty Try.prog 134 (List T_api_Key) := Ty.of (by rfl) Try.underlying134 (by kernel_rfl)
theorem fd136_2 : FdA Try.prog 136 2 2 := FdA.of Try.underlying136 rfl rfl ty134 rfl
theorem zh136_2 : Zh Try.prog 136 [2] := by unfold Zh; kernel_rfl
theorem zh136_n : Zh Try.prog 136 [] := by unfold Zh; kernel_rfl
theorem ty47 : Ty Try.prog 47 T_api_Value := Ty.of (by rfl) Try.underlying47 (by kernel_rfl)
theorem zr9 : Zr Try.prog 9 (default : ByteArray) := Zr.of (by kernel_rfl)
theorem ty203 : Ty Try.prog 203 (List ByteArray) := Ty.of (by rfl) Try.underlying203 (by kernel_rfl)
theorem zr203 : Zr Try.prog 203 (default : List ByteArray) := Zr.of (by kernel_rfl)
theorem fd136_7 : FdA Try.prog 136 7 7 := FdA.of Try.underlying136 rfl rfl ty9 rfl
theorem en52 : En Try.prog 52 := ⟨_, Try.func52, rfl, by kernel_rfl⟩
theorem ty26 : Ty Try.prog 26 (List T_api_State) := Ty.of (by rfl) Try.underlying26 (by kernel_rfl)
theorem fd33_2 : FdA Try.prog 33 2 2 := FdA.of Try.underlying33 rfl rfl ty26 rfl
theorem ty27 : Ty Try.prog 27 (List T_api_Action) := Ty.of (by rfl) Try.underlying27 (by kernel_rfl)
theorem fd33_3 : FdA Try.prog 33 3 3 := FdA.of Try.underlying33 rfl rfl ty27 rfl
theorem ty28 : Ty Try.prog 28 (List T_api_Table) := Ty.of (by rfl) Try.underlying28 (by kernel_rfl)
theorem fd33_4 : FdA Try.prog 33 4 4 := FdA.of Try.underlying33 rfl rfl ty28 rfl
theorem zr207 : Zr Try.prog 207 (default : T_api_Role) := Zr.of (by kernel_rfl)
theorem bu207 : Bu Try.prog 207 #[(0, 1), (1, 1), (2, 1), (3, 1), (4, 1), (5, 1)] := ⟨_, Try.underlying207, by kernel_rfl, by kernel_rfl⟩
theorem ty207 : Ty Try.prog 207 T_api_Role := Ty.of (by rfl) Try.underlying207 (by kernel_rfl)
theorem ty4 : Ty Try.prog 4 Bool := Ty.of (by rfl) Try.underlying4 (by kernel_rfl)
theorem zr4 : Zr Try.prog 4 (default : Bool) := Zr.of (by kernel_rfl)
theorem ty205 : Ty Try.prog 205 (List T_api_Grant) := Ty.of (by rfl) Try.underlying205 (by kernel_rfl)
theorem fd207_2 : FdA Try.prog 207 2 2 := FdA.of Try.underlying207 rfl rfl ty205 rfl
theorem fd136_0 : FdA Try.prog 136 0 0 := FdA.of Try.underlying136 rfl rfl ty3 rfl
theorem zr209 : Zr Try.prog 209 (default : T_api_Grant) := Zr.of (by kernel_rfl)
theorem bu209 : Bu Try.prog 209 #[(0, 1), (1, 1), (2, 1), (3, 1)] := ⟨_, Try.underlying209, by kernel_rfl, by kernel_rfl⟩
theorem ty209 : Ty Try.prog 209 T_api_Grant := Ty.of (by rfl) Try.underlying209 (by kernel_rfl)
theorem zh207_2 : Zh Try.prog 207 [2] := by unfold Zh; kernel_rfl
theorem en53 : En Try.prog 53 := ⟨_, Try.func53, rfl, by kernel_rfl⟩
theorem ty30 : Ty Try.prog 30 (List T_api_Role) := Ty.of (by rfl) Try.underlying30 (by kernel_rfl)
theorem fd33_6 : FdA Try.prog 33 6 6 := FdA.of Try.underlying33 rfl rfl ty30 rfl
theorem zr131 : Zr Try.prog 131 (default : T_api_Stage) := Zr.of (by kernel_rfl)
theorem bu131 : Bu Try.prog 131 #[(0, 1), (1, 1)] := ⟨_, Try.underlying131, by kernel_rfl, by kernel_rfl⟩
theorem ty131 : Ty Try.prog 131 T_api_Stage := Ty.of (by rfl) Try.underlying131 (by kernel_rfl)
theorem ty29 : Ty Try.prog 29 (List T_api_Stage) := Ty.of (by rfl) Try.underlying29 (by kernel_rfl)
theorem fd33_5 : FdA Try.prog 33 5 5 := FdA.of Try.underlying33 rfl rfl ty29 rfl
theorem zh33_5 : Zh Try.prog 33 [5] := by unfold Zh; kernel_rfl
theorem ty31 : Ty Try.prog 31 (List T_api_Ref) := Ty.of (by rfl) Try.underlying31 (by kernel_rfl)
theorem fd33_7 : FdA Try.prog 33 7 7 := FdA.of Try.underlying33 rfl rfl ty31 rfl
theorem zr133 : Zr Try.prog 133 (default : T_api_Ref) := Zr.of (by kernel_rfl)
theorem bu133 : Bu Try.prog 133 #[(0, 1), (1, 1), (2, 1), (3, 1), (4, 1), (5, 1)] := ⟨_, Try.underlying133, by kernel_rfl, by kernel_rfl⟩
theorem ty133 : Ty Try.prog 133 T_api_Ref := Ty.of (by rfl) Try.underlying133 (by kernel_rfl)
theorem zh33_5_7 : Zh Try.prog 33 [5, 7] := by unfold Zh; kernel_rfl
theorem en13 : En Try.prog 13 := ⟨_, Try.func13, rfl, by kernel_rfl⟩
structure T_api_Match where
  f_Present : Bool
  f_Value : T_api_Value
  f_Mask : T_api_Value
  f_Prefix : Int
  f_High : T_api_Value
  deriving DecidableEq, Inhabited
instance : Rp T_api_Match where
  size := 8
  agg := true
  rep A W cs x := cs.length = 8 ∧ Rp.rep A W ((cs.drop 0).take (Rp.size Bool)) x.f_Present ∧ Rp.rep A W ((cs.drop 1).take (Rp.size T_api_Value)) x.f_Value ∧ Rp.rep A W ((cs.drop 3).take (Rp.size T_api_Value)) x.f_Mask ∧ Rp.rep A W ((cs.drop 5).take (Rp.size Int)) x.f_Prefix ∧ Rp.rep A W ((cs.drop 6).take (Rp.size T_api_Value)) x.f_High
  len h := h.1
  one h := by
    intro u hu
    have h0 := mem_cut (o := 0) (s := Rp.size Bool) (by simpa using hu)
    rcases h0 with h1 | h0
    · exact Rp.one h.2.1 u h1
    have h0 := mem_cut (s := Rp.size T_api_Value) h0
    rcases h0 with h1 | h0
    · exact Rp.one h.2.2.1 u h1
    have h0 := mem_cut (s := Rp.size T_api_Value) h0
    rcases h0 with h1 | h0
    · exact Rp.one h.2.2.2.1 u h1
    have h0 := mem_cut (s := Rp.size Int) h0
    rcases h0 with h1 | h0
    · exact Rp.one h.2.2.2.2.1 u h1
    have h0 := mem_cut (s := Rp.size T_api_Value) h0
    rcases h0 with h1 | h0
    · exact Rp.one h.2.2.2.2.2 u h1
    exact mem_end h.1 (by rfl) h0
  flat h := by cases h
  mono e h := ⟨h.1, Rp.mono e h.2.1, Rp.mono e h.2.2.1, Rp.mono e h.2.2.2.1, Rp.mono e h.2.2.2.2.1, Rp.mono e h.2.2.2.2.2⟩
def le_T_api_Match_Present : Lens T_api_Match Bool where
  off := 0
  get := T_api_Match.f_Present
  set b g := { b with f_Present := g }
  inb := by decide
  get_rep h := h.2.1
  set_rep h hg := by
    have hl := h.1
    have hd := Rp.len hg
    exact ⟨sp_len hl hd (by decide), by rw [sp_same hl hd (by decide)]; exact hg, by rw [sp_other hl hd (by decide) (.inr (by decide))]; exact h.2.2.1, by rw [sp_other hl hd (by decide) (.inr (by decide))]; exact h.2.2.2.1, by rw [sp_other hl hd (by decide) (.inr (by decide))]; exact h.2.2.2.2.1, by rw [sp_other hl hd (by decide) (.inr (by decide))]; exact h.2.2.2.2.2⟩
def le_T_api_Match_Value : Lens T_api_Match T_api_Value where
  off := 1
  get := T_api_Match.f_Value
  set b g := { b with f_Value := g }
  inb := by decide
  get_rep h := h.2.2.1
  set_rep h hg := by
    have hl := h.1
    have hd := Rp.len hg
    exact ⟨sp_len hl hd (by decide), by rw [sp_other hl hd (by decide) (.inl (by decide))]; exact h.2.1, by rw [sp_same hl hd (by decide)]; exact hg, by rw [sp_other hl hd (by decide) (.inr (by decide))]; exact h.2.2.2.1, by rw [sp_other hl hd (by decide) (.inr (by decide))]; exact h.2.2.2.2.1, by rw [sp_other hl hd (by decide) (.inr (by decide))]; exact h.2.2.2.2.2⟩
def le_T_api_Match_Mask : Lens T_api_Match T_api_Value where
  off := 3
  get := T_api_Match.f_Mask
  set b g := { b with f_Mask := g }
  inb := by decide
  get_rep h := h.2.2.2.1
  set_rep h hg := by
    have hl := h.1
    have hd := Rp.len hg
    exact ⟨sp_len hl hd (by decide), by rw [sp_other hl hd (by decide) (.inl (by decide))]; exact h.2.1, by rw [sp_other hl hd (by decide) (.inl (by decide))]; exact h.2.2.1, by rw [sp_same hl hd (by decide)]; exact hg, by rw [sp_other hl hd (by decide) (.inr (by decide))]; exact h.2.2.2.2.1, by rw [sp_other hl hd (by decide) (.inr (by decide))]; exact h.2.2.2.2.2⟩
def le_T_api_Match_Prefix : Lens T_api_Match Int where
  off := 5
  get := T_api_Match.f_Prefix
  set b g := { b with f_Prefix := g }
  inb := by decide
  get_rep h := h.2.2.2.2.1
  set_rep h hg := by
    have hl := h.1
    have hd := Rp.len hg
    exact ⟨sp_len hl hd (by decide), by rw [sp_other hl hd (by decide) (.inl (by decide))]; exact h.2.1, by rw [sp_other hl hd (by decide) (.inl (by decide))]; exact h.2.2.1, by rw [sp_other hl hd (by decide) (.inl (by decide))]; exact h.2.2.2.1, by rw [sp_same hl hd (by decide)]; exact hg, by rw [sp_other hl hd (by decide) (.inr (by decide))]; exact h.2.2.2.2.2⟩
def le_T_api_Match_High : Lens T_api_Match T_api_Value where
  off := 6
  get := T_api_Match.f_High
  set b g := { b with f_High := g }
  inb := by decide
  get_rep h := h.2.2.2.2.2
  set_rep h hg := by
    have hl := h.1
    have hd := Rp.len hg
    exact ⟨sp_len hl hd (by decide), by rw [sp_other hl hd (by decide) (.inl (by decide))]; exact h.2.1, by rw [sp_other hl hd (by decide) (.inl (by decide))]; exact h.2.2.1, by rw [sp_other hl hd (by decide) (.inl (by decide))]; exact h.2.2.2.1, by rw [sp_other hl hd (by decide) (.inl (by decide))]; exact h.2.2.2.2.1, by rw [sp_same hl hd (by decide)]; exact hg⟩
instance : Zc T_api_Match := ⟨Zc.cells Bool ++ Zc.cells T_api_Value ++ Zc.cells T_api_Value ++ Zc.cells Int ++ Zc.cells T_api_Value, fun A W => ⟨by rfl, Zc.ok (α := Bool) A W, Zc.ok (α := T_api_Value) A W, Zc.ok (α := T_api_Value) A W, Zc.ok (α := Int) A W, Zc.ok (α := T_api_Value) A W⟩⟩
structure T_api_Entry where
  f_Table : Int
  f_Matches : List T_api_Match
  f_Priority : Int
  f_Action : Int
  f_Args : List T_api_Value
  deriving DecidableEq, Inhabited
instance : Rp T_api_Entry where
  size := 5
  agg := true
  rep A W cs x := cs.length = 5 ∧ Rp.rep A W ((cs.drop 0).take (Rp.size Int)) x.f_Table ∧ Rp.rep A W ((cs.drop 1).take (Rp.size (List T_api_Match))) x.f_Matches ∧ Rp.rep A W ((cs.drop 2).take (Rp.size Int)) x.f_Priority ∧ Rp.rep A W ((cs.drop 3).take (Rp.size Int)) x.f_Action ∧ Rp.rep A W ((cs.drop 4).take (Rp.size (List T_api_Value))) x.f_Args
  len h := h.1
  one h := by
    intro u hu
    have h0 := mem_cut (o := 0) (s := Rp.size Int) (by simpa using hu)
    rcases h0 with h1 | h0
    · exact Rp.one h.2.1 u h1
    have h0 := mem_cut (s := Rp.size (List T_api_Match)) h0
    rcases h0 with h1 | h0
    · exact Rp.one h.2.2.1 u h1
    have h0 := mem_cut (s := Rp.size Int) h0
    rcases h0 with h1 | h0
    · exact Rp.one h.2.2.2.1 u h1
    have h0 := mem_cut (s := Rp.size Int) h0
    rcases h0 with h1 | h0
    · exact Rp.one h.2.2.2.2.1 u h1
    have h0 := mem_cut (s := Rp.size (List T_api_Value)) h0
    rcases h0 with h1 | h0
    · exact Rp.one h.2.2.2.2.2 u h1
    exact mem_end h.1 (by rfl) h0
  flat h := by cases h
  mono e h := ⟨h.1, Rp.mono e h.2.1, Rp.mono e h.2.2.1, Rp.mono e h.2.2.2.1, Rp.mono e h.2.2.2.2.1, Rp.mono e h.2.2.2.2.2⟩
def le_T_api_Entry_Table : Lens T_api_Entry Int where
  off := 0
  get := T_api_Entry.f_Table
  set b g := { b with f_Table := g }
  inb := by decide
  get_rep h := h.2.1
  set_rep h hg := by
    have hl := h.1
    have hd := Rp.len hg
    exact ⟨sp_len hl hd (by decide), by rw [sp_same hl hd (by decide)]; exact hg, by rw [sp_other hl hd (by decide) (.inr (by decide))]; exact h.2.2.1, by rw [sp_other hl hd (by decide) (.inr (by decide))]; exact h.2.2.2.1, by rw [sp_other hl hd (by decide) (.inr (by decide))]; exact h.2.2.2.2.1, by rw [sp_other hl hd (by decide) (.inr (by decide))]; exact h.2.2.2.2.2⟩
def le_T_api_Entry_Matches : Lens T_api_Entry (List T_api_Match) where
  off := 1
  get := T_api_Entry.f_Matches
  set b g := { b with f_Matches := g }
  inb := by decide
  get_rep h := h.2.2.1
  set_rep h hg := by
    have hl := h.1
    have hd := Rp.len hg
    exact ⟨sp_len hl hd (by decide), by rw [sp_other hl hd (by decide) (.inl (by decide))]; exact h.2.1, by rw [sp_same hl hd (by decide)]; exact hg, by rw [sp_other hl hd (by decide) (.inr (by decide))]; exact h.2.2.2.1, by rw [sp_other hl hd (by decide) (.inr (by decide))]; exact h.2.2.2.2.1, by rw [sp_other hl hd (by decide) (.inr (by decide))]; exact h.2.2.2.2.2⟩
def le_T_api_Entry_Priority : Lens T_api_Entry Int where
  off := 2
  get := T_api_Entry.f_Priority
  set b g := { b with f_Priority := g }
  inb := by decide
  get_rep h := h.2.2.2.1
  set_rep h hg := by
    have hl := h.1
    have hd := Rp.len hg
    exact ⟨sp_len hl hd (by decide), by rw [sp_other hl hd (by decide) (.inl (by decide))]; exact h.2.1, by rw [sp_other hl hd (by decide) (.inl (by decide))]; exact h.2.2.1, by rw [sp_same hl hd (by decide)]; exact hg, by rw [sp_other hl hd (by decide) (.inr (by decide))]; exact h.2.2.2.2.1, by rw [sp_other hl hd (by decide) (.inr (by decide))]; exact h.2.2.2.2.2⟩
def le_T_api_Entry_Action : Lens T_api_Entry Int where
  off := 3
  get := T_api_Entry.f_Action
  set b g := { b with f_Action := g }
  inb := by decide
  get_rep h := h.2.2.2.2.1
  set_rep h hg := by
    have hl := h.1
    have hd := Rp.len hg
    exact ⟨sp_len hl hd (by decide), by rw [sp_other hl hd (by decide) (.inl (by decide))]; exact h.2.1, by rw [sp_other hl hd (by decide) (.inl (by decide))]; exact h.2.2.1, by rw [sp_other hl hd (by decide) (.inl (by decide))]; exact h.2.2.2.1, by rw [sp_same hl hd (by decide)]; exact hg, by rw [sp_other hl hd (by decide) (.inr (by decide))]; exact h.2.2.2.2.2⟩
def le_T_api_Entry_Args : Lens T_api_Entry (List T_api_Value) where
  off := 4
  get := T_api_Entry.f_Args
  set b g := { b with f_Args := g }
  inb := by decide
  get_rep h := h.2.2.2.2.2
  set_rep h hg := by
    have hl := h.1
    have hd := Rp.len hg
    exact ⟨sp_len hl hd (by decide), by rw [sp_other hl hd (by decide) (.inl (by decide))]; exact h.2.1, by rw [sp_other hl hd (by decide) (.inl (by decide))]; exact h.2.2.1, by rw [sp_other hl hd (by decide) (.inl (by decide))]; exact h.2.2.2.1, by rw [sp_other hl hd (by decide) (.inl (by decide))]; exact h.2.2.2.2.1, by rw [sp_same hl hd (by decide)]; exact hg⟩
instance : Zc T_api_Entry := ⟨Zc.cells Int ++ Zc.cells (List T_api_Match) ++ Zc.cells Int ++ Zc.cells Int ++ Zc.cells (List T_api_Value), fun A W => ⟨by rfl, Zc.ok (α := Int) A W, Zc.ok (α := List T_api_Match) A W, Zc.ok (α := Int) A W, Zc.ok (α := Int) A W, Zc.ok (α := List T_api_Value) A W⟩⟩
structure T_api_Installed where
  f_Entry : T_api_Entry
  f_Number : Int
  f_Owner : Int
  deriving DecidableEq, Inhabited
instance : Rp T_api_Installed where
  size := 7
  agg := true
  rep A W cs x := cs.length = 7 ∧ Rp.rep A W ((cs.drop 0).take (Rp.size T_api_Entry)) x.f_Entry ∧ Rp.rep A W ((cs.drop 5).take (Rp.size Int)) x.f_Number ∧ Rp.rep A W ((cs.drop 6).take (Rp.size Int)) x.f_Owner
  len h := h.1
  one h := by
    intro u hu
    have h0 := mem_cut (o := 0) (s := Rp.size T_api_Entry) (by simpa using hu)
    rcases h0 with h1 | h0
    · exact Rp.one h.2.1 u h1
    have h0 := mem_cut (s := Rp.size Int) h0
    rcases h0 with h1 | h0
    · exact Rp.one h.2.2.1 u h1
    have h0 := mem_cut (s := Rp.size Int) h0
    rcases h0 with h1 | h0
    · exact Rp.one h.2.2.2 u h1
    exact mem_end h.1 (by rfl) h0
  flat h := by cases h
  mono e h := ⟨h.1, Rp.mono e h.2.1, Rp.mono e h.2.2.1, Rp.mono e h.2.2.2⟩
def le_T_api_Installed_Entry : Lens T_api_Installed T_api_Entry where
  off := 0
  get := T_api_Installed.f_Entry
  set b g := { b with f_Entry := g }
  inb := by decide
  get_rep h := h.2.1
  set_rep h hg := by
    have hl := h.1
    have hd := Rp.len hg
    exact ⟨sp_len hl hd (by decide), by rw [sp_same hl hd (by decide)]; exact hg, by rw [sp_other hl hd (by decide) (.inr (by decide))]; exact h.2.2.1, by rw [sp_other hl hd (by decide) (.inr (by decide))]; exact h.2.2.2⟩
def le_T_api_Installed_Number : Lens T_api_Installed Int where
  off := 5
  get := T_api_Installed.f_Number
  set b g := { b with f_Number := g }
  inb := by decide
  get_rep h := h.2.2.1
  set_rep h hg := by
    have hl := h.1
    have hd := Rp.len hg
    exact ⟨sp_len hl hd (by decide), by rw [sp_other hl hd (by decide) (.inl (by decide))]; exact h.2.1, by rw [sp_same hl hd (by decide)]; exact hg, by rw [sp_other hl hd (by decide) (.inr (by decide))]; exact h.2.2.2⟩
def le_T_api_Installed_Owner : Lens T_api_Installed Int where
  off := 6
  get := T_api_Installed.f_Owner
  set b g := { b with f_Owner := g }
  inb := by decide
  get_rep h := h.2.2.2
  set_rep h hg := by
    have hl := h.1
    have hd := Rp.len hg
    exact ⟨sp_len hl hd (by decide), by rw [sp_other hl hd (by decide) (.inl (by decide))]; exact h.2.1, by rw [sp_other hl hd (by decide) (.inl (by decide))]; exact h.2.2.1, by rw [sp_same hl hd (by decide)]; exact hg⟩
instance : Zc T_api_Installed := ⟨Zc.cells T_api_Entry ++ Zc.cells Int ++ Zc.cells Int, fun A W => ⟨by rfl, Zc.ok (α := T_api_Entry) A W, Zc.ok (α := Int) A W, Zc.ok (α := Int) A W⟩⟩
theorem en22 : En Try.prog 22 := ⟨_, Try.func22, rfl, by kernel_rfl⟩
theorem zr104 : Zr Try.prog 104 (default : T_api_Match) := Zr.of (by kernel_rfl)
theorem bu104 : Bu Try.prog 104 #[(0, 1), (1, 2), (3, 2), (5, 1), (6, 2)] := ⟨_, Try.underlying104, by kernel_rfl, by kernel_rfl⟩
theorem ty104 : Ty Try.prog 104 T_api_Match := Ty.of (by rfl) Try.underlying104 (by kernel_rfl)
theorem zr89 : Zr Try.prog 89 (default : T_api_Entry) := Zr.of (by kernel_rfl)
theorem bu89 : Bu Try.prog 89 #[(0, 1), (1, 1), (2, 1), (3, 1), (4, 1)] := ⟨_, Try.underlying89, by kernel_rfl, by kernel_rfl⟩
theorem zr92 : Zr Try.prog 92 (default : T_api_Installed) := Zr.of (by kernel_rfl)
theorem bu92 : Bu Try.prog 92 #[(0, 5), (5, 1), (6, 1)] := ⟨_, Try.underlying92, by kernel_rfl, by kernel_rfl⟩
theorem ty92 : Ty Try.prog 92 T_api_Installed := Ty.of (by rfl) Try.underlying92 (by kernel_rfl)
structure T_cube_Cube where
  f_Value : Vector T_api_Value 4
  f_Mask : Vector T_api_Value 4
  deriving DecidableEq, Inhabited
instance : Rp T_cube_Cube where
  size := 16
  agg := true
  rep A W cs x := cs.length = 16 ∧ Rp.rep A W ((cs.drop 0).take (Rp.size (Vector T_api_Value 4))) x.f_Value ∧ Rp.rep A W ((cs.drop 8).take (Rp.size (Vector T_api_Value 4))) x.f_Mask
  len h := h.1
  one h := by
    intro u hu
    have h0 := mem_cut (o := 0) (s := Rp.size (Vector T_api_Value 4)) (by simpa using hu)
    rcases h0 with h1 | h0
    · exact Rp.one h.2.1 u h1
    have h0 := mem_cut (s := Rp.size (Vector T_api_Value 4)) h0
    rcases h0 with h1 | h0
    · exact Rp.one h.2.2 u h1
    exact mem_end h.1 (by rfl) h0
  flat h := by cases h
  mono e h := ⟨h.1, Rp.mono e h.2.1, Rp.mono e h.2.2⟩
def le_T_cube_Cube_Value : Lens T_cube_Cube (Vector T_api_Value 4) where
  off := 0
  get := T_cube_Cube.f_Value
  set b g := { b with f_Value := g }
  inb := by decide
  get_rep h := h.2.1
  set_rep h hg := by
    have hl := h.1
    have hd := Rp.len hg
    exact ⟨sp_len hl hd (by decide), by rw [sp_same hl hd (by decide)]; exact hg, by rw [sp_other hl hd (by decide) (.inr (by decide))]; exact h.2.2⟩
def le_T_cube_Cube_Mask : Lens T_cube_Cube (Vector T_api_Value 4) where
  off := 8
  get := T_cube_Cube.f_Mask
  set b g := { b with f_Mask := g }
  inb := by decide
  get_rep h := h.2.2
  set_rep h hg := by
    have hl := h.1
    have hd := Rp.len hg
    exact ⟨sp_len hl hd (by decide), by rw [sp_other hl hd (by decide) (.inl (by decide))]; exact h.2.1, by rw [sp_same hl hd (by decide)]; exact hg⟩
instance : Zc T_cube_Cube := ⟨Zc.cells (Vector T_api_Value 4) ++ Zc.cells (Vector T_api_Value 4), fun A W => ⟨by rfl, Zc.ok (α := Vector T_api_Value 4) A W, Zc.ok (α := Vector T_api_Value 4) A W⟩⟩
theorem zr185 : Zr Try.prog 185 (default : T_cube_Cube) := Zr.of (by kernel_rfl)
theorem fd92_1 : FdA Try.prog 92 1 5 := FdA.of Try.underlying92 rfl rfl ty3 rfl
theorem en125 : En Try.prog 125 := ⟨_, Try.func125, rfl, by kernel_rfl⟩
theorem en117 : En Try.prog 117 := ⟨_, Try.func117, rfl, by kernel_rfl⟩
theorem bu185 : Bu Try.prog 185 #[(0, 8), (8, 8)] := ⟨_, Try.underlying185, by kernel_rfl, by kernel_rfl⟩
theorem ty185 : Ty Try.prog 185 T_cube_Cube := Ty.of (by rfl) Try.underlying185 (by kernel_rfl)
theorem ty89 : Ty Try.prog 89 T_api_Entry := Ty.of (by rfl) Try.underlying89 (by kernel_rfl)
theorem fd92_0 : FdA Try.prog 92 0 0 := FdA.of Try.underlying92 rfl rfl ty89 rfl
theorem fd89_0 : FdA Try.prog 89 0 0 := FdA.of Try.underlying89 rfl rfl ty3 rfl
theorem en154 : En Try.prog 154 := ⟨_, Try.func154, rfl, by kernel_rfl⟩
theorem en153 : En Try.prog 153 := ⟨_, Try.func153, rfl, by kernel_rfl⟩
theorem en126 : En Try.prog 126 := ⟨_, Try.func126, rfl, by kernel_rfl⟩
theorem en155 : En Try.prog 155 := ⟨_, Try.func155, rfl, by kernel_rfl⟩
theorem fd163_2 : FdA Try.prog 163 2 2 := FdA.of Try.underlying163 rfl rfl ty3 rfl
theorem en128 : En Try.prog 128 := ⟨_, Try.func128, rfl, by kernel_rfl⟩
theorem en127 : En Try.prog 127 := ⟨_, Try.func127, rfl, by kernel_rfl⟩
theorem fd163_1 : FdA Try.prog 163 1 1 := FdA.of Try.underlying163 rfl rfl ty3 rfl
theorem fd123_0 : FdA Try.prog 123 0 0 := FdA.of Try.underlying123 rfl rfl ty3 rfl
theorem en183 : En Try.prog 183 := ⟨_, Try.func183, rfl, by kernel_rfl⟩
theorem en182 : En Try.prog 182 := ⟨_, Try.func182, rfl, by kernel_rfl⟩
theorem en156 : En Try.prog 156 := ⟨_, Try.func156, rfl, by kernel_rfl⟩
theorem ty87 : Ty Try.prog 87 (List T_api_Match) := Ty.of (by rfl) Try.underlying87 (by kernel_rfl)
theorem fd89_1 : FdA Try.prog 89 1 1 := FdA.of Try.underlying89 rfl rfl ty87 rfl
theorem fd123_2 : FdA Try.prog 123 2 2 := FdA.of Try.underlying123 rfl rfl ty3 rfl
theorem fd104_0 : FdA Try.prog 104 0 0 := FdA.of Try.underlying104 rfl rfl ty4 rfl
theorem en193 : En Try.prog 193 := ⟨_, Try.func193, rfl, by kernel_rfl⟩
theorem ty45 : Ty Try.prog 45 (BitVec 64) := Ty.of (by rfl) Try.underlying45 (by kernel_rfl)
theorem fd47_0 : FdA Try.prog 47 0 0 := FdA.of Try.underlying47 rfl rfl ty45 rfl
theorem fd47_1 : FdA Try.prog 47 1 1 := FdA.of Try.underlying47 rfl rfl ty45 rfl
theorem en194 : En Try.prog 194 := ⟨_, Try.func194, rfl, by kernel_rfl⟩
theorem en184 : En Try.prog 184 := ⟨_, Try.func184, rfl, by kernel_rfl⟩
theorem fd104_3 : FdA Try.prog 104 3 5 := FdA.of Try.underlying104 rfl rfl ty3 rfl
theorem en187 : En Try.prog 187 := ⟨_, Try.func187, rfl, by kernel_rfl⟩
theorem en177 : En Try.prog 177 := ⟨_, Try.func177, rfl, by kernel_rfl⟩
theorem fd104_2 : FdA Try.prog 104 2 3 := FdA.of Try.underlying104 rfl rfl ty47 rfl
theorem en157 : En Try.prog 157 := ⟨_, Try.func157, rfl, by kernel_rfl⟩
theorem ty81 : Ty Try.prog 81 (Vector T_api_Value 4) := Ty.of (by rfl) Try.underlying81 (by kernel_rfl)
theorem fd185_1 : FdA Try.prog 185 1 8 := FdA.of Try.underlying185 rfl rfl ty81 rfl
theorem ar81 : Ar Try.prog 81 4 2 := Ar.of Try.underlying81 ty47 rfl
theorem fd104_1 : FdA Try.prog 104 1 1 := FdA.of Try.underlying104 rfl rfl ty47 rfl
theorem en158 : En Try.prog 158 := ⟨_, Try.func158, rfl, by kernel_rfl⟩
theorem fd185_0 : FdA Try.prog 185 0 0 := FdA.of Try.underlying185 rfl rfl ty81 rfl
theorem en129 : En Try.prog 129 := ⟨_, Try.func129, rfl, by kernel_rfl⟩
theorem zr186 : Zr Try.prog 186 (default : List T_cube_Cube) := Zr.of (by kernel_rfl)
theorem en130 : En Try.prog 130 := ⟨_, Try.func130, rfl, by kernel_rfl⟩
theorem ty84 : Ty Try.prog 84 (List T_api_Installed) := Ty.of (by rfl) Try.underlying84 (by kernel_rfl)
theorem fd89_2 : FdA Try.prog 89 2 2 := FdA.of Try.underlying89 rfl rfl ty3 rfl
theorem en178 : En Try.prog 178 := ⟨_, Try.func178, rfl, by kernel_rfl⟩
theorem en145 : En Try.prog 145 := ⟨_, Try.func145, rfl, by kernel_rfl⟩
theorem en139 : En Try.prog 139 := ⟨_, Try.func139, rfl, by kernel_rfl⟩
theorem en179 : En Try.prog 179 := ⟨_, Try.func179, rfl, by kernel_rfl⟩
theorem en146 : En Try.prog 146 := ⟨_, Try.func146, rfl, by kernel_rfl⟩
theorem en144 : En Try.prog 144 := ⟨_, Try.func144, rfl, by kernel_rfl⟩
theorem en119 : En Try.prog 119 := ⟨_, Try.func119, rfl, by kernel_rfl⟩
theorem ty186 : Ty Try.prog 186 (List T_cube_Cube) := Ty.of (by rfl) Try.underlying186 (by kernel_rfl)
theorem zh186_0 : Zh Try.prog 186 [0] := by unfold Zh; kernel_rfl
theorem en159 : En Try.prog 159 := ⟨_, Try.func159, rfl, by kernel_rfl⟩
theorem en90 : En Try.prog 90 := ⟨_, Try.func90, rfl, by kernel_rfl⟩
theorem en161 : En Try.prog 161 := ⟨_, Try.func161, rfl, by kernel_rfl⟩
theorem zr81 : Zr Try.prog 81 (default : Vector T_api_Value 4) := Zr.of (by kernel_rfl)
theorem en186 : En Try.prog 186 := ⟨_, Try.func186, rfl, by kernel_rfl⟩
theorem eqv45 : Eqv Try.prog 45 (BitVec 64) 1 := eqv_u64 (K := .u64) Try.underlying45
theorem eqv47 : Eqv Try.prog 47 T_api_Value 2 := eqv_struct (k := 1) rfl Try.underlying47 (by kernel_rfl) fun d hd A W xs ys x y hx hy => by
  refine Eq.trans (eqf_cons le_T_api_Value_Hi ty45 rfl (by rfl) eqv45 (by omega) hx hy (eqf_cons le_T_api_Value_Lo ty45 rfl (by rfl) eqv45 (by omega) hx hy (eqf_nil))) ?_
  congr 1
  rw [Bool.eq_iff_iff]
  simp only [Bool.and_eq_true, decide_eq_true_eq, and_true]
  cases x; cases y
  simp [le_T_api_Value_Hi, le_T_api_Value_Lo]

theorem eqv81 : Eqv Try.prog 81 (Vector T_api_Value 4) 3 := eqv_arr Try.underlying81 ty47 eqv47
theorem eqg81 : Try.prog.eqGuardType Try.prog.depth 81 = false := by kernel_rfl
theorem en174 : En Try.prog 174 := ⟨_, Try.func174, rfl, by kernel_rfl⟩
theorem en163 : En Try.prog 163 := ⟨_, Try.func163, rfl, by kernel_rfl⟩
theorem en162 : En Try.prog 162 := ⟨_, Try.func162, rfl, by kernel_rfl⟩
theorem en185 : En Try.prog 185 := ⟨_, Try.func185, rfl, by kernel_rfl⟩
theorem en160 : En Try.prog 160 := ⟨_, Try.func160, rfl, by kernel_rfl⟩
theorem en131 : En Try.prog 131 := ⟨_, Try.func131, rfl, by kernel_rfl⟩
theorem eqv185 : Eqv Try.prog 185 T_cube_Cube 4 := eqv_struct (k := 3) rfl Try.underlying185 (by kernel_rfl) fun d hd A W xs ys x y hx hy => by
  refine Eq.trans (eqf_cons le_T_cube_Cube_Value ty81 rfl (by rfl) eqv81 (by omega) hx hy (eqf_cons le_T_cube_Cube_Mask ty81 rfl (by rfl) eqv81 (by omega) hx hy (eqf_nil))) ?_
  congr 1
  rw [Bool.eq_iff_iff]
  simp only [Bool.and_eq_true, decide_eq_true_eq, and_true]
  cases x; cases y
  simp [le_T_cube_Cube_Value, le_T_cube_Cube_Mask]

theorem eqg185 : Try.prog.eqGuardType Try.prog.depth 185 = false := by kernel_rfl
theorem en166 : En Try.prog 166 := ⟨_, Try.func166, rfl, by kernel_rfl⟩
theorem en165 : En Try.prog 165 := ⟨_, Try.func165, rfl, by kernel_rfl⟩
theorem en164 : En Try.prog 164 := ⟨_, Try.func164, rfl, by kernel_rfl⟩
theorem en188 : En Try.prog 188 := ⟨_, Try.func188, rfl, by kernel_rfl⟩
theorem en167 : En Try.prog 167 := ⟨_, Try.func167, rfl, by kernel_rfl⟩
theorem en168 : En Try.prog 168 := ⟨_, Try.func168, rfl, by kernel_rfl⟩
theorem en132 : En Try.prog 132 := ⟨_, Try.func132, rfl, by kernel_rfl⟩
theorem fv47_1 : Fv Try.prog 47 1 45 1 := ⟨_, _, Try.underlying47, rfl, rfl, rfl⟩
theorem en190 : En Try.prog 190 := ⟨_, Try.func190, rfl, by kernel_rfl⟩
theorem en189 : En Try.prog 189 := ⟨_, Try.func189, rfl, by kernel_rfl⟩
theorem en169 : En Try.prog 169 := ⟨_, Try.func169, rfl, by kernel_rfl⟩
theorem en171 : En Try.prog 171 := ⟨_, Try.func171, rfl, by kernel_rfl⟩
theorem en170 : En Try.prog 170 := ⟨_, Try.func170, rfl, by kernel_rfl⟩
theorem en173 : En Try.prog 173 := ⟨_, Try.func173, rfl, by kernel_rfl⟩
theorem en172 : En Try.prog 172 := ⟨_, Try.func172, rfl, by kernel_rfl⟩
theorem en133 : En Try.prog 133 := ⟨_, Try.func133, rfl, by kernel_rfl⟩
theorem en91 : En Try.prog 91 := ⟨_, Try.func91, rfl, by kernel_rfl⟩
theorem en40 : En Try.prog 40 := ⟨_, Try.func40, rfl, by kernel_rfl⟩
theorem en92 : En Try.prog 92 := ⟨_, Try.func92, rfl, by kernel_rfl⟩
theorem en41 : En Try.prog 41 := ⟨_, Try.func41, rfl, by kernel_rfl⟩
theorem en42 : En Try.prog 42 := ⟨_, Try.func42, rfl, by kernel_rfl⟩
end Go.Proofs.Ytodajdohokmjnaa
