/-
  The types of the data, and facts on their tables. Conditions: none.
-/
import Derived.Test.YtodajdohokmjnaaRows
import Derived.Test.YtodajdohokmjnaaMl2
namespace Go.Proofs.Ytodajdohokmjnaa
open Go Gv
set_option linter.unusedVariables false
set_option linter.unusedSimpArgs false
set_option maxRecDepth 100000
structure T_api_Value where
  f_Hi : BitVec 64
  f_Lo : BitVec 64
  deriving DecidableEq, Inhabited
instance : Rp T_api_Value where
  size := 2
  agg := true
  rep A W cs x := cs.length = 2 ∧ Rp.rep A W ((cs.drop 0).take (Rp.size (BitVec 64))) x.f_Hi ∧ Rp.rep A W ((cs.drop 1).take (Rp.size (BitVec 64))) x.f_Lo
  len h := h.1
  one h := by
    intro u hu
    have h0 := mem_cut (o := 0) (s := Rp.size (BitVec 64)) (by simpa using hu)
    rcases h0 with h1 | h0
    · exact Rp.one h.2.1 u h1
    have h0 := mem_cut (s := Rp.size (BitVec 64)) h0
    rcases h0 with h1 | h0
    · exact Rp.one h.2.2 u h1
    exact mem_end h.1 (by rfl) h0
  flat h := by cases h
  mono e h := ⟨h.1, Rp.mono e h.2.1, Rp.mono e h.2.2⟩
def le_T_api_Value_Hi : Lens T_api_Value (BitVec 64) where
  off := 0
  get := T_api_Value.f_Hi
  set b g := { b with f_Hi := g }
  inb := by decide
  get_rep h := h.2.1
  set_rep h hg := by
    have hl := h.1
    have hd := Rp.len hg
    exact ⟨sp_len hl hd (by decide), by rw [sp_same hl hd (by decide)]; exact hg, by rw [sp_other hl hd (by decide) (.inr (by decide))]; exact h.2.2⟩
def le_T_api_Value_Lo : Lens T_api_Value (BitVec 64) where
  off := 1
  get := T_api_Value.f_Lo
  set b g := { b with f_Lo := g }
  inb := by decide
  get_rep h := h.2.2
  set_rep h hg := by
    have hl := h.1
    have hd := Rp.len hg
    exact ⟨sp_len hl hd (by decide), by rw [sp_other hl hd (by decide) (.inl (by decide))]; exact h.2.1, by rw [sp_same hl hd (by decide)]; exact hg⟩
instance : Zc T_api_Value := ⟨Zc.cells (BitVec 64) ++ Zc.cells (BitVec 64), fun A W => ⟨by rfl, Zc.ok (α := BitVec 64) A W, Zc.ok (α := BitVec 64) A W⟩⟩
structure T_mcase_Codes where
  f_l : List (BitVec 8)
  f_at : Int
  deriving DecidableEq, Inhabited
instance : Rp T_mcase_Codes where
  size := 2
  agg := true
  rep A W cs x := cs.length = 2 ∧ Rp.rep A W ((cs.drop 0).take (Rp.size (List (BitVec 8)))) x.f_l ∧ Rp.rep A W ((cs.drop 1).take (Rp.size Int)) x.f_at
  len h := h.1
  one h := by
    intro u hu
    have h0 := mem_cut (o := 0) (s := Rp.size (List (BitVec 8))) (by simpa using hu)
    rcases h0 with h1 | h0
    · exact Rp.one h.2.1 u h1
    have h0 := mem_cut (s := Rp.size Int) h0
    rcases h0 with h1 | h0
    · exact Rp.one h.2.2 u h1
    exact mem_end h.1 (by rfl) h0
  flat h := by cases h
  mono e h := ⟨h.1, Rp.mono e h.2.1, Rp.mono e h.2.2⟩
def le_T_mcase_Codes_l : Lens T_mcase_Codes (List (BitVec 8)) where
  off := 0
  get := T_mcase_Codes.f_l
  set b g := { b with f_l := g }
  inb := by decide
  get_rep h := h.2.1
  set_rep h hg := by
    have hl := h.1
    have hd := Rp.len hg
    exact ⟨sp_len hl hd (by decide), by rw [sp_same hl hd (by decide)]; exact hg, by rw [sp_other hl hd (by decide) (.inr (by decide))]; exact h.2.2⟩
def le_T_mcase_Codes_at : Lens T_mcase_Codes Int where
  off := 1
  get := T_mcase_Codes.f_at
  set b g := { b with f_at := g }
  inb := by decide
  get_rep h := h.2.2
  set_rep h hg := by
    have hl := h.1
    have hd := Rp.len hg
    exact ⟨sp_len hl hd (by decide), by rw [sp_other hl hd (by decide) (.inl (by decide))]; exact h.2.1, by rw [sp_same hl hd (by decide)]; exact hg⟩
instance : Zc T_mcase_Codes := ⟨Zc.cells (List (BitVec 8)) ++ Zc.cells Int, fun A W => ⟨by rfl, Zc.ok (α := List (BitVec 8)) A W, Zc.ok (α := Int) A W⟩⟩
theorem ty5 : Ty Try.prog 5 (BitVec 8) := Ty.of (by rfl) Try.underlying5 (by kernel_rfl)
theorem zr120 : Zr Try.prog 120 (default : T_mcase_Codes) := Zr.of (by kernel_rfl)
theorem bu120 : Bu Try.prog 120 #[(0, 1), (1, 1)] := ⟨_, Try.underlying120, by kernel_rfl, by kernel_rfl⟩
theorem en12 : En Try.prog 12 := ⟨_, Try.func12, rfl, by kernel_rfl⟩
structure T_api_Field where
  f_ID : Int
  f_Name : ByteArray
  f_Bits : Int
  deriving DecidableEq, Inhabited
instance : Rp T_api_Field where
  size := 3
  agg := true
  rep A W cs x := cs.length = 3 ∧ Rp.rep A W ((cs.drop 0).take (Rp.size Int)) x.f_ID ∧ Rp.rep A W ((cs.drop 1).take (Rp.size ByteArray)) x.f_Name ∧ Rp.rep A W ((cs.drop 2).take (Rp.size Int)) x.f_Bits
  len h := h.1
  one h := by
    intro u hu
    have h0 := mem_cut (o := 0) (s := Rp.size Int) (by simpa using hu)
    rcases h0 with h1 | h0
    · exact Rp.one h.2.1 u h1
    have h0 := mem_cut (s := Rp.size ByteArray) h0
    rcases h0 with h1 | h0
    · exact Rp.one h.2.2.1 u h1
    have h0 := mem_cut (s := Rp.size Int) h0
    rcases h0 with h1 | h0
    · exact Rp.one h.2.2.2 u h1
    exact mem_end h.1 (by rfl) h0
  flat h := by cases h
  mono e h := ⟨h.1, Rp.mono e h.2.1, Rp.mono e h.2.2.1, Rp.mono e h.2.2.2⟩
def le_T_api_Field_ID : Lens T_api_Field Int where
  off := 0
  get := T_api_Field.f_ID
  set b g := { b with f_ID := g }
  inb := by decide
  get_rep h := h.2.1
  set_rep h hg := by
    have hl := h.1
    have hd := Rp.len hg
    exact ⟨sp_len hl hd (by decide), by rw [sp_same hl hd (by decide)]; exact hg, by rw [sp_other hl hd (by decide) (.inr (by decide))]; exact h.2.2.1, by rw [sp_other hl hd (by decide) (.inr (by decide))]; exact h.2.2.2⟩
def le_T_api_Field_Name : Lens T_api_Field ByteArray where
  off := 1
  get := T_api_Field.f_Name
  set b g := { b with f_Name := g }
  inb := by decide
  get_rep h := h.2.2.1
  set_rep h hg := by
    have hl := h.1
    have hd := Rp.len hg
    exact ⟨sp_len hl hd (by decide), by rw [sp_other hl hd (by decide) (.inl (by decide))]; exact h.2.1, by rw [sp_same hl hd (by decide)]; exact hg, by rw [sp_other hl hd (by decide) (.inr (by decide))]; exact h.2.2.2⟩
def le_T_api_Field_Bits : Lens T_api_Field Int where
  off := 2
  get := T_api_Field.f_Bits
  set b g := { b with f_Bits := g }
  inb := by decide
  get_rep h := h.2.2.2
  set_rep h hg := by
    have hl := h.1
    have hd := Rp.len hg
    exact ⟨sp_len hl hd (by decide), by rw [sp_other hl hd (by decide) (.inl (by decide))]; exact h.2.1, by rw [sp_other hl hd (by decide) (.inl (by decide))]; exact h.2.2.1, by rw [sp_same hl hd (by decide)]; exact hg⟩
instance : Zc T_api_Field := ⟨Zc.cells Int ++ Zc.cells ByteArray ++ Zc.cells Int, fun A W => ⟨by rfl, Zc.ok (α := Int) A W, Zc.ok (α := ByteArray) A W, Zc.ok (α := Int) A W⟩⟩
structure T_api_Header where
  f_ID : Int
  f_Name : ByteArray
  f_Fields : List Int
  deriving DecidableEq, Inhabited
instance : Rp T_api_Header where
  size := 3
  agg := true
  rep A W cs x := cs.length = 3 ∧ Rp.rep A W ((cs.drop 0).take (Rp.size Int)) x.f_ID ∧ Rp.rep A W ((cs.drop 1).take (Rp.size ByteArray)) x.f_Name ∧ Rp.rep A W ((cs.drop 2).take (Rp.size (List Int))) x.f_Fields
  len h := h.1
  one h := by
    intro u hu
    have h0 := mem_cut (o := 0) (s := Rp.size Int) (by simpa using hu)
    rcases h0 with h1 | h0
    · exact Rp.one h.2.1 u h1
    have h0 := mem_cut (s := Rp.size ByteArray) h0
    rcases h0 with h1 | h0
    · exact Rp.one h.2.2.1 u h1
    have h0 := mem_cut (s := Rp.size (List Int)) h0
    rcases h0 with h1 | h0
    · exact Rp.one h.2.2.2 u h1
    exact mem_end h.1 (by rfl) h0
  flat h := by cases h
  mono e h := ⟨h.1, Rp.mono e h.2.1, Rp.mono e h.2.2.1, Rp.mono e h.2.2.2⟩
def le_T_api_Header_ID : Lens T_api_Header Int where
  off := 0
  get := T_api_Header.f_ID
  set b g := { b with f_ID := g }
  inb := by decide
  get_rep h := h.2.1
  set_rep h hg := by
    have hl := h.1
    have hd := Rp.len hg
    exact ⟨sp_len hl hd (by decide), by rw [sp_same hl hd (by decide)]; exact hg, by rw [sp_other hl hd (by decide) (.inr (by decide))]; exact h.2.2.1, by rw [sp_other hl hd (by decide) (.inr (by decide))]; exact h.2.2.2⟩
def le_T_api_Header_Name : Lens T_api_Header ByteArray where
  off := 1
  get := T_api_Header.f_Name
  set b g := { b with f_Name := g }
  inb := by decide
  get_rep h := h.2.2.1
  set_rep h hg := by
    have hl := h.1
    have hd := Rp.len hg
    exact ⟨sp_len hl hd (by decide), by rw [sp_other hl hd (by decide) (.inl (by decide))]; exact h.2.1, by rw [sp_same hl hd (by decide)]; exact hg, by rw [sp_other hl hd (by decide) (.inr (by decide))]; exact h.2.2.2⟩
def le_T_api_Header_Fields : Lens T_api_Header (List Int) where
  off := 2
  get := T_api_Header.f_Fields
  set b g := { b with f_Fields := g }
  inb := by decide
  get_rep h := h.2.2.2
  set_rep h hg := by
    have hl := h.1
    have hd := Rp.len hg
    exact ⟨sp_len hl hd (by decide), by rw [sp_other hl hd (by decide) (.inl (by decide))]; exact h.2.1, by rw [sp_other hl hd (by decide) (.inl (by decide))]; exact h.2.2.1, by rw [sp_same hl hd (by decide)]; exact hg⟩
instance : Zc T_api_Header := ⟨Zc.cells Int ++ Zc.cells ByteArray ++ Zc.cells (List Int), fun A W => ⟨by rfl, Zc.ok (α := Int) A W, Zc.ok (α := ByteArray) A W, Zc.ok (α := List Int) A W⟩⟩
structure T_api_Case where
  f_Value : T_api_Value
  f_Mask : T_api_Value
  f_Next : Int
  deriving DecidableEq, Inhabited
instance : Rp T_api_Case where
  size := 5
  agg := true
  rep A W cs x := cs.length = 5 ∧ Rp.rep A W ((cs.drop 0).take (Rp.size T_api_Value)) x.f_Value ∧ Rp.rep A W ((cs.drop 2).take (Rp.size T_api_Value)) x.f_Mask ∧ Rp.rep A W ((cs.drop 4).take (Rp.size Int)) x.f_Next
  len h := h.1
  one h := by
    intro u hu
    have h0 := mem_cut (o := 0) (s := Rp.size T_api_Value) (by simpa using hu)
    rcases h0 with h1 | h0
    · exact Rp.one h.2.1 u h1
    have h0 := mem_cut (s := Rp.size T_api_Value) h0
    rcases h0 with h1 | h0
    · exact Rp.one h.2.2.1 u h1
    have h0 := mem_cut (s := Rp.size Int) h0
    rcases h0 with h1 | h0
    · exact Rp.one h.2.2.2 u h1
    exact mem_end h.1 (by rfl) h0
  flat h := by cases h
  mono e h := ⟨h.1, Rp.mono e h.2.1, Rp.mono e h.2.2.1, Rp.mono e h.2.2.2⟩
def le_T_api_Case_Value : Lens T_api_Case T_api_Value where
  off := 0
  get := T_api_Case.f_Value
  set b g := { b with f_Value := g }
  inb := by decide
  get_rep h := h.2.1
  set_rep h hg := by
    have hl := h.1
    have hd := Rp.len hg
    exact ⟨sp_len hl hd (by decide), by rw [sp_same hl hd (by decide)]; exact hg, by rw [sp_other hl hd (by decide) (.inr (by decide))]; exact h.2.2.1, by rw [sp_other hl hd (by decide) (.inr (by decide))]; exact h.2.2.2⟩
def le_T_api_Case_Mask : Lens T_api_Case T_api_Value where
  off := 2
  get := T_api_Case.f_Mask
  set b g := { b with f_Mask := g }
  inb := by decide
  get_rep h := h.2.2.1
  set_rep h hg := by
    have hl := h.1
    have hd := Rp.len hg
    exact ⟨sp_len hl hd (by decide), by rw [sp_other hl hd (by decide) (.inl (by decide))]; exact h.2.1, by rw [sp_same hl hd (by decide)]; exact hg, by rw [sp_other hl hd (by decide) (.inr (by decide))]; exact h.2.2.2⟩
def le_T_api_Case_Next : Lens T_api_Case Int where
  off := 4
  get := T_api_Case.f_Next
  set b g := { b with f_Next := g }
  inb := by decide
  get_rep h := h.2.2.2
  set_rep h hg := by
    have hl := h.1
    have hd := Rp.len hg
    exact ⟨sp_len hl hd (by decide), by rw [sp_other hl hd (by decide) (.inl (by decide))]; exact h.2.1, by rw [sp_other hl hd (by decide) (.inl (by decide))]; exact h.2.2.1, by rw [sp_same hl hd (by decide)]; exact hg⟩
instance : Zc T_api_Case := ⟨Zc.cells T_api_Value ++ Zc.cells T_api_Value ++ Zc.cells Int, fun A W => ⟨by rfl, Zc.ok (α := T_api_Value) A W, Zc.ok (α := T_api_Value) A W, Zc.ok (α := Int) A W⟩⟩
structure T_api_State where
  f_ID : Int
  f_Header : Int
  f_Select : Int
  f_Cases : List T_api_Case
  f_Default : Int
  deriving DecidableEq, Inhabited
instance : Rp T_api_State where
  size := 5
  agg := true
  rep A W cs x := cs.length = 5 ∧ Rp.rep A W ((cs.drop 0).take (Rp.size Int)) x.f_ID ∧ Rp.rep A W ((cs.drop 1).take (Rp.size Int)) x.f_Header ∧ Rp.rep A W ((cs.drop 2).take (Rp.size Int)) x.f_Select ∧ Rp.rep A W ((cs.drop 3).take (Rp.size (List T_api_Case))) x.f_Cases ∧ Rp.rep A W ((cs.drop 4).take (Rp.size Int)) x.f_Default
  len h := h.1
  one h := by
    intro u hu
    have h0 := mem_cut (o := 0) (s := Rp.size Int) (by simpa using hu)
    rcases h0 with h1 | h0
    · exact Rp.one h.2.1 u h1
    have h0 := mem_cut (s := Rp.size Int) h0
    rcases h0 with h1 | h0
    · exact Rp.one h.2.2.1 u h1
    have h0 := mem_cut (s := Rp.size Int) h0
    rcases h0 with h1 | h0
    · exact Rp.one h.2.2.2.1 u h1
    have h0 := mem_cut (s := Rp.size (List T_api_Case)) h0
    rcases h0 with h1 | h0
    · exact Rp.one h.2.2.2.2.1 u h1
    have h0 := mem_cut (s := Rp.size Int) h0
    rcases h0 with h1 | h0
    · exact Rp.one h.2.2.2.2.2 u h1
    exact mem_end h.1 (by rfl) h0
  flat h := by cases h
  mono e h := ⟨h.1, Rp.mono e h.2.1, Rp.mono e h.2.2.1, Rp.mono e h.2.2.2.1, Rp.mono e h.2.2.2.2.1, Rp.mono e h.2.2.2.2.2⟩
def le_T_api_State_ID : Lens T_api_State Int where
  off := 0
  get := T_api_State.f_ID
  set b g := { b with f_ID := g }
  inb := by decide
  get_rep h := h.2.1
  set_rep h hg := by
    have hl := h.1
    have hd := Rp.len hg
    exact ⟨sp_len hl hd (by decide), by rw [sp_same hl hd (by decide)]; exact hg, by rw [sp_other hl hd (by decide) (.inr (by decide))]; exact h.2.2.1, by rw [sp_other hl hd (by decide) (.inr (by decide))]; exact h.2.2.2.1, by rw [sp_other hl hd (by decide) (.inr (by decide))]; exact h.2.2.2.2.1, by rw [sp_other hl hd (by decide) (.inr (by decide))]; exact h.2.2.2.2.2⟩
def le_T_api_State_Header : Lens T_api_State Int where
  off := 1
  get := T_api_State.f_Header
  set b g := { b with f_Header := g }
  inb := by decide
  get_rep h := h.2.2.1
  set_rep h hg := by
    have hl := h.1
    have hd := Rp.len hg
    exact ⟨sp_len hl hd (by decide), by rw [sp_other hl hd (by decide) (.inl (by decide))]; exact h.2.1, by rw [sp_same hl hd (by decide)]; exact hg, by rw [sp_other hl hd (by decide) (.inr (by decide))]; exact h.2.2.2.1, by rw [sp_other hl hd (by decide) (.inr (by decide))]; exact h.2.2.2.2.1, by rw [sp_other hl hd (by decide) (.inr (by decide))]; exact h.2.2.2.2.2⟩
def le_T_api_State_Select : Lens T_api_State Int where
  off := 2
  get := T_api_State.f_Select
  set b g := { b with f_Select := g }
  inb := by decide
  get_rep h := h.2.2.2.1
  set_rep h hg := by
    have hl := h.1
    have hd := Rp.len hg
    exact ⟨sp_len hl hd (by decide), by rw [sp_other hl hd (by decide) (.inl (by decide))]; exact h.2.1, by rw [sp_other hl hd (by decide) (.inl (by decide))]; exact h.2.2.1, by rw [sp_same hl hd (by decide)]; exact hg, by rw [sp_other hl hd (by decide) (.inr (by decide))]; exact h.2.2.2.2.1, by rw [sp_other hl hd (by decide) (.inr (by decide))]; exact h.2.2.2.2.2⟩
def le_T_api_State_Cases : Lens T_api_State (List T_api_Case) where
  off := 3
  get := T_api_State.f_Cases
  set b g := { b with f_Cases := g }
  inb := by decide
  get_rep h := h.2.2.2.2.1
  set_rep h hg := by
    have hl := h.1
    have hd := Rp.len hg
    exact ⟨sp_len hl hd (by decide), by rw [sp_other hl hd (by decide) (.inl (by decide))]; exact h.2.1, by rw [sp_other hl hd (by decide) (.inl (by decide))]; exact h.2.2.1, by rw [sp_other hl hd (by decide) (.inl (by decide))]; exact h.2.2.2.1, by rw [sp_same hl hd (by decide)]; exact hg, by rw [sp_other hl hd (by decide) (.inr (by decide))]; exact h.2.2.2.2.2⟩
def le_T_api_State_Default : Lens T_api_State Int where
  off := 4
  get := T_api_State.f_Default
  set b g := { b with f_Default := g }
  inb := by decide
  get_rep h := h.2.2.2.2.2
  set_rep h hg := by
    have hl := h.1
    have hd := Rp.len hg
    exact ⟨sp_len hl hd (by decide), by rw [sp_other hl hd (by decide) (.inl (by decide))]; exact h.2.1, by rw [sp_other hl hd (by decide) (.inl (by decide))]; exact h.2.2.1, by rw [sp_other hl hd (by decide) (.inl (by decide))]; exact h.2.2.2.1, by rw [sp_other hl hd (by decide) (.inl (by decide))]; exact h.2.2.2.2.1, by rw [sp_same hl hd (by decide)]; exact hg⟩
instance : Zc T_api_State := ⟨Zc.cells Int ++ Zc.cells Int ++ Zc.cells Int ++ Zc.cells (List T_api_Case) ++ Zc.cells Int, fun A W => ⟨by rfl, Zc.ok (α := Int) A W, Zc.ok (α := Int) A W, Zc.ok (α := Int) A W, Zc.ok (α := List T_api_Case) A W, Zc.ok (α := Int) A W⟩⟩
structure T_api_Param where
  f_Name : ByteArray
  f_Bits : Int
  deriving DecidableEq, Inhabited
instance : Rp T_api_Param where
  size := 2
  agg := true
  rep A W cs x := cs.length = 2 ∧ Rp.rep A W ((cs.drop 0).take (Rp.size ByteArray)) x.f_Name ∧ Rp.rep A W ((cs.drop 1).take (Rp.size Int)) x.f_Bits
  len h := h.1
  one h := by
    intro u hu
    have h0 := mem_cut (o := 0) (s := Rp.size ByteArray) (by simpa using hu)
    rcases h0 with h1 | h0
    · exact Rp.one h.2.1 u h1
    have h0 := mem_cut (s := Rp.size Int) h0
    rcases h0 with h1 | h0
    · exact Rp.one h.2.2 u h1
    exact mem_end h.1 (by rfl) h0
  flat h := by cases h
  mono e h := ⟨h.1, Rp.mono e h.2.1, Rp.mono e h.2.2⟩
def le_T_api_Param_Name : Lens T_api_Param ByteArray where
  off := 0
  get := T_api_Param.f_Name
  set b g := { b with f_Name := g }
  inb := by decide
  get_rep h := h.2.1
  set_rep h hg := by
    have hl := h.1
    have hd := Rp.len hg
    exact ⟨sp_len hl hd (by decide), by rw [sp_same hl hd (by decide)]; exact hg, by rw [sp_other hl hd (by decide) (.inr (by decide))]; exact h.2.2⟩
def le_T_api_Param_Bits : Lens T_api_Param Int where
  off := 1
  get := T_api_Param.f_Bits
  set b g := { b with f_Bits := g }
  inb := by decide
  get_rep h := h.2.2
  set_rep h hg := by
    have hl := h.1
    have hd := Rp.len hg
    exact ⟨sp_len hl hd (by decide), by rw [sp_other hl hd (by decide) (.inl (by decide))]; exact h.2.1, by rw [sp_same hl hd (by decide)]; exact hg⟩
instance : Zc T_api_Param := ⟨Zc.cells ByteArray ++ Zc.cells Int, fun A W => ⟨by rfl, Zc.ok (α := ByteArray) A W, Zc.ok (α := Int) A W⟩⟩
structure T_api_Operand where
  f_Kind : Int
  f_N : Int
  f_Value : T_api_Value
  deriving DecidableEq, Inhabited
instance : Rp T_api_Operand where
  size := 4
  agg := true
  rep A W cs x := cs.length = 4 ∧ Rp.rep A W ((cs.drop 0).take (Rp.size Int)) x.f_Kind ∧ Rp.rep A W ((cs.drop 1).take (Rp.size Int)) x.f_N ∧ Rp.rep A W ((cs.drop 2).take (Rp.size T_api_Value)) x.f_Value
  len h := h.1
  one h := by
    intro u hu
    have h0 := mem_cut (o := 0) (s := Rp.size Int) (by simpa using hu)
    rcases h0 with h1 | h0
    · exact Rp.one h.2.1 u h1
    have h0 := mem_cut (s := Rp.size Int) h0
    rcases h0 with h1 | h0
    · exact Rp.one h.2.2.1 u h1
    have h0 := mem_cut (s := Rp.size T_api_Value) h0
    rcases h0 with h1 | h0
    · exact Rp.one h.2.2.2 u h1
    exact mem_end h.1 (by rfl) h0
  flat h := by cases h
  mono e h := ⟨h.1, Rp.mono e h.2.1, Rp.mono e h.2.2.1, Rp.mono e h.2.2.2⟩
def le_T_api_Operand_Kind : Lens T_api_Operand Int where
  off := 0
  get := T_api_Operand.f_Kind
  set b g := { b with f_Kind := g }
  inb := by decide
  get_rep h := h.2.1
  set_rep h hg := by
    have hl := h.1
    have hd := Rp.len hg
    exact ⟨sp_len hl hd (by decide), by rw [sp_same hl hd (by decide)]; exact hg, by rw [sp_other hl hd (by decide) (.inr (by decide))]; exact h.2.2.1, by rw [sp_other hl hd (by decide) (.inr (by decide))]; exact h.2.2.2⟩
def le_T_api_Operand_N : Lens T_api_Operand Int where
  off := 1
  get := T_api_Operand.f_N
  set b g := { b with f_N := g }
  inb := by decide
  get_rep h := h.2.2.1
  set_rep h hg := by
    have hl := h.1
    have hd := Rp.len hg
    exact ⟨sp_len hl hd (by decide), by rw [sp_other hl hd (by decide) (.inl (by decide))]; exact h.2.1, by rw [sp_same hl hd (by decide)]; exact hg, by rw [sp_other hl hd (by decide) (.inr (by decide))]; exact h.2.2.2⟩
def le_T_api_Operand_Value : Lens T_api_Operand T_api_Value where
  off := 2
  get := T_api_Operand.f_Value
  set b g := { b with f_Value := g }
  inb := by decide
  get_rep h := h.2.2.2
  set_rep h hg := by
    have hl := h.1
    have hd := Rp.len hg
    exact ⟨sp_len hl hd (by decide), by rw [sp_other hl hd (by decide) (.inl (by decide))]; exact h.2.1, by rw [sp_other hl hd (by decide) (.inl (by decide))]; exact h.2.2.1, by rw [sp_same hl hd (by decide)]; exact hg⟩
instance : Zc T_api_Operand := ⟨Zc.cells Int ++ Zc.cells Int ++ Zc.cells T_api_Value, fun A W => ⟨by rfl, Zc.ok (α := Int) A W, Zc.ok (α := Int) A W, Zc.ok (α := T_api_Value) A W⟩⟩
structure T_api_Prim where
  f_Op : Int
  f_Dst : Int
  f_Src : T_api_Operand
  deriving DecidableEq, Inhabited
instance : Rp T_api_Prim where
  size := 6
  agg := true
  rep A W cs x := cs.length = 6 ∧ Rp.rep A W ((cs.drop 0).take (Rp.size Int)) x.f_Op ∧ Rp.rep A W ((cs.drop 1).take (Rp.size Int)) x.f_Dst ∧ Rp.rep A W ((cs.drop 2).take (Rp.size T_api_Operand)) x.f_Src
  len h := h.1
  one h := by
    intro u hu
    have h0 := mem_cut (o := 0) (s := Rp.size Int) (by simpa using hu)
    rcases h0 with h1 | h0
    · exact Rp.one h.2.1 u h1
    have h0 := mem_cut (s := Rp.size Int) h0
    rcases h0 with h1 | h0
    · exact Rp.one h.2.2.1 u h1
    have h0 := mem_cut (s := Rp.size T_api_Operand) h0
    rcases h0 with h1 | h0
    · exact Rp.one h.2.2.2 u h1
    exact mem_end h.1 (by rfl) h0
  flat h := by cases h
  mono e h := ⟨h.1, Rp.mono e h.2.1, Rp.mono e h.2.2.1, Rp.mono e h.2.2.2⟩
def le_T_api_Prim_Op : Lens T_api_Prim Int where
  off := 0
  get := T_api_Prim.f_Op
  set b g := { b with f_Op := g }
  inb := by decide
  get_rep h := h.2.1
  set_rep h hg := by
    have hl := h.1
    have hd := Rp.len hg
    exact ⟨sp_len hl hd (by decide), by rw [sp_same hl hd (by decide)]; exact hg, by rw [sp_other hl hd (by decide) (.inr (by decide))]; exact h.2.2.1, by rw [sp_other hl hd (by decide) (.inr (by decide))]; exact h.2.2.2⟩
def le_T_api_Prim_Dst : Lens T_api_Prim Int where
  off := 1
  get := T_api_Prim.f_Dst
  set b g := { b with f_Dst := g }
  inb := by decide
  get_rep h := h.2.2.1
  set_rep h hg := by
    have hl := h.1
    have hd := Rp.len hg
    exact ⟨sp_len hl hd (by decide), by rw [sp_other hl hd (by decide) (.inl (by decide))]; exact h.2.1, by rw [sp_same hl hd (by decide)]; exact hg, by rw [sp_other hl hd (by decide) (.inr (by decide))]; exact h.2.2.2⟩
def le_T_api_Prim_Src : Lens T_api_Prim T_api_Operand where
  off := 2
  get := T_api_Prim.f_Src
  set b g := { b with f_Src := g }
  inb := by decide
  get_rep h := h.2.2.2
  set_rep h hg := by
    have hl := h.1
    have hd := Rp.len hg
    exact ⟨sp_len hl hd (by decide), by rw [sp_other hl hd (by decide) (.inl (by decide))]; exact h.2.1, by rw [sp_other hl hd (by decide) (.inl (by decide))]; exact h.2.2.1, by rw [sp_same hl hd (by decide)]; exact hg⟩
instance : Zc T_api_Prim := ⟨Zc.cells Int ++ Zc.cells Int ++ Zc.cells T_api_Operand, fun A W => ⟨by rfl, Zc.ok (α := Int) A W, Zc.ok (α := Int) A W, Zc.ok (α := T_api_Operand) A W⟩⟩
structure T_api_Action where
  f_ID : Int
  f_Name : ByteArray
  f_Params : List T_api_Param
  f_Body : List T_api_Prim
  f_Restriction : ByteArray
  deriving DecidableEq, Inhabited
instance : Rp T_api_Action where
  size := 5
  agg := true
  rep A W cs x := cs.length = 5 ∧ Rp.rep A W ((cs.drop 0).take (Rp.size Int)) x.f_ID ∧ Rp.rep A W ((cs.drop 1).take (Rp.size ByteArray)) x.f_Name ∧ Rp.rep A W ((cs.drop 2).take (Rp.size (List T_api_Param))) x.f_Params ∧ Rp.rep A W ((cs.drop 3).take (Rp.size (List T_api_Prim))) x.f_Body ∧ Rp.rep A W ((cs.drop 4).take (Rp.size ByteArray)) x.f_Restriction
  len h := h.1
  one h := by
    intro u hu
    have h0 := mem_cut (o := 0) (s := Rp.size Int) (by simpa using hu)
    rcases h0 with h1 | h0
    · exact Rp.one h.2.1 u h1
    have h0 := mem_cut (s := Rp.size ByteArray) h0
    rcases h0 with h1 | h0
    · exact Rp.one h.2.2.1 u h1
    have h0 := mem_cut (s := Rp.size (List T_api_Param)) h0
    rcases h0 with h1 | h0
    · exact Rp.one h.2.2.2.1 u h1
    have h0 := mem_cut (s := Rp.size (List T_api_Prim)) h0
    rcases h0 with h1 | h0
    · exact Rp.one h.2.2.2.2.1 u h1
    have h0 := mem_cut (s := Rp.size ByteArray) h0
    rcases h0 with h1 | h0
    · exact Rp.one h.2.2.2.2.2 u h1
    exact mem_end h.1 (by rfl) h0
  flat h := by cases h
  mono e h := ⟨h.1, Rp.mono e h.2.1, Rp.mono e h.2.2.1, Rp.mono e h.2.2.2.1, Rp.mono e h.2.2.2.2.1, Rp.mono e h.2.2.2.2.2⟩
def le_T_api_Action_ID : Lens T_api_Action Int where
  off := 0
  get := T_api_Action.f_ID
  set b g := { b with f_ID := g }
  inb := by decide
  get_rep h := h.2.1
  set_rep h hg := by
    have hl := h.1
    have hd := Rp.len hg
    exact ⟨sp_len hl hd (by decide), by rw [sp_same hl hd (by decide)]; exact hg, by rw [sp_other hl hd (by decide) (.inr (by decide))]; exact h.2.2.1, by rw [sp_other hl hd (by decide) (.inr (by decide))]; exact h.2.2.2.1, by rw [sp_other hl hd (by decide) (.inr (by decide))]; exact h.2.2.2.2.1, by rw [sp_other hl hd (by decide) (.inr (by decide))]; exact h.2.2.2.2.2⟩
def le_T_api_Action_Name : Lens T_api_Action ByteArray where
  off := 1
  get := T_api_Action.f_Name
  set b g := { b with f_Name := g }
  inb := by decide
  get_rep h := h.2.2.1
  set_rep h hg := by
    have hl := h.1
    have hd := Rp.len hg
    exact ⟨sp_len hl hd (by decide), by rw [sp_other hl hd (by decide) (.inl (by decide))]; exact h.2.1, by rw [sp_same hl hd (by decide)]; exact hg, by rw [sp_other hl hd (by decide) (.inr (by decide))]; exact h.2.2.2.1, by rw [sp_other hl hd (by decide) (.inr (by decide))]; exact h.2.2.2.2.1, by rw [sp_other hl hd (by decide) (.inr (by decide))]; exact h.2.2.2.2.2⟩
def le_T_api_Action_Params : Lens T_api_Action (List T_api_Param) where
  off := 2
  get := T_api_Action.f_Params
  set b g := { b with f_Params := g }
  inb := by decide
  get_rep h := h.2.2.2.1
  set_rep h hg := by
    have hl := h.1
    have hd := Rp.len hg
    exact ⟨sp_len hl hd (by decide), by rw [sp_other hl hd (by decide) (.inl (by decide))]; exact h.2.1, by rw [sp_other hl hd (by decide) (.inl (by decide))]; exact h.2.2.1, by rw [sp_same hl hd (by decide)]; exact hg, by rw [sp_other hl hd (by decide) (.inr (by decide))]; exact h.2.2.2.2.1, by rw [sp_other hl hd (by decide) (.inr (by decide))]; exact h.2.2.2.2.2⟩
def le_T_api_Action_Body : Lens T_api_Action (List T_api_Prim) where
  off := 3
  get := T_api_Action.f_Body
  set b g := { b with f_Body := g }
  inb := by decide
  get_rep h := h.2.2.2.2.1
  set_rep h hg := by
    have hl := h.1
    have hd := Rp.len hg
    exact ⟨sp_len hl hd (by decide), by rw [sp_other hl hd (by decide) (.inl (by decide))]; exact h.2.1, by rw [sp_other hl hd (by decide) (.inl (by decide))]; exact h.2.2.1, by rw [sp_other hl hd (by decide) (.inl (by decide))]; exact h.2.2.2.1, by rw [sp_same hl hd (by decide)]; exact hg, by rw [sp_other hl hd (by decide) (.inr (by decide))]; exact h.2.2.2.2.2⟩
def le_T_api_Action_Restriction : Lens T_api_Action ByteArray where
  off := 4
  get := T_api_Action.f_Restriction
  set b g := { b with f_Restriction := g }
  inb := by decide
  get_rep h := h.2.2.2.2.2
  set_rep h hg := by
    have hl := h.1
    have hd := Rp.len hg
    exact ⟨sp_len hl hd (by decide), by rw [sp_other hl hd (by decide) (.inl (by decide))]; exact h.2.1, by rw [sp_other hl hd (by decide) (.inl (by decide))]; exact h.2.2.1, by rw [sp_other hl hd (by decide) (.inl (by decide))]; exact h.2.2.2.1, by rw [sp_other hl hd (by decide) (.inl (by decide))]; exact h.2.2.2.2.1, by rw [sp_same hl hd (by decide)]; exact hg⟩
instance : Zc T_api_Action := ⟨Zc.cells Int ++ Zc.cells ByteArray ++ Zc.cells (List T_api_Param) ++ Zc.cells (List T_api_Prim) ++ Zc.cells ByteArray, fun A W => ⟨by rfl, Zc.ok (α := Int) A W, Zc.ok (α := ByteArray) A W, Zc.ok (α := List T_api_Param) A W, Zc.ok (α := List T_api_Prim) A W, Zc.ok (α := ByteArray) A W⟩⟩
structure T_api_Key where
  f_Name : ByteArray
  f_Field : Int
  f_Kind : Int
  deriving DecidableEq, Inhabited
instance : Rp T_api_Key where
  size := 3
  agg := true
  rep A W cs x := cs.length = 3 ∧ Rp.rep A W ((cs.drop 0).take (Rp.size ByteArray)) x.f_Name ∧ Rp.rep A W ((cs.drop 1).take (Rp.size Int)) x.f_Field ∧ Rp.rep A W ((cs.drop 2).take (Rp.size Int)) x.f_Kind
  len h := h.1
  one h := by
    intro u hu
    have h0 := mem_cut (o := 0) (s := Rp.size ByteArray) (by simpa using hu)
    rcases h0 with h1 | h0
    · exact Rp.one h.2.1 u h1
    have h0 := mem_cut (s := Rp.size Int) h0
    rcases h0 with h1 | h0
    · exact Rp.one h.2.2.1 u h1
    have h0 := mem_cut (s := Rp.size Int) h0
    rcases h0 with h1 | h0
    · exact Rp.one h.2.2.2 u h1
    exact mem_end h.1 (by rfl) h0
  flat h := by cases h
  mono e h := ⟨h.1, Rp.mono e h.2.1, Rp.mono e h.2.2.1, Rp.mono e h.2.2.2⟩
def le_T_api_Key_Name : Lens T_api_Key ByteArray where
  off := 0
  get := T_api_Key.f_Name
  set b g := { b with f_Name := g }
  inb := by decide
  get_rep h := h.2.1
  set_rep h hg := by
    have hl := h.1
    have hd := Rp.len hg
    exact ⟨sp_len hl hd (by decide), by rw [sp_same hl hd (by decide)]; exact hg, by rw [sp_other hl hd (by decide) (.inr (by decide))]; exact h.2.2.1, by rw [sp_other hl hd (by decide) (.inr (by decide))]; exact h.2.2.2⟩
def le_T_api_Key_Field : Lens T_api_Key Int where
  off := 1
  get := T_api_Key.f_Field
  set b g := { b with f_Field := g }
  inb := by decide
  get_rep h := h.2.2.1
  set_rep h hg := by
    have hl := h.1
    have hd := Rp.len hg
    exact ⟨sp_len hl hd (by decide), by rw [sp_other hl hd (by decide) (.inl (by decide))]; exact h.2.1, by rw [sp_same hl hd (by decide)]; exact hg, by rw [sp_other hl hd (by decide) (.inr (by decide))]; exact h.2.2.2⟩
def le_T_api_Key_Kind : Lens T_api_Key Int where
  off := 2
  get := T_api_Key.f_Kind
  set b g := { b with f_Kind := g }
  inb := by decide
  get_rep h := h.2.2.2
  set_rep h hg := by
    have hl := h.1
    have hd := Rp.len hg
    exact ⟨sp_len hl hd (by decide), by rw [sp_other hl hd (by decide) (.inl (by decide))]; exact h.2.1, by rw [sp_other hl hd (by decide) (.inl (by decide))]; exact h.2.2.1, by rw [sp_same hl hd (by decide)]; exact hg⟩
instance : Zc T_api_Key := ⟨Zc.cells ByteArray ++ Zc.cells Int ++ Zc.cells Int, fun A W => ⟨by rfl, Zc.ok (α := ByteArray) A W, Zc.ok (α := Int) A W, Zc.ok (α := Int) A W⟩⟩
structure T_api_Table where
  f_ID : Int
  f_Name : ByteArray
  f_Keys : List T_api_Key
  f_Actions : List Int
  f_Default : Int
  f_DefaultArgs : List T_api_Value
  f_Size : Int
  f_Restriction : ByteArray
  deriving DecidableEq, Inhabited
instance : Rp T_api_Table where
  size := 8
  agg := true
  rep A W cs x := cs.length = 8 ∧ Rp.rep A W ((cs.drop 0).take (Rp.size Int)) x.f_ID ∧ Rp.rep A W ((cs.drop 1).take (Rp.size ByteArray)) x.f_Name ∧ Rp.rep A W ((cs.drop 2).take (Rp.size (List T_api_Key))) x.f_Keys ∧ Rp.rep A W ((cs.drop 3).take (Rp.size (List Int))) x.f_Actions ∧ Rp.rep A W ((cs.drop 4).take (Rp.size Int)) x.f_Default ∧ Rp.rep A W ((cs.drop 5).take (Rp.size (List T_api_Value))) x.f_DefaultArgs ∧ Rp.rep A W ((cs.drop 6).take (Rp.size Int)) x.f_Size ∧ Rp.rep A W ((cs.drop 7).take (Rp.size ByteArray)) x.f_Restriction
  len h := h.1
  one h := by
    intro u hu
    have h0 := mem_cut (o := 0) (s := Rp.size Int) (by simpa using hu)
    rcases h0 with h1 | h0
    · exact Rp.one h.2.1 u h1
    have h0 := mem_cut (s := Rp.size ByteArray) h0
    rcases h0 with h1 | h0
    · exact Rp.one h.2.2.1 u h1
    have h0 := mem_cut (s := Rp.size (List T_api_Key)) h0
    rcases h0 with h1 | h0
    · exact Rp.one h.2.2.2.1 u h1
    have h0 := mem_cut (s := Rp.size (List Int)) h0
    rcases h0 with h1 | h0
    · exact Rp.one h.2.2.2.2.1 u h1
    have h0 := mem_cut (s := Rp.size Int) h0
    rcases h0 with h1 | h0
    · exact Rp.one h.2.2.2.2.2.1 u h1
    have h0 := mem_cut (s := Rp.size (List T_api_Value)) h0
    rcases h0 with h1 | h0
    · exact Rp.one h.2.2.2.2.2.2.1 u h1
    have h0 := mem_cut (s := Rp.size Int) h0
    rcases h0 with h1 | h0
    · exact Rp.one h.2.2.2.2.2.2.2.1 u h1
    have h0 := mem_cut (s := Rp.size ByteArray) h0
    rcases h0 with h1 | h0
    · exact Rp.one h.2.2.2.2.2.2.2.2 u h1
    exact mem_end h.1 (by rfl) h0
  flat h := by cases h
  mono e h := ⟨h.1, Rp.mono e h.2.1, Rp.mono e h.2.2.1, Rp.mono e h.2.2.2.1, Rp.mono e h.2.2.2.2.1, Rp.mono e h.2.2.2.2.2.1, Rp.mono e h.2.2.2.2.2.2.1, Rp.mono e h.2.2.2.2.2.2.2.1, Rp.mono e h.2.2.2.2.2.2.2.2⟩
def le_T_api_Table_ID : Lens T_api_Table Int where
  off := 0
  get := T_api_Table.f_ID
  set b g := { b with f_ID := g }
  inb := by decide
  get_rep h := h.2.1
  set_rep h hg := by
    have hl := h.1
    have hd := Rp.len hg
    exact ⟨sp_len hl hd (by decide), by rw [sp_same hl hd (by decide)]; exact hg, by rw [sp_other hl hd (by decide) (.inr (by decide))]; exact h.2.2.1, by rw [sp_other hl hd (by decide) (.inr (by decide))]; exact h.2.2.2.1, by rw [sp_other hl hd (by decide) (.inr (by decide))]; exact h.2.2.2.2.1, by rw [sp_other hl hd (by decide) (.inr (by decide))]; exact h.2.2.2.2.2.1, by rw [sp_other hl hd (by decide) (.inr (by decide))]; exact h.2.2.2.2.2.2.1, by rw [sp_other hl hd (by decide) (.inr (by decide))]; exact h.2.2.2.2.2.2.2.1, by rw [sp_other hl hd (by decide) (.inr (by decide))]; exact h.2.2.2.2.2.2.2.2⟩
def le_T_api_Table_Name : Lens T_api_Table ByteArray where
  off := 1
  get := T_api_Table.f_Name
  set b g := { b with f_Name := g }
  inb := by decide
  get_rep h := h.2.2.1
  set_rep h hg := by
    have hl := h.1
    have hd := Rp.len hg
    exact ⟨sp_len hl hd (by decide), by rw [sp_other hl hd (by decide) (.inl (by decide))]; exact h.2.1, by rw [sp_same hl hd (by decide)]; exact hg, by rw [sp_other hl hd (by decide) (.inr (by decide))]; exact h.2.2.2.1, by rw [sp_other hl hd (by decide) (.inr (by decide))]; exact h.2.2.2.2.1, by rw [sp_other hl hd (by decide) (.inr (by decide))]; exact h.2.2.2.2.2.1, by rw [sp_other hl hd (by decide) (.inr (by decide))]; exact h.2.2.2.2.2.2.1, by rw [sp_other hl hd (by decide) (.inr (by decide))]; exact h.2.2.2.2.2.2.2.1, by rw [sp_other hl hd (by decide) (.inr (by decide))]; exact h.2.2.2.2.2.2.2.2⟩
def le_T_api_Table_Keys : Lens T_api_Table (List T_api_Key) where
  off := 2
  get := T_api_Table.f_Keys
  set b g := { b with f_Keys := g }
  inb := by decide
  get_rep h := h.2.2.2.1
  set_rep h hg := by
    have hl := h.1
    have hd := Rp.len hg
    exact ⟨sp_len hl hd (by decide), by rw [sp_other hl hd (by decide) (.inl (by decide))]; exact h.2.1, by rw [sp_other hl hd (by decide) (.inl (by decide))]; exact h.2.2.1, by rw [sp_same hl hd (by decide)]; exact hg, by rw [sp_other hl hd (by decide) (.inr (by decide))]; exact h.2.2.2.2.1, by rw [sp_other hl hd (by decide) (.inr (by decide))]; exact h.2.2.2.2.2.1, by rw [sp_other hl hd (by decide) (.inr (by decide))]; exact h.2.2.2.2.2.2.1, by rw [sp_other hl hd (by decide) (.inr (by decide))]; exact h.2.2.2.2.2.2.2.1, by rw [sp_other hl hd (by decide) (.inr (by decide))]; exact h.2.2.2.2.2.2.2.2⟩
def le_T_api_Table_Actions : Lens T_api_Table (List Int) where
  off := 3
  get := T_api_Table.f_Actions
  set b g := { b with f_Actions := g }
  inb := by decide
  get_rep h := h.2.2.2.2.1
  set_rep h hg := by
    have hl := h.1
    have hd := Rp.len hg
    exact ⟨sp_len hl hd (by decide), by rw [sp_other hl hd (by decide) (.inl (by decide))]; exact h.2.1, by rw [sp_other hl hd (by decide) (.inl (by decide))]; exact h.2.2.1, by rw [sp_other hl hd (by decide) (.inl (by decide))]; exact h.2.2.2.1, by rw [sp_same hl hd (by decide)]; exact hg, by rw [sp_other hl hd (by decide) (.inr (by decide))]; exact h.2.2.2.2.2.1, by rw [sp_other hl hd (by decide) (.inr (by decide))]; exact h.2.2.2.2.2.2.1, by rw [sp_other hl hd (by decide) (.inr (by decide))]; exact h.2.2.2.2.2.2.2.1, by rw [sp_other hl hd (by decide) (.inr (by decide))]; exact h.2.2.2.2.2.2.2.2⟩
def le_T_api_Table_Default : Lens T_api_Table Int where
  off := 4
  get := T_api_Table.f_Default
  set b g := { b with f_Default := g }
  inb := by decide
  get_rep h := h.2.2.2.2.2.1
  set_rep h hg := by
    have hl := h.1
    have hd := Rp.len hg
    exact ⟨sp_len hl hd (by decide), by rw [sp_other hl hd (by decide) (.inl (by decide))]; exact h.2.1, by rw [sp_other hl hd (by decide) (.inl (by decide))]; exact h.2.2.1, by rw [sp_other hl hd (by decide) (.inl (by decide))]; exact h.2.2.2.1, by rw [sp_other hl hd (by decide) (.inl (by decide))]; exact h.2.2.2.2.1, by rw [sp_same hl hd (by decide)]; exact hg, by rw [sp_other hl hd (by decide) (.inr (by decide))]; exact h.2.2.2.2.2.2.1, by rw [sp_other hl hd (by decide) (.inr (by decide))]; exact h.2.2.2.2.2.2.2.1, by rw [sp_other hl hd (by decide) (.inr (by decide))]; exact h.2.2.2.2.2.2.2.2⟩
def le_T_api_Table_DefaultArgs : Lens T_api_Table (List T_api_Value) where
  off := 5
  get := T_api_Table.f_DefaultArgs
  set b g := { b with f_DefaultArgs := g }
  inb := by decide
  get_rep h := h.2.2.2.2.2.2.1
  set_rep h hg := by
    have hl := h.1
    have hd := Rp.len hg
    exact ⟨sp_len hl hd (by decide), by rw [sp_other hl hd (by decide) (.inl (by decide))]; exact h.2.1, by rw [sp_other hl hd (by decide) (.inl (by decide))]; exact h.2.2.1, by rw [sp_other hl hd (by decide) (.inl (by decide))]; exact h.2.2.2.1, by rw [sp_other hl hd (by decide) (.inl (by decide))]; exact h.2.2.2.2.1, by rw [sp_other hl hd (by decide) (.inl (by decide))]; exact h.2.2.2.2.2.1, by rw [sp_same hl hd (by decide)]; exact hg, by rw [sp_other hl hd (by decide) (.inr (by decide))]; exact h.2.2.2.2.2.2.2.1, by rw [sp_other hl hd (by decide) (.inr (by decide))]; exact h.2.2.2.2.2.2.2.2⟩
def le_T_api_Table_Size : Lens T_api_Table Int where
  off := 6
  get := T_api_Table.f_Size
  set b g := { b with f_Size := g }
  inb := by decide
  get_rep h := h.2.2.2.2.2.2.2.1
  set_rep h hg := by
    have hl := h.1
    have hd := Rp.len hg
    exact ⟨sp_len hl hd (by decide), by rw [sp_other hl hd (by decide) (.inl (by decide))]; exact h.2.1, by rw [sp_other hl hd (by decide) (.inl (by decide))]; exact h.2.2.1, by rw [sp_other hl hd (by decide) (.inl (by decide))]; exact h.2.2.2.1, by rw [sp_other hl hd (by decide) (.inl (by decide))]; exact h.2.2.2.2.1, by rw [sp_other hl hd (by decide) (.inl (by decide))]; exact h.2.2.2.2.2.1, by rw [sp_other hl hd (by decide) (.inl (by decide))]; exact h.2.2.2.2.2.2.1, by rw [sp_same hl hd (by decide)]; exact hg, by rw [sp_other hl hd (by decide) (.inr (by decide))]; exact h.2.2.2.2.2.2.2.2⟩
def le_T_api_Table_Restriction : Lens T_api_Table ByteArray where
  off := 7
  get := T_api_Table.f_Restriction
  set b g := { b with f_Restriction := g }
  inb := by decide
  get_rep h := h.2.2.2.2.2.2.2.2
  set_rep h hg := by
    have hl := h.1
    have hd := Rp.len hg
    exact ⟨sp_len hl hd (by decide), by rw [sp_other hl hd (by decide) (.inl (by decide))]; exact h.2.1, by rw [sp_other hl hd (by decide) (.inl (by decide))]; exact h.2.2.1, by rw [sp_other hl hd (by decide) (.inl (by decide))]; exact h.2.2.2.1, by rw [sp_other hl hd (by decide) (.inl (by decide))]; exact h.2.2.2.2.1, by rw [sp_other hl hd (by decide) (.inl (by decide))]; exact h.2.2.2.2.2.1, by rw [sp_other hl hd (by decide) (.inl (by decide))]; exact h.2.2.2.2.2.2.1, by rw [sp_other hl hd (by decide) (.inl (by decide))]; exact h.2.2.2.2.2.2.2.1, by rw [sp_same hl hd (by decide)]; exact hg⟩
instance : Zc T_api_Table := ⟨Zc.cells Int ++ Zc.cells ByteArray ++ Zc.cells (List T_api_Key) ++ Zc.cells (List Int) ++ Zc.cells Int ++ Zc.cells (List T_api_Value) ++ Zc.cells Int ++ Zc.cells ByteArray, fun A W => ⟨by rfl, Zc.ok (α := Int) A W, Zc.ok (α := ByteArray) A W, Zc.ok (α := List T_api_Key) A W, Zc.ok (α := List Int) A W, Zc.ok (α := Int) A W, Zc.ok (α := List T_api_Value) A W, Zc.ok (α := Int) A W, Zc.ok (α := ByteArray) A W⟩⟩
structure T_api_Stage where
  f_Table : Int
  f_Header : Int
  deriving DecidableEq, Inhabited
instance : Rp T_api_Stage where
  size := 2
  agg := true
  rep A W cs x := cs.length = 2 ∧ Rp.rep A W ((cs.drop 0).take (Rp.size Int)) x.f_Table ∧ Rp.rep A W ((cs.drop 1).take (Rp.size Int)) x.f_Header
  len h := h.1
  one h := by
    intro u hu
    have h0 := mem_cut (o := 0) (s := Rp.size Int) (by simpa using hu)
    rcases h0 with h1 | h0
    · exact Rp.one h.2.1 u h1
    have h0 := mem_cut (s := Rp.size Int) h0
    rcases h0 with h1 | h0
    · exact Rp.one h.2.2 u h1
    exact mem_end h.1 (by rfl) h0
  flat h := by cases h
  mono e h := ⟨h.1, Rp.mono e h.2.1, Rp.mono e h.2.2⟩
def le_T_api_Stage_Table : Lens T_api_Stage Int where
  off := 0
  get := T_api_Stage.f_Table
  set b g := { b with f_Table := g }
  inb := by decide
  get_rep h := h.2.1
  set_rep h hg := by
    have hl := h.1
    have hd := Rp.len hg
    exact ⟨sp_len hl hd (by decide), by rw [sp_same hl hd (by decide)]; exact hg, by rw [sp_other hl hd (by decide) (.inr (by decide))]; exact h.2.2⟩
def le_T_api_Stage_Header : Lens T_api_Stage Int where
  off := 1
  get := T_api_Stage.f_Header
  set b g := { b with f_Header := g }
  inb := by decide
  get_rep h := h.2.2
  set_rep h hg := by
    have hl := h.1
    have hd := Rp.len hg
    exact ⟨sp_len hl hd (by decide), by rw [sp_other hl hd (by decide) (.inl (by decide))]; exact h.2.1, by rw [sp_same hl hd (by decide)]; exact hg⟩
instance : Zc T_api_Stage := ⟨Zc.cells Int ++ Zc.cells Int, fun A W => ⟨by rfl, Zc.ok (α := Int) A W, Zc.ok (α := Int) A W⟩⟩
structure T_api_Grant where
  f_Table : Int
  f_Read : Bool
  f_Write : Bool
  f_Keys : List Bool
  deriving DecidableEq, Inhabited
instance : Rp T_api_Grant where
  size := 4
  agg := true
  rep A W cs x := cs.length = 4 ∧ Rp.rep A W ((cs.drop 0).take (Rp.size Int)) x.f_Table ∧ Rp.rep A W ((cs.drop 1).take (Rp.size Bool)) x.f_Read ∧ Rp.rep A W ((cs.drop 2).take (Rp.size Bool)) x.f_Write ∧ Rp.rep A W ((cs.drop 3).take (Rp.size (List Bool))) x.f_Keys
  len h := h.1
  one h := by
    intro u hu
    have h0 := mem_cut (o := 0) (s := Rp.size Int) (by simpa using hu)
    rcases h0 with h1 | h0
    · exact Rp.one h.2.1 u h1
    have h0 := mem_cut (s := Rp.size Bool) h0
    rcases h0 with h1 | h0
    · exact Rp.one h.2.2.1 u h1
    have h0 := mem_cut (s := Rp.size Bool) h0
    rcases h0 with h1 | h0
    · exact Rp.one h.2.2.2.1 u h1
    have h0 := mem_cut (s := Rp.size (List Bool)) h0
    rcases h0 with h1 | h0
    · exact Rp.one h.2.2.2.2 u h1
    exact mem_end h.1 (by rfl) h0
  flat h := by cases h
  mono e h := ⟨h.1, Rp.mono e h.2.1, Rp.mono e h.2.2.1, Rp.mono e h.2.2.2.1, Rp.mono e h.2.2.2.2⟩
def le_T_api_Grant_Table : Lens T_api_Grant Int where
  off := 0
  get := T_api_Grant.f_Table
  set b g := { b with f_Table := g }
  inb := by decide
  get_rep h := h.2.1
  set_rep h hg := by
    have hl := h.1
    have hd := Rp.len hg
    exact ⟨sp_len hl hd (by decide), by rw [sp_same hl hd (by decide)]; exact hg, by rw [sp_other hl hd (by decide) (.inr (by decide))]; exact h.2.2.1, by rw [sp_other hl hd (by decide) (.inr (by decide))]; exact h.2.2.2.1, by rw [sp_other hl hd (by decide) (.inr (by decide))]; exact h.2.2.2.2⟩
def le_T_api_Grant_Read : Lens T_api_Grant Bool where
  off := 1
  get := T_api_Grant.f_Read
  set b g := { b with f_Read := g }
  inb := by decide
  get_rep h := h.2.2.1
  set_rep h hg := by
    have hl := h.1
    have hd := Rp.len hg
    exact ⟨sp_len hl hd (by decide), by rw [sp_other hl hd (by decide) (.inl (by decide))]; exact h.2.1, by rw [sp_same hl hd (by decide)]; exact hg, by rw [sp_other hl hd (by decide) (.inr (by decide))]; exact h.2.2.2.1, by rw [sp_other hl hd (by decide) (.inr (by decide))]; exact h.2.2.2.2⟩
def le_T_api_Grant_Write : Lens T_api_Grant Bool where
  off := 2
  get := T_api_Grant.f_Write
  set b g := { b with f_Write := g }
  inb := by decide
  get_rep h := h.2.2.2.1
  set_rep h hg := by
    have hl := h.1
    have hd := Rp.len hg
    exact ⟨sp_len hl hd (by decide), by rw [sp_other hl hd (by decide) (.inl (by decide))]; exact h.2.1, by rw [sp_other hl hd (by decide) (.inl (by decide))]; exact h.2.2.1, by rw [sp_same hl hd (by decide)]; exact hg, by rw [sp_other hl hd (by decide) (.inr (by decide))]; exact h.2.2.2.2⟩
def le_T_api_Grant_Keys : Lens T_api_Grant (List Bool) where
  off := 3
  get := T_api_Grant.f_Keys
  set b g := { b with f_Keys := g }
  inb := by decide
  get_rep h := h.2.2.2.2
  set_rep h hg := by
    have hl := h.1
    have hd := Rp.len hg
    exact ⟨sp_len hl hd (by decide), by rw [sp_other hl hd (by decide) (.inl (by decide))]; exact h.2.1, by rw [sp_other hl hd (by decide) (.inl (by decide))]; exact h.2.2.1, by rw [sp_other hl hd (by decide) (.inl (by decide))]; exact h.2.2.2.1, by rw [sp_same hl hd (by decide)]; exact hg⟩
instance : Zc T_api_Grant := ⟨Zc.cells Int ++ Zc.cells Bool ++ Zc.cells Bool ++ Zc.cells (List Bool), fun A W => ⟨by rfl, Zc.ok (α := Int) A W, Zc.ok (α := Bool) A W, Zc.ok (α := Bool) A W, Zc.ok (α := List Bool) A W⟩⟩
structure T_api_Role where
  f_ID : Int
  f_Name : ByteArray
  f_Grants : List T_api_Grant
  f_Actions : List Int
  f_Quota : Int
  f_Audit : Bool
  deriving DecidableEq, Inhabited
instance : Rp T_api_Role where
  size := 6
  agg := true
  rep A W cs x := cs.length = 6 ∧ Rp.rep A W ((cs.drop 0).take (Rp.size Int)) x.f_ID ∧ Rp.rep A W ((cs.drop 1).take (Rp.size ByteArray)) x.f_Name ∧ Rp.rep A W ((cs.drop 2).take (Rp.size (List T_api_Grant))) x.f_Grants ∧ Rp.rep A W ((cs.drop 3).take (Rp.size (List Int))) x.f_Actions ∧ Rp.rep A W ((cs.drop 4).take (Rp.size Int)) x.f_Quota ∧ Rp.rep A W ((cs.drop 5).take (Rp.size Bool)) x.f_Audit
  len h := h.1
  one h := by
    intro u hu
    have h0 := mem_cut (o := 0) (s := Rp.size Int) (by simpa using hu)
    rcases h0 with h1 | h0
    · exact Rp.one h.2.1 u h1
    have h0 := mem_cut (s := Rp.size ByteArray) h0
    rcases h0 with h1 | h0
    · exact Rp.one h.2.2.1 u h1
    have h0 := mem_cut (s := Rp.size (List T_api_Grant)) h0
    rcases h0 with h1 | h0
    · exact Rp.one h.2.2.2.1 u h1
    have h0 := mem_cut (s := Rp.size (List Int)) h0
    rcases h0 with h1 | h0
    · exact Rp.one h.2.2.2.2.1 u h1
    have h0 := mem_cut (s := Rp.size Int) h0
    rcases h0 with h1 | h0
    · exact Rp.one h.2.2.2.2.2.1 u h1
    have h0 := mem_cut (s := Rp.size Bool) h0
    rcases h0 with h1 | h0
    · exact Rp.one h.2.2.2.2.2.2 u h1
    exact mem_end h.1 (by rfl) h0
  flat h := by cases h
  mono e h := ⟨h.1, Rp.mono e h.2.1, Rp.mono e h.2.2.1, Rp.mono e h.2.2.2.1, Rp.mono e h.2.2.2.2.1, Rp.mono e h.2.2.2.2.2.1, Rp.mono e h.2.2.2.2.2.2⟩
def le_T_api_Role_ID : Lens T_api_Role Int where
  off := 0
  get := T_api_Role.f_ID
  set b g := { b with f_ID := g }
  inb := by decide
  get_rep h := h.2.1
  set_rep h hg := by
    have hl := h.1
    have hd := Rp.len hg
    exact ⟨sp_len hl hd (by decide), by rw [sp_same hl hd (by decide)]; exact hg, by rw [sp_other hl hd (by decide) (.inr (by decide))]; exact h.2.2.1, by rw [sp_other hl hd (by decide) (.inr (by decide))]; exact h.2.2.2.1, by rw [sp_other hl hd (by decide) (.inr (by decide))]; exact h.2.2.2.2.1, by rw [sp_other hl hd (by decide) (.inr (by decide))]; exact h.2.2.2.2.2.1, by rw [sp_other hl hd (by decide) (.inr (by decide))]; exact h.2.2.2.2.2.2⟩
def le_T_api_Role_Name : Lens T_api_Role ByteArray where
  off := 1
  get := T_api_Role.f_Name
  set b g := { b with f_Name := g }
  inb := by decide
  get_rep h := h.2.2.1
  set_rep h hg := by
    have hl := h.1
    have hd := Rp.len hg
    exact ⟨sp_len hl hd (by decide), by rw [sp_other hl hd (by decide) (.inl (by decide))]; exact h.2.1, by rw [sp_same hl hd (by decide)]; exact hg, by rw [sp_other hl hd (by decide) (.inr (by decide))]; exact h.2.2.2.1, by rw [sp_other hl hd (by decide) (.inr (by decide))]; exact h.2.2.2.2.1, by rw [sp_other hl hd (by decide) (.inr (by decide))]; exact h.2.2.2.2.2.1, by rw [sp_other hl hd (by decide) (.inr (by decide))]; exact h.2.2.2.2.2.2⟩
def le_T_api_Role_Grants : Lens T_api_Role (List T_api_Grant) where
  off := 2
  get := T_api_Role.f_Grants
  set b g := { b with f_Grants := g }
  inb := by decide
  get_rep h := h.2.2.2.1
  set_rep h hg := by
    have hl := h.1
    have hd := Rp.len hg
    exact ⟨sp_len hl hd (by decide), by rw [sp_other hl hd (by decide) (.inl (by decide))]; exact h.2.1, by rw [sp_other hl hd (by decide) (.inl (by decide))]; exact h.2.2.1, by rw [sp_same hl hd (by decide)]; exact hg, by rw [sp_other hl hd (by decide) (.inr (by decide))]; exact h.2.2.2.2.1, by rw [sp_other hl hd (by decide) (.inr (by decide))]; exact h.2.2.2.2.2.1, by rw [sp_other hl hd (by decide) (.inr (by decide))]; exact h.2.2.2.2.2.2⟩
def le_T_api_Role_Actions : Lens T_api_Role (List Int) where
  off := 3
  get := T_api_Role.f_Actions
  set b g := { b with f_Actions := g }
  inb := by decide
  get_rep h := h.2.2.2.2.1
  set_rep h hg := by
    have hl := h.1
    have hd := Rp.len hg
    exact ⟨sp_len hl hd (by decide), by rw [sp_other hl hd (by decide) (.inl (by decide))]; exact h.2.1, by rw [sp_other hl hd (by decide) (.inl (by decide))]; exact h.2.2.1, by rw [sp_other hl hd (by decide) (.inl (by decide))]; exact h.2.2.2.1, by rw [sp_same hl hd (by decide)]; exact hg, by rw [sp_other hl hd (by decide) (.inr (by decide))]; exact h.2.2.2.2.2.1, by rw [sp_other hl hd (by decide) (.inr (by decide))]; exact h.2.2.2.2.2.2⟩
def le_T_api_Role_Quota : Lens T_api_Role Int where
  off := 4
  get := T_api_Role.f_Quota
  set b g := { b with f_Quota := g }
  inb := by decide
  get_rep h := h.2.2.2.2.2.1
  set_rep h hg := by
    have hl := h.1
    have hd := Rp.len hg
    exact ⟨sp_len hl hd (by decide), by rw [sp_other hl hd (by decide) (.inl (by decide))]; exact h.2.1, by rw [sp_other hl hd (by decide) (.inl (by decide))]; exact h.2.2.1, by rw [sp_other hl hd (by decide) (.inl (by decide))]; exact h.2.2.2.1, by rw [sp_other hl hd (by decide) (.inl (by decide))]; exact h.2.2.2.2.1, by rw [sp_same hl hd (by decide)]; exact hg, by rw [sp_other hl hd (by decide) (.inr (by decide))]; exact h.2.2.2.2.2.2⟩
def le_T_api_Role_Audit : Lens T_api_Role Bool where
  off := 5
  get := T_api_Role.f_Audit
  set b g := { b with f_Audit := g }
  inb := by decide
  get_rep h := h.2.2.2.2.2.2
  set_rep h hg := by
    have hl := h.1
    have hd := Rp.len hg
    exact ⟨sp_len hl hd (by decide), by rw [sp_other hl hd (by decide) (.inl (by decide))]; exact h.2.1, by rw [sp_other hl hd (by decide) (.inl (by decide))]; exact h.2.2.1, by rw [sp_other hl hd (by decide) (.inl (by decide))]; exact h.2.2.2.1, by rw [sp_other hl hd (by decide) (.inl (by decide))]; exact h.2.2.2.2.1, by rw [sp_other hl hd (by decide) (.inl (by decide))]; exact h.2.2.2.2.2.1, by rw [sp_same hl hd (by decide)]; exact hg⟩
instance : Zc T_api_Role := ⟨Zc.cells Int ++ Zc.cells ByteArray ++ Zc.cells (List T_api_Grant) ++ Zc.cells (List Int) ++ Zc.cells Int ++ Zc.cells Bool, fun A W => ⟨by rfl, Zc.ok (α := Int) A W, Zc.ok (α := ByteArray) A W, Zc.ok (α := List T_api_Grant) A W, Zc.ok (α := List Int) A W, Zc.ok (α := Int) A W, Zc.ok (α := Bool) A W⟩⟩
structure T_api_Ref where
  f_Table : Int
  f_Key : Int
  f_Action : Int
  f_Param : Int
  f_ToTable : Int
  f_ToKey : Int
  deriving DecidableEq, Inhabited
instance : Rp T_api_Ref where
  size := 6
  agg := true
  rep A W cs x := cs.length = 6 ∧ Rp.rep A W ((cs.drop 0).take (Rp.size Int)) x.f_Table ∧ Rp.rep A W ((cs.drop 1).take (Rp.size Int)) x.f_Key ∧ Rp.rep A W ((cs.drop 2).take (Rp.size Int)) x.f_Action ∧ Rp.rep A W ((cs.drop 3).take (Rp.size Int)) x.f_Param ∧ Rp.rep A W ((cs.drop 4).take (Rp.size Int)) x.f_ToTable ∧ Rp.rep A W ((cs.drop 5).take (Rp.size Int)) x.f_ToKey
  len h := h.1
  one h := by
    intro u hu
    have h0 := mem_cut (o := 0) (s := Rp.size Int) (by simpa using hu)
    rcases h0 with h1 | h0
    · exact Rp.one h.2.1 u h1
    have h0 := mem_cut (s := Rp.size Int) h0
    rcases h0 with h1 | h0
    · exact Rp.one h.2.2.1 u h1
    have h0 := mem_cut (s := Rp.size Int) h0
    rcases h0 with h1 | h0
    · exact Rp.one h.2.2.2.1 u h1
    have h0 := mem_cut (s := Rp.size Int) h0
    rcases h0 with h1 | h0
    · exact Rp.one h.2.2.2.2.1 u h1
    have h0 := mem_cut (s := Rp.size Int) h0
    rcases h0 with h1 | h0
    · exact Rp.one h.2.2.2.2.2.1 u h1
    have h0 := mem_cut (s := Rp.size Int) h0
    rcases h0 with h1 | h0
    · exact Rp.one h.2.2.2.2.2.2 u h1
    exact mem_end h.1 (by rfl) h0
  flat h := by cases h
  mono e h := ⟨h.1, Rp.mono e h.2.1, Rp.mono e h.2.2.1, Rp.mono e h.2.2.2.1, Rp.mono e h.2.2.2.2.1, Rp.mono e h.2.2.2.2.2.1, Rp.mono e h.2.2.2.2.2.2⟩
def le_T_api_Ref_Table : Lens T_api_Ref Int where
  off := 0
  get := T_api_Ref.f_Table
  set b g := { b with f_Table := g }
  inb := by decide
  get_rep h := h.2.1
  set_rep h hg := by
    have hl := h.1
    have hd := Rp.len hg
    exact ⟨sp_len hl hd (by decide), by rw [sp_same hl hd (by decide)]; exact hg, by rw [sp_other hl hd (by decide) (.inr (by decide))]; exact h.2.2.1, by rw [sp_other hl hd (by decide) (.inr (by decide))]; exact h.2.2.2.1, by rw [sp_other hl hd (by decide) (.inr (by decide))]; exact h.2.2.2.2.1, by rw [sp_other hl hd (by decide) (.inr (by decide))]; exact h.2.2.2.2.2.1, by rw [sp_other hl hd (by decide) (.inr (by decide))]; exact h.2.2.2.2.2.2⟩
def le_T_api_Ref_Key : Lens T_api_Ref Int where
  off := 1
  get := T_api_Ref.f_Key
  set b g := { b with f_Key := g }
  inb := by decide
  get_rep h := h.2.2.1
  set_rep h hg := by
    have hl := h.1
    have hd := Rp.len hg
    exact ⟨sp_len hl hd (by decide), by rw [sp_other hl hd (by decide) (.inl (by decide))]; exact h.2.1, by rw [sp_same hl hd (by decide)]; exact hg, by rw [sp_other hl hd (by decide) (.inr (by decide))]; exact h.2.2.2.1, by rw [sp_other hl hd (by decide) (.inr (by decide))]; exact h.2.2.2.2.1, by rw [sp_other hl hd (by decide) (.inr (by decide))]; exact h.2.2.2.2.2.1, by rw [sp_other hl hd (by decide) (.inr (by decide))]; exact h.2.2.2.2.2.2⟩
def le_T_api_Ref_Action : Lens T_api_Ref Int where
  off := 2
  get := T_api_Ref.f_Action
  set b g := { b with f_Action := g }
  inb := by decide
  get_rep h := h.2.2.2.1
  set_rep h hg := by
    have hl := h.1
    have hd := Rp.len hg
    exact ⟨sp_len hl hd (by decide), by rw [sp_other hl hd (by decide) (.inl (by decide))]; exact h.2.1, by rw [sp_other hl hd (by decide) (.inl (by decide))]; exact h.2.2.1, by rw [sp_same hl hd (by decide)]; exact hg, by rw [sp_other hl hd (by decide) (.inr (by decide))]; exact h.2.2.2.2.1, by rw [sp_other hl hd (by decide) (.inr (by decide))]; exact h.2.2.2.2.2.1, by rw [sp_other hl hd (by decide) (.inr (by decide))]; exact h.2.2.2.2.2.2⟩
def le_T_api_Ref_ToTable : Lens T_api_Ref Int where
  off := 4
  get := T_api_Ref.f_ToTable
  set b g := { b with f_ToTable := g }
  inb := by decide
  get_rep h := h.2.2.2.2.2.1
  set_rep h hg := by
    have hl := h.1
    have hd := Rp.len hg
    exact ⟨sp_len hl hd (by decide), by rw [sp_other hl hd (by decide) (.inl (by decide))]; exact h.2.1, by rw [sp_other hl hd (by decide) (.inl (by decide))]; exact h.2.2.1, by rw [sp_other hl hd (by decide) (.inl (by decide))]; exact h.2.2.2.1, by rw [sp_other hl hd (by decide) (.inl (by decide))]; exact h.2.2.2.2.1, by rw [sp_same hl hd (by decide)]; exact hg, by rw [sp_other hl hd (by decide) (.inr (by decide))]; exact h.2.2.2.2.2.2⟩
instance : Zc T_api_Ref := ⟨Zc.cells Int ++ Zc.cells Int ++ Zc.cells Int ++ Zc.cells Int ++ Zc.cells Int ++ Zc.cells Int, fun A W => ⟨by rfl, Zc.ok (α := Int) A W, Zc.ok (α := Int) A W, Zc.ok (α := Int) A W, Zc.ok (α := Int) A W, Zc.ok (α := Int) A W, Zc.ok (α := Int) A W⟩⟩
structure T_api_Schema where
  f_Fields : List T_api_Field
  f_Headers : List T_api_Header
  f_States : List T_api_State
  f_Actions : List T_api_Action
  f_Tables : List T_api_Table
  f_Stages : List T_api_Stage
  f_Roles : List T_api_Role
  f_Refs : List T_api_Ref
  f_MaxBatch : Int
  f_Budget : Int
  deriving DecidableEq, Inhabited
instance : Rp T_api_Schema where
  size := 10
  agg := true
  rep A W cs x := cs.length = 10 ∧ Rp.rep A W ((cs.drop 0).take (Rp.size (List T_api_Field))) x.f_Fields ∧ Rp.rep A W ((cs.drop 1).take (Rp.size (List T_api_Header))) x.f_Headers ∧ Rp.rep A W ((cs.drop 2).take (Rp.size (List T_api_State))) x.f_States ∧ Rp.rep A W ((cs.drop 3).take (Rp.size (List T_api_Action))) x.f_Actions ∧ Rp.rep A W ((cs.drop 4).take (Rp.size (List T_api_Table))) x.f_Tables ∧ Rp.rep A W ((cs.drop 5).take (Rp.size (List T_api_Stage))) x.f_Stages ∧ Rp.rep A W ((cs.drop 6).take (Rp.size (List T_api_Role))) x.f_Roles ∧ Rp.rep A W ((cs.drop 7).take (Rp.size (List T_api_Ref))) x.f_Refs ∧ Rp.rep A W ((cs.drop 8).take (Rp.size Int)) x.f_MaxBatch ∧ Rp.rep A W ((cs.drop 9).take (Rp.size Int)) x.f_Budget
  len h := h.1
  one h := by
    intro u hu
    have h0 := mem_cut (o := 0) (s := Rp.size (List T_api_Field)) (by simpa using hu)
    rcases h0 with h1 | h0
    · exact Rp.one h.2.1 u h1
    have h0 := mem_cut (s := Rp.size (List T_api_Header)) h0
    rcases h0 with h1 | h0
    · exact Rp.one h.2.2.1 u h1
    have h0 := mem_cut (s := Rp.size (List T_api_State)) h0
    rcases h0 with h1 | h0
    · exact Rp.one h.2.2.2.1 u h1
    have h0 := mem_cut (s := Rp.size (List T_api_Action)) h0
    rcases h0 with h1 | h0
    · exact Rp.one h.2.2.2.2.1 u h1
    have h0 := mem_cut (s := Rp.size (List T_api_Table)) h0
    rcases h0 with h1 | h0
    · exact Rp.one h.2.2.2.2.2.1 u h1
    have h0 := mem_cut (s := Rp.size (List T_api_Stage)) h0
    rcases h0 with h1 | h0
    · exact Rp.one h.2.2.2.2.2.2.1 u h1
    have h0 := mem_cut (s := Rp.size (List T_api_Role)) h0
    rcases h0 with h1 | h0
    · exact Rp.one h.2.2.2.2.2.2.2.1 u h1
    have h0 := mem_cut (s := Rp.size (List T_api_Ref)) h0
    rcases h0 with h1 | h0
    · exact Rp.one h.2.2.2.2.2.2.2.2.1 u h1
    have h0 := mem_cut (s := Rp.size Int) h0
    rcases h0 with h1 | h0
    · exact Rp.one h.2.2.2.2.2.2.2.2.2.1 u h1
    have h0 := mem_cut (s := Rp.size Int) h0
    rcases h0 with h1 | h0
    · exact Rp.one h.2.2.2.2.2.2.2.2.2.2 u h1
    exact mem_end h.1 (by rfl) h0
  flat h := by cases h
  mono e h := ⟨h.1, Rp.mono e h.2.1, Rp.mono e h.2.2.1, Rp.mono e h.2.2.2.1, Rp.mono e h.2.2.2.2.1, Rp.mono e h.2.2.2.2.2.1, Rp.mono e h.2.2.2.2.2.2.1, Rp.mono e h.2.2.2.2.2.2.2.1, Rp.mono e h.2.2.2.2.2.2.2.2.1, Rp.mono e h.2.2.2.2.2.2.2.2.2.1, Rp.mono e h.2.2.2.2.2.2.2.2.2.2⟩
def le_T_api_Schema_Fields : Lens T_api_Schema (List T_api_Field) where
  off := 0
  get := T_api_Schema.f_Fields
  set b g := { b with f_Fields := g }
  inb := by decide
  get_rep h := h.2.1
  set_rep h hg := by
    have hl := h.1
    have hd := Rp.len hg
    exact ⟨sp_len hl hd (by decide), by rw [sp_same hl hd (by decide)]; exact hg, by rw [sp_other hl hd (by decide) (.inr (by decide))]; exact h.2.2.1, by rw [sp_other hl hd (by decide) (.inr (by decide))]; exact h.2.2.2.1, by rw [sp_other hl hd (by decide) (.inr (by decide))]; exact h.2.2.2.2.1, by rw [sp_other hl hd (by decide) (.inr (by decide))]; exact h.2.2.2.2.2.1, by rw [sp_other hl hd (by decide) (.inr (by decide))]; exact h.2.2.2.2.2.2.1, by rw [sp_other hl hd (by decide) (.inr (by decide))]; exact h.2.2.2.2.2.2.2.1, by rw [sp_other hl hd (by decide) (.inr (by decide))]; exact h.2.2.2.2.2.2.2.2.1, by rw [sp_other hl hd (by decide) (.inr (by decide))]; exact h.2.2.2.2.2.2.2.2.2.1, by rw [sp_other hl hd (by decide) (.inr (by decide))]; exact h.2.2.2.2.2.2.2.2.2.2⟩
def le_T_api_Schema_Headers : Lens T_api_Schema (List T_api_Header) where
  off := 1
  get := T_api_Schema.f_Headers
  set b g := { b with f_Headers := g }
  inb := by decide
  get_rep h := h.2.2.1
  set_rep h hg := by
    have hl := h.1
    have hd := Rp.len hg
    exact ⟨sp_len hl hd (by decide), by rw [sp_other hl hd (by decide) (.inl (by decide))]; exact h.2.1, by rw [sp_same hl hd (by decide)]; exact hg, by rw [sp_other hl hd (by decide) (.inr (by decide))]; exact h.2.2.2.1, by rw [sp_other hl hd (by decide) (.inr (by decide))]; exact h.2.2.2.2.1, by rw [sp_other hl hd (by decide) (.inr (by decide))]; exact h.2.2.2.2.2.1, by rw [sp_other hl hd (by decide) (.inr (by decide))]; exact h.2.2.2.2.2.2.1, by rw [sp_other hl hd (by decide) (.inr (by decide))]; exact h.2.2.2.2.2.2.2.1, by rw [sp_other hl hd (by decide) (.inr (by decide))]; exact h.2.2.2.2.2.2.2.2.1, by rw [sp_other hl hd (by decide) (.inr (by decide))]; exact h.2.2.2.2.2.2.2.2.2.1, by rw [sp_other hl hd (by decide) (.inr (by decide))]; exact h.2.2.2.2.2.2.2.2.2.2⟩
def le_T_api_Schema_States : Lens T_api_Schema (List T_api_State) where
  off := 2
  get := T_api_Schema.f_States
  set b g := { b with f_States := g }
  inb := by decide
  get_rep h := h.2.2.2.1
  set_rep h hg := by
    have hl := h.1
    have hd := Rp.len hg
    exact ⟨sp_len hl hd (by decide), by rw [sp_other hl hd (by decide) (.inl (by decide))]; exact h.2.1, by rw [sp_other hl hd (by decide) (.inl (by decide))]; exact h.2.2.1, by rw [sp_same hl hd (by decide)]; exact hg, by rw [sp_other hl hd (by decide) (.inr (by decide))]; exact h.2.2.2.2.1, by rw [sp_other hl hd (by decide) (.inr (by decide))]; exact h.2.2.2.2.2.1, by rw [sp_other hl hd (by decide) (.inr (by decide))]; exact h.2.2.2.2.2.2.1, by rw [sp_other hl hd (by decide) (.inr (by decide))]; exact h.2.2.2.2.2.2.2.1, by rw [sp_other hl hd (by decide) (.inr (by decide))]; exact h.2.2.2.2.2.2.2.2.1, by rw [sp_other hl hd (by decide) (.inr (by decide))]; exact h.2.2.2.2.2.2.2.2.2.1, by rw [sp_other hl hd (by decide) (.inr (by decide))]; exact h.2.2.2.2.2.2.2.2.2.2⟩
def le_T_api_Schema_Actions : Lens T_api_Schema (List T_api_Action) where
  off := 3
  get := T_api_Schema.f_Actions
  set b g := { b with f_Actions := g }
  inb := by decide
  get_rep h := h.2.2.2.2.1
  set_rep h hg := by
    have hl := h.1
    have hd := Rp.len hg
    exact ⟨sp_len hl hd (by decide), by rw [sp_other hl hd (by decide) (.inl (by decide))]; exact h.2.1, by rw [sp_other hl hd (by decide) (.inl (by decide))]; exact h.2.2.1, by rw [sp_other hl hd (by decide) (.inl (by decide))]; exact h.2.2.2.1, by rw [sp_same hl hd (by decide)]; exact hg, by rw [sp_other hl hd (by decide) (.inr (by decide))]; exact h.2.2.2.2.2.1, by rw [sp_other hl hd (by decide) (.inr (by decide))]; exact h.2.2.2.2.2.2.1, by rw [sp_other hl hd (by decide) (.inr (by decide))]; exact h.2.2.2.2.2.2.2.1, by rw [sp_other hl hd (by decide) (.inr (by decide))]; exact h.2.2.2.2.2.2.2.2.1, by rw [sp_other hl hd (by decide) (.inr (by decide))]; exact h.2.2.2.2.2.2.2.2.2.1, by rw [sp_other hl hd (by decide) (.inr (by decide))]; exact h.2.2.2.2.2.2.2.2.2.2⟩
def le_T_api_Schema_Tables : Lens T_api_Schema (List T_api_Table) where
  off := 4
  get := T_api_Schema.f_Tables
  set b g := { b with f_Tables := g }
  inb := by decide
  get_rep h := h.2.2.2.2.2.1
  set_rep h hg := by
    have hl := h.1
    have hd := Rp.len hg
    exact ⟨sp_len hl hd (by decide), by rw [sp_other hl hd (by decide) (.inl (by decide))]; exact h.2.1, by rw [sp_other hl hd (by decide) (.inl (by decide))]; exact h.2.2.1, by rw [sp_other hl hd (by decide) (.inl (by decide))]; exact h.2.2.2.1, by rw [sp_other hl hd (by decide) (.inl (by decide))]; exact h.2.2.2.2.1, by rw [sp_same hl hd (by decide)]; exact hg, by rw [sp_other hl hd (by decide) (.inr (by decide))]; exact h.2.2.2.2.2.2.1, by rw [sp_other hl hd (by decide) (.inr (by decide))]; exact h.2.2.2.2.2.2.2.1, by rw [sp_other hl hd (by decide) (.inr (by decide))]; exact h.2.2.2.2.2.2.2.2.1, by rw [sp_other hl hd (by decide) (.inr (by decide))]; exact h.2.2.2.2.2.2.2.2.2.1, by rw [sp_other hl hd (by decide) (.inr (by decide))]; exact h.2.2.2.2.2.2.2.2.2.2⟩
def le_T_api_Schema_Stages : Lens T_api_Schema (List T_api_Stage) where
  off := 5
  get := T_api_Schema.f_Stages
  set b g := { b with f_Stages := g }
  inb := by decide
  get_rep h := h.2.2.2.2.2.2.1
  set_rep h hg := by
    have hl := h.1
    have hd := Rp.len hg
    exact ⟨sp_len hl hd (by decide), by rw [sp_other hl hd (by decide) (.inl (by decide))]; exact h.2.1, by rw [sp_other hl hd (by decide) (.inl (by decide))]; exact h.2.2.1, by rw [sp_other hl hd (by decide) (.inl (by decide))]; exact h.2.2.2.1, by rw [sp_other hl hd (by decide) (.inl (by decide))]; exact h.2.2.2.2.1, by rw [sp_other hl hd (by decide) (.inl (by decide))]; exact h.2.2.2.2.2.1, by rw [sp_same hl hd (by decide)]; exact hg, by rw [sp_other hl hd (by decide) (.inr (by decide))]; exact h.2.2.2.2.2.2.2.1, by rw [sp_other hl hd (by decide) (.inr (by decide))]; exact h.2.2.2.2.2.2.2.2.1, by rw [sp_other hl hd (by decide) (.inr (by decide))]; exact h.2.2.2.2.2.2.2.2.2.1, by rw [sp_other hl hd (by decide) (.inr (by decide))]; exact h.2.2.2.2.2.2.2.2.2.2⟩
def le_T_api_Schema_Roles : Lens T_api_Schema (List T_api_Role) where
  off := 6
  get := T_api_Schema.f_Roles
  set b g := { b with f_Roles := g }
  inb := by decide
  get_rep h := h.2.2.2.2.2.2.2.1
  set_rep h hg := by
    have hl := h.1
    have hd := Rp.len hg
    exact ⟨sp_len hl hd (by decide), by rw [sp_other hl hd (by decide) (.inl (by decide))]; exact h.2.1, by rw [sp_other hl hd (by decide) (.inl (by decide))]; exact h.2.2.1, by rw [sp_other hl hd (by decide) (.inl (by decide))]; exact h.2.2.2.1, by rw [sp_other hl hd (by decide) (.inl (by decide))]; exact h.2.2.2.2.1, by rw [sp_other hl hd (by decide) (.inl (by decide))]; exact h.2.2.2.2.2.1, by rw [sp_other hl hd (by decide) (.inl (by decide))]; exact h.2.2.2.2.2.2.1, by rw [sp_same hl hd (by decide)]; exact hg, by rw [sp_other hl hd (by decide) (.inr (by decide))]; exact h.2.2.2.2.2.2.2.2.1, by rw [sp_other hl hd (by decide) (.inr (by decide))]; exact h.2.2.2.2.2.2.2.2.2.1, by rw [sp_other hl hd (by decide) (.inr (by decide))]; exact h.2.2.2.2.2.2.2.2.2.2⟩
def le_T_api_Schema_Refs : Lens T_api_Schema (List T_api_Ref) where
  off := 7
  get := T_api_Schema.f_Refs
  set b g := { b with f_Refs := g }
  inb := by decide
  get_rep h := h.2.2.2.2.2.2.2.2.1
  set_rep h hg := by
    have hl := h.1
    have hd := Rp.len hg
    exact ⟨sp_len hl hd (by decide), by rw [sp_other hl hd (by decide) (.inl (by decide))]; exact h.2.1, by rw [sp_other hl hd (by decide) (.inl (by decide))]; exact h.2.2.1, by rw [sp_other hl hd (by decide) (.inl (by decide))]; exact h.2.2.2.1, by rw [sp_other hl hd (by decide) (.inl (by decide))]; exact h.2.2.2.2.1, by rw [sp_other hl hd (by decide) (.inl (by decide))]; exact h.2.2.2.2.2.1, by rw [sp_other hl hd (by decide) (.inl (by decide))]; exact h.2.2.2.2.2.2.1, by rw [sp_other hl hd (by decide) (.inl (by decide))]; exact h.2.2.2.2.2.2.2.1, by rw [sp_same hl hd (by decide)]; exact hg, by rw [sp_other hl hd (by decide) (.inr (by decide))]; exact h.2.2.2.2.2.2.2.2.2.1, by rw [sp_other hl hd (by decide) (.inr (by decide))]; exact h.2.2.2.2.2.2.2.2.2.2⟩
def le_T_api_Schema_MaxBatch : Lens T_api_Schema Int where
  off := 8
  get := T_api_Schema.f_MaxBatch
  set b g := { b with f_MaxBatch := g }
  inb := by decide
  get_rep h := h.2.2.2.2.2.2.2.2.2.1
  set_rep h hg := by
    have hl := h.1
    have hd := Rp.len hg
    exact ⟨sp_len hl hd (by decide), by rw [sp_other hl hd (by decide) (.inl (by decide))]; exact h.2.1, by rw [sp_other hl hd (by decide) (.inl (by decide))]; exact h.2.2.1, by rw [sp_other hl hd (by decide) (.inl (by decide))]; exact h.2.2.2.1, by rw [sp_other hl hd (by decide) (.inl (by decide))]; exact h.2.2.2.2.1, by rw [sp_other hl hd (by decide) (.inl (by decide))]; exact h.2.2.2.2.2.1, by rw [sp_other hl hd (by decide) (.inl (by decide))]; exact h.2.2.2.2.2.2.1, by rw [sp_other hl hd (by decide) (.inl (by decide))]; exact h.2.2.2.2.2.2.2.1, by rw [sp_other hl hd (by decide) (.inl (by decide))]; exact h.2.2.2.2.2.2.2.2.1, by rw [sp_same hl hd (by decide)]; exact hg, by rw [sp_other hl hd (by decide) (.inr (by decide))]; exact h.2.2.2.2.2.2.2.2.2.2⟩
def le_T_api_Schema_Budget : Lens T_api_Schema Int where
  off := 9
  get := T_api_Schema.f_Budget
  set b g := { b with f_Budget := g }
  inb := by decide
  get_rep h := h.2.2.2.2.2.2.2.2.2.2
  set_rep h hg := by
    have hl := h.1
    have hd := Rp.len hg
    exact ⟨sp_len hl hd (by decide), by rw [sp_other hl hd (by decide) (.inl (by decide))]; exact h.2.1, by rw [sp_other hl hd (by decide) (.inl (by decide))]; exact h.2.2.1, by rw [sp_other hl hd (by decide) (.inl (by decide))]; exact h.2.2.2.1, by rw [sp_other hl hd (by decide) (.inl (by decide))]; exact h.2.2.2.2.1, by rw [sp_other hl hd (by decide) (.inl (by decide))]; exact h.2.2.2.2.2.1, by rw [sp_other hl hd (by decide) (.inl (by decide))]; exact h.2.2.2.2.2.2.1, by rw [sp_other hl hd (by decide) (.inl (by decide))]; exact h.2.2.2.2.2.2.2.1, by rw [sp_other hl hd (by decide) (.inl (by decide))]; exact h.2.2.2.2.2.2.2.2.1, by rw [sp_other hl hd (by decide) (.inl (by decide))]; exact h.2.2.2.2.2.2.2.2.2.1, by rw [sp_same hl hd (by decide)]; exact hg⟩
instance : Zc T_api_Schema := ⟨Zc.cells (List T_api_Field) ++ Zc.cells (List T_api_Header) ++ Zc.cells (List T_api_State) ++ Zc.cells (List T_api_Action) ++ Zc.cells (List T_api_Table) ++ Zc.cells (List T_api_Stage) ++ Zc.cells (List T_api_Role) ++ Zc.cells (List T_api_Ref) ++ Zc.cells Int ++ Zc.cells Int, fun A W => ⟨by rfl, Zc.ok (α := List T_api_Field) A W, Zc.ok (α := List T_api_Header) A W, Zc.ok (α := List T_api_State) A W, Zc.ok (α := List T_api_Action) A W, Zc.ok (α := List T_api_Table) A W, Zc.ok (α := List T_api_Stage) A W, Zc.ok (α := List T_api_Role) A W, Zc.ok (α := List T_api_Ref) A W, Zc.ok (α := Int) A W, Zc.ok (α := Int) A W⟩⟩
theorem zr33 : Zr Try.prog 33 (default : T_api_Schema) := Zr.of (by kernel_rfl)
theorem ty3 : Ty Try.prog 3 Int := Ty.of (by rfl) Try.underlying3 (by kernel_rfl)
theorem fd120_1 : FdA Try.prog 120 1 1 := FdA.of Try.underlying120 rfl rfl ty3 rfl
theorem ty22 : Ty Try.prog 22 (List (BitVec 8)) := Ty.of (by rfl) Try.underlying22 (by kernel_rfl)
theorem fd120_0 : FdA Try.prog 120 0 0 := FdA.of Try.underlying120 rfl rfl ty22 rfl
theorem mixed : Try.prog.follows .mixedOrders = true := by kernel_rfl
theorem en76 : En Try.prog 76 := ⟨_, Try.func76, rfl, by kernel_rfl⟩
theorem en49 : En Try.prog 49 := ⟨_, Try.func49, rfl, by kernel_rfl⟩
theorem bu33 : Bu Try.prog 33 #[(0, 1), (1, 1), (2, 1), (3, 1), (4, 1), (5, 1), (6, 1), (7, 1), (8, 1), (9, 1)] := ⟨_, Try.underlying33, by kernel_rfl, by kernel_rfl⟩
theorem ty33 : Ty Try.prog 33 T_api_Schema := Ty.of (by rfl) Try.underlying33 (by kernel_rfl)
theorem zr123 : Zr Try.prog 123 (default : T_api_Field) := Zr.of (by kernel_rfl)
theorem bu123 : Bu Try.prog 123 #[(0, 1), (1, 1), (2, 1)] := ⟨_, Try.underlying123, by kernel_rfl, by kernel_rfl⟩
theorem ty123 : Ty Try.prog 123 T_api_Field := Ty.of (by rfl) Try.underlying123 (by kernel_rfl)
theorem ty24 : Ty Try.prog 24 (List T_api_Field) := Ty.of (by rfl) Try.underlying24 (by kernel_rfl)
theorem fd33_0 : FdA Try.prog 33 0 0 := FdA.of Try.underlying33 rfl rfl ty24 rfl
theorem zr3 : Zr Try.prog 3 (default : Int) := Zr.of (by kernel_rfl)
theorem zr125 : Zr Try.prog 125 (default : T_api_Header) := Zr.of (by kernel_rfl)
theorem bu125 : Bu Try.prog 125 #[(0, 1), (1, 1), (2, 1)] := ⟨_, Try.underlying125, by kernel_rfl, by kernel_rfl⟩
theorem ty125 : Ty Try.prog 125 T_api_Header := Ty.of (by rfl) Try.underlying125 (by kernel_rfl)
theorem ty25 : Ty Try.prog 25 (List T_api_Header) := Ty.of (by rfl) Try.underlying25 (by kernel_rfl)
theorem fd33_1 : FdA Try.prog 33 1 1 := FdA.of Try.underlying33 rfl rfl ty25 rfl
theorem zr196 : Zr Try.prog 196 (default : T_api_State) := Zr.of (by kernel_rfl)
theorem bu196 : Bu Try.prog 196 #[(0, 1), (1, 1), (2, 1), (3, 1), (4, 1)] := ⟨_, Try.underlying196, by kernel_rfl, by kernel_rfl⟩
theorem ty196 : Ty Try.prog 196 T_api_State := Ty.of (by rfl) Try.underlying196 (by kernel_rfl)
theorem zr47 : Zr Try.prog 47 (default : T_api_Value) := Zr.of (by kernel_rfl)
theorem bu47 : Bu Try.prog 47 #[(0, 1), (1, 1)] := ⟨_, Try.underlying47, by kernel_rfl, by kernel_rfl⟩
theorem zr198 : Zr Try.prog 198 (default : T_api_Case) := Zr.of (by kernel_rfl)
theorem bu198 : Bu Try.prog 198 #[(0, 2), (2, 2), (4, 1)] := ⟨_, Try.underlying198, by kernel_rfl, by kernel_rfl⟩
theorem ty198 : Ty Try.prog 198 T_api_Case := Ty.of (by rfl) Try.underlying198 (by kernel_rfl)
theorem ty194 : Ty Try.prog 194 (List T_api_Case) := Ty.of (by rfl) Try.underlying194 (by kernel_rfl)
theorem fd196_3 : FdA Try.prog 196 3 3 := FdA.of Try.underlying196 rfl rfl ty194 rfl
theorem en54 : En Try.prog 54 := ⟨_, Try.func54, rfl, by kernel_rfl⟩
theorem zh196_3 : Zh Try.prog 196 [3] := by unfold Zh; kernel_rfl
theorem en50 : En Try.prog 50 := ⟨_, Try.func50, rfl, by kernel_rfl⟩
theorem zr200 : Zr Try.prog 200 (default : T_api_Operand) := Zr.of (by kernel_rfl)
theorem bu200 : Bu Try.prog 200 #[(0, 1), (1, 1), (2, 2)] := ⟨_, Try.underlying200, by kernel_rfl, by kernel_rfl⟩
theorem ty200 : Ty Try.prog 200 T_api_Operand := Ty.of (by rfl) Try.underlying200 (by kernel_rfl)
theorem zr168 : Zr Try.prog 168 (default : T_api_Action) := Zr.of (by kernel_rfl)
theorem bu168 : Bu Try.prog 168 #[(0, 1), (1, 1), (2, 1), (3, 1), (4, 1)] := ⟨_, Try.underlying168, by kernel_rfl, by kernel_rfl⟩
theorem zr202 : Zr Try.prog 202 (default : T_api_Prim) := Zr.of (by kernel_rfl)
theorem bu202 : Bu Try.prog 202 #[(0, 1), (1, 1), (2, 4)] := ⟨_, Try.underlying202, by kernel_rfl, by kernel_rfl⟩
theorem ty202 : Ty Try.prog 202 T_api_Prim := Ty.of (by rfl) Try.underlying202 (by kernel_rfl)
theorem zr171 : Zr Try.prog 171 (default : T_api_Param) := Zr.of (by kernel_rfl)
theorem bu171 : Bu Try.prog 171 #[(0, 1), (1, 1)] := ⟨_, Try.underlying171, by kernel_rfl, by kernel_rfl⟩
theorem ty171 : Ty Try.prog 171 T_api_Param := Ty.of (by rfl) Try.underlying171 (by kernel_rfl)
theorem ty168 : Ty Try.prog 168 T_api_Action := Ty.of (by rfl) Try.underlying168 (by kernel_rfl)
theorem ty9 : Ty Try.prog 9 ByteArray := Ty.of (by rfl) Try.underlying9 (by kernel_rfl)
theorem fd168_4 : FdA Try.prog 168 4 4 := FdA.of Try.underlying168 rfl rfl ty9 rfl
theorem en51 : En Try.prog 51 := ⟨_, Try.func51, rfl, by kernel_rfl⟩
theorem zr163 : Zr Try.prog 163 (default : T_api_Key) := Zr.of (by kernel_rfl)
theorem bu163 : Bu Try.prog 163 #[(0, 1), (1, 1), (2, 1)] := ⟨_, Try.underlying163, by kernel_rfl, by kernel_rfl⟩
theorem ty163 : Ty Try.prog 163 T_api_Key := Ty.of (by rfl) Try.underlying163 (by kernel_rfl)
theorem zr136 : Zr Try.prog 136 (default : T_api_Table) := Zr.of (by kernel_rfl)
theorem bu136 : Bu Try.prog 136 #[(0, 1), (1, 1), (2, 1), (3, 1), (4, 1), (5, 1), (6, 1), (7, 1)] := ⟨_, Try.underlying136, by kernel_rfl, by kernel_rfl⟩
theorem ty136 : Ty Try.prog 136 T_api_Table := Ty.of (by rfl) Try.underlying136 (by kernel_rfl)
theorem ty134 : Ty Try.prog 134 (List T_api_Key) := Ty.of (by rfl) Try.underlying134 (by kernel_rfl)
theorem fd136_2 : FdA Try.prog 136 2 2 := FdA.of Try.underlying136 rfl rfl ty134 rfl
theorem zh136_2 : Zh Try.prog 136 [2] := by unfold Zh; kernel_rfl
theorem zh136_n : Zh Try.prog 136 [] := by unfold Zh; kernel_rfl
theorem ty47 : Ty Try.prog 47 T_api_Value := Ty.of (by rfl) Try.underlying47 (by kernel_rfl)
theorem zr9 : Zr Try.prog 9 (default : ByteArray) := Zr.of (by kernel_rfl)
theorem ty203 : Ty Try.prog 203 (List ByteArray) := Ty.of (by rfl) Try.underlying203 (by kernel_rfl)
theorem zr203 : Zr Try.prog 203 (default : List ByteArray) := Zr.of (by kernel_rfl)
theorem fd136_7 : FdA Try.prog 136 7 7 := FdA.of Try.underlying136 rfl rfl ty9 rfl
theorem en52 : En Try.prog 52 := ⟨_, Try.func52, rfl, by kernel_rfl⟩
theorem ty26 : Ty Try.prog 26 (List T_api_State) := Ty.of (by rfl) Try.underlying26 (by kernel_rfl)
theorem fd33_2 : FdA Try.prog 33 2 2 := FdA.of Try.underlying33 rfl rfl ty26 rfl
theorem ty27 : Ty Try.prog 27 (List T_api_Action) := Ty.of (by rfl) Try.underlying27 (by kernel_rfl)
theorem fd33_3 : FdA Try.prog 33 3 3 := FdA.of Try.underlying33 rfl rfl ty27 rfl
theorem ty28 : Ty Try.prog 28 (List T_api_Table) := Ty.of (by rfl) Try.underlying28 (by kernel_rfl)
theorem fd33_4 : FdA Try.prog 33 4 4 := FdA.of Try.underlying33 rfl rfl ty28 rfl
theorem zr207 : Zr Try.prog 207 (default : T_api_Role) := Zr.of (by kernel_rfl)
theorem bu207 : Bu Try.prog 207 #[(0, 1), (1, 1), (2, 1), (3, 1), (4, 1), (5, 1)] := ⟨_, Try.underlying207, by kernel_rfl, by kernel_rfl⟩
theorem ty207 : Ty Try.prog 207 T_api_Role := Ty.of (by rfl) Try.underlying207 (by kernel_rfl)
theorem ty4 : Ty Try.prog 4 Bool := Ty.of (by rfl) Try.underlying4 (by kernel_rfl)
theorem zr4 : Zr Try.prog 4 (default : Bool) := Zr.of (by kernel_rfl)
theorem ty205 : Ty Try.prog 205 (List T_api_Grant) := Ty.of (by rfl) Try.underlying205 (by kernel_rfl)
theorem fd207_2 : FdA Try.prog 207 2 2 := FdA.of Try.underlying207 rfl rfl ty205 rfl
theorem fd136_0 : FdA Try.prog 136 0 0 := FdA.of Try.underlying136 rfl rfl ty3 rfl
theorem zr209 : Zr Try.prog 209 (default : T_api_Grant) := Zr.of (by kernel_rfl)
theorem bu209 : Bu Try.prog 209 #[(0, 1), (1, 1), (2, 1), (3, 1)] := ⟨_, Try.underlying209, by kernel_rfl, by kernel_rfl⟩
theorem ty209 : Ty Try.prog 209 T_api_Grant := Ty.of (by rfl) Try.underlying209 (by kernel_rfl)
theorem zh207_2 : Zh Try.prog 207 [2] := by unfold Zh; kernel_rfl
theorem en53 : En Try.prog 53 := ⟨_, Try.func53, rfl, by kernel_rfl⟩
theorem ty30 : Ty Try.prog 30 (List T_api_Role) := Ty.of (by rfl) Try.underlying30 (by kernel_rfl)
theorem fd33_6 : FdA Try.prog 33 6 6 := FdA.of Try.underlying33 rfl rfl ty30 rfl
theorem zr131 : Zr Try.prog 131 (default : T_api_Stage) := Zr.of (by kernel_rfl)
theorem bu131 : Bu Try.prog 131 #[(0, 1), (1, 1)] := ⟨_, Try.underlying131, by kernel_rfl, by kernel_rfl⟩
theorem ty131 : Ty Try.prog 131 T_api_Stage := Ty.of (by rfl) Try.underlying131 (by kernel_rfl)
theorem ty29 : Ty Try.prog 29 (List T_api_Stage) := Ty.of (by rfl) Try.underlying29 (by kernel_rfl)
theorem fd33_5 : FdA Try.prog 33 5 5 := FdA.of Try.underlying33 rfl rfl ty29 rfl
theorem ty31 : Ty Try.prog 31 (List T_api_Ref) := Ty.of (by rfl) Try.underlying31 (by kernel_rfl)
theorem fd33_7 : FdA Try.prog 33 7 7 := FdA.of Try.underlying33 rfl rfl ty31 rfl
theorem zr133 : Zr Try.prog 133 (default : T_api_Ref) := Zr.of (by kernel_rfl)
theorem bu133 : Bu Try.prog 133 #[(0, 1), (1, 1), (2, 1), (3, 1), (4, 1), (5, 1)] := ⟨_, Try.underlying133, by kernel_rfl, by kernel_rfl⟩
theorem ty133 : Ty Try.prog 133 T_api_Ref := Ty.of (by rfl) Try.underlying133 (by kernel_rfl)
theorem zh33_5_7 : Zh Try.prog 33 [5, 7] := by unfold Zh; kernel_rfl
theorem en13 : En Try.prog 13 := ⟨_, Try.func13, rfl, by kernel_rfl⟩
structure T_api_Match where
  f_Present : Bool
  f_Value : T_api_Value
  f_Mask : T_api_Value
  f_Prefix : Int
  f_High : T_api_Value
  deriving DecidableEq, Inhabited
instance : Rp T_api_Match where
  size := 8
  agg := true
  rep A W cs x := cs.length = 8 ∧ Rp.rep A W ((cs.drop 0).take (Rp.size Bool)) x.f_Present ∧ Rp.rep A W ((cs.drop 1).take (Rp.size T_api_Value)) x.f_Value ∧ Rp.rep A W ((cs.drop 3).take (Rp.size T_api_Value)) x.f_Mask ∧ Rp.rep A W ((cs.drop 5).take (Rp.size Int)) x.f_Prefix ∧ Rp.rep A W ((cs.drop 6).take (Rp.size T_api_Value)) x.f_High
  len h := h.1
  one h := by
    intro u hu
    have h0 := mem_cut (o := 0) (s := Rp.size Bool) (by simpa using hu)
    rcases h0 with h1 | h0
    · exact Rp.one h.2.1 u h1
    have h0 := mem_cut (s := Rp.size T_api_Value) h0
    rcases h0 with h1 | h0
    · exact Rp.one h.2.2.1 u h1
    have h0 := mem_cut (s := Rp.size T_api_Value) h0
    rcases h0 with h1 | h0
    · exact Rp.one h.2.2.2.1 u h1
    have h0 := mem_cut (s := Rp.size Int) h0
    rcases h0 with h1 | h0
    · exact Rp.one h.2.2.2.2.1 u h1
    have h0 := mem_cut (s := Rp.size T_api_Value) h0
    rcases h0 with h1 | h0
    · exact Rp.one h.2.2.2.2.2 u h1
    exact mem_end h.1 (by rfl) h0
  flat h := by cases h
  mono e h := ⟨h.1, Rp.mono e h.2.1, Rp.mono e h.2.2.1, Rp.mono e h.2.2.2.1, Rp.mono e h.2.2.2.2.1, Rp.mono e h.2.2.2.2.2⟩
def le_T_api_Match_Present : Lens T_api_Match Bool where
  off := 0
  get := T_api_Match.f_Present
  set b g := { b with f_Present := g }
  inb := by decide
  get_rep h := h.2.1
  set_rep h hg := by
    have hl := h.1
    have hd := Rp.len hg
    exact ⟨sp_len hl hd (by decide), by rw [sp_same hl hd (by decide)]; exact hg, by rw [sp_other hl hd (by decide) (.inr (by decide))]; exact h.2.2.1, by rw [sp_other hl hd (by decide) (.inr (by decide))]; exact h.2.2.2.1, by rw [sp_other hl hd (by decide) (.inr (by decide))]; exact h.2.2.2.2.1, by rw [sp_other hl hd (by decide) (.inr (by decide))]; exact h.2.2.2.2.2⟩
def le_T_api_Match_Value : Lens T_api_Match T_api_Value where
  off := 1
  get := T_api_Match.f_Value
  set b g := { b with f_Value := g }
  inb := by decide
  get_rep h := h.2.2.1
  set_rep h hg := by
    have hl := h.1
    have hd := Rp.len hg
    exact ⟨sp_len hl hd (by decide), by rw [sp_other hl hd (by decide) (.inl (by decide))]; exact h.2.1, by rw [sp_same hl hd (by decide)]; exact hg, by rw [sp_other hl hd (by decide) (.inr (by decide))]; exact h.2.2.2.1, by rw [sp_other hl hd (by decide) (.inr (by decide))]; exact h.2.2.2.2.1, by rw [sp_other hl hd (by decide) (.inr (by decide))]; exact h.2.2.2.2.2⟩
def le_T_api_Match_Mask : Lens T_api_Match T_api_Value where
  off := 3
  get := T_api_Match.f_Mask
  set b g := { b with f_Mask := g }
  inb := by decide
  get_rep h := h.2.2.2.1
  set_rep h hg := by
    have hl := h.1
    have hd := Rp.len hg
    exact ⟨sp_len hl hd (by decide), by rw [sp_other hl hd (by decide) (.inl (by decide))]; exact h.2.1, by rw [sp_other hl hd (by decide) (.inl (by decide))]; exact h.2.2.1, by rw [sp_same hl hd (by decide)]; exact hg, by rw [sp_other hl hd (by decide) (.inr (by decide))]; exact h.2.2.2.2.1, by rw [sp_other hl hd (by decide) (.inr (by decide))]; exact h.2.2.2.2.2⟩
def le_T_api_Match_Prefix : Lens T_api_Match Int where
  off := 5
  get := T_api_Match.f_Prefix
  set b g := { b with f_Prefix := g }
  inb := by decide
  get_rep h := h.2.2.2.2.1
  set_rep h hg := by
    have hl := h.1
    have hd := Rp.len hg
    exact ⟨sp_len hl hd (by decide), by rw [sp_other hl hd (by decide) (.inl (by decide))]; exact h.2.1, by rw [sp_other hl hd (by decide) (.inl (by decide))]; exact h.2.2.1, by rw [sp_other hl hd (by decide) (.inl (by decide))]; exact h.2.2.2.1, by rw [sp_same hl hd (by decide)]; exact hg, by rw [sp_other hl hd (by decide) (.inr (by decide))]; exact h.2.2.2.2.2⟩
def le_T_api_Match_High : Lens T_api_Match T_api_Value where
  off := 6
  get := T_api_Match.f_High
  set b g := { b with f_High := g }
  inb := by decide
  get_rep h := h.2.2.2.2.2
  set_rep h hg := by
    have hl := h.1
    have hd := Rp.len hg
    exact ⟨sp_len hl hd (by decide), by rw [sp_other hl hd (by decide) (.inl (by decide))]; exact h.2.1, by rw [sp_other hl hd (by decide) (.inl (by decide))]; exact h.2.2.1, by rw [sp_other hl hd (by decide) (.inl (by decide))]; exact h.2.2.2.1, by rw [sp_other hl hd (by decide) (.inl (by decide))]; exact h.2.2.2.2.1, by rw [sp_same hl hd (by decide)]; exact hg⟩
instance : Zc T_api_Match := ⟨Zc.cells Bool ++ Zc.cells T_api_Value ++ Zc.cells T_api_Value ++ Zc.cells Int ++ Zc.cells T_api_Value, fun A W => ⟨by rfl, Zc.ok (α := Bool) A W, Zc.ok (α := T_api_Value) A W, Zc.ok (α := T_api_Value) A W, Zc.ok (α := Int) A W, Zc.ok (α := T_api_Value) A W⟩⟩
structure T_api_Entry where
  f_Table : Int
  f_Matches : List T_api_Match
  f_Priority : Int
  f_Action : Int
  f_Args : List T_api_Value
  deriving DecidableEq, Inhabited
instance : Rp T_api_Entry where
  size := 5
  agg := true
  rep A W cs x := cs.length = 5 ∧ Rp.rep A W ((cs.drop 0).take (Rp.size Int)) x.f_Table ∧ Rp.rep A W ((cs.drop 1).take (Rp.size (List T_api_Match))) x.f_Matches ∧ Rp.rep A W ((cs.drop 2).take (Rp.size Int)) x.f_Priority ∧ Rp.rep A W ((cs.drop 3).take (Rp.size Int)) x.f_Action ∧ Rp.rep A W ((cs.drop 4).take (Rp.size (List T_api_Value))) x.f_Args
  len h := h.1
  one h := by
    intro u hu
    have h0 := mem_cut (o := 0) (s := Rp.size Int) (by simpa using hu)
    rcases h0 with h1 | h0
    · exact Rp.one h.2.1 u h1
    have h0 := mem_cut (s := Rp.size (List T_api_Match)) h0
    rcases h0 with h1 | h0
    · exact Rp.one h.2.2.1 u h1
    have h0 := mem_cut (s := Rp.size Int) h0
    rcases h0 with h1 | h0
    · exact Rp.one h.2.2.2.1 u h1
    have h0 := mem_cut (s := Rp.size Int) h0
    rcases h0 with h1 | h0
    · exact Rp.one h.2.2.2.2.1 u h1
    have h0 := mem_cut (s := Rp.size (List T_api_Value)) h0
    rcases h0 with h1 | h0
    · exact Rp.one h.2.2.2.2.2 u h1
    exact mem_end h.1 (by rfl) h0
  flat h := by cases h
  mono e h := ⟨h.1, Rp.mono e h.2.1, Rp.mono e h.2.2.1, Rp.mono e h.2.2.2.1, Rp.mono e h.2.2.2.2.1, Rp.mono e h.2.2.2.2.2⟩
def le_T_api_Entry_Table : Lens T_api_Entry Int where
  off := 0
  get := T_api_Entry.f_Table
  set b g := { b with f_Table := g }
  inb := by decide
  get_rep h := h.2.1
  set_rep h hg := by
    have hl := h.1
    have hd := Rp.len hg
    exact ⟨sp_len hl hd (by decide), by rw [sp_same hl hd (by decide)]; exact hg, by rw [sp_other hl hd (by decide) (.inr (by decide))]; exact h.2.2.1, by rw [sp_other hl hd (by decide) (.inr (by decide))]; exact h.2.2.2.1, by rw [sp_other hl hd (by decide) (.inr (by decide))]; exact h.2.2.2.2.1, by rw [sp_other hl hd (by decide) (.inr (by decide))]; exact h.2.2.2.2.2⟩
def le_T_api_Entry_Matches : Lens T_api_Entry (List T_api_Match) where
  off := 1
  get := T_api_Entry.f_Matches
  set b g := { b with f_Matches := g }
  inb := by decide
  get_rep h := h.2.2.1
  set_rep h hg := by
    have hl := h.1
    have hd := Rp.len hg
    exact ⟨sp_len hl hd (by decide), by rw [sp_other hl hd (by decide) (.inl (by decide))]; exact h.2.1, by rw [sp_same hl hd (by decide)]; exact hg, by rw [sp_other hl hd (by decide) (.inr (by decide))]; exact h.2.2.2.1, by rw [sp_other hl hd (by decide) (.inr (by decide))]; exact h.2.2.2.2.1, by rw [sp_other hl hd (by decide) (.inr (by decide))]; exact h.2.2.2.2.2⟩
def le_T_api_Entry_Priority : Lens T_api_Entry Int where
  off := 2
  get := T_api_Entry.f_Priority
  set b g := { b with f_Priority := g }
  inb := by decide
  get_rep h := h.2.2.2.1
  set_rep h hg := by
    have hl := h.1
    have hd := Rp.len hg
    exact ⟨sp_len hl hd (by decide), by rw [sp_other hl hd (by decide) (.inl (by decide))]; exact h.2.1, by rw [sp_other hl hd (by decide) (.inl (by decide))]; exact h.2.2.1, by rw [sp_same hl hd (by decide)]; exact hg, by rw [sp_other hl hd (by decide) (.inr (by decide))]; exact h.2.2.2.2.1, by rw [sp_other hl hd (by decide) (.inr (by decide))]; exact h.2.2.2.2.2⟩
def le_T_api_Entry_Action : Lens T_api_Entry Int where
  off := 3
  get := T_api_Entry.f_Action
  set b g := { b with f_Action := g }
  inb := by decide
  get_rep h := h.2.2.2.2.1
  set_rep h hg := by
    have hl := h.1
    have hd := Rp.len hg
    exact ⟨sp_len hl hd (by decide), by rw [sp_other hl hd (by decide) (.inl (by decide))]; exact h.2.1, by rw [sp_other hl hd (by decide) (.inl (by decide))]; exact h.2.2.1, by rw [sp_other hl hd (by decide) (.inl (by decide))]; exact h.2.2.2.1, by rw [sp_same hl hd (by decide)]; exact hg, by rw [sp_other hl hd (by decide) (.inr (by decide))]; exact h.2.2.2.2.2⟩
def le_T_api_Entry_Args : Lens T_api_Entry (List T_api_Value) where
  off := 4
  get := T_api_Entry.f_Args
  set b g := { b with f_Args := g }
  inb := by decide
  get_rep h := h.2.2.2.2.2
  set_rep h hg := by
    have hl := h.1
    have hd := Rp.len hg
    exact ⟨sp_len hl hd (by decide), by rw [sp_other hl hd (by decide) (.inl (by decide))]; exact h.2.1, by rw [sp_other hl hd (by decide) (.inl (by decide))]; exact h.2.2.1, by rw [sp_other hl hd (by decide) (.inl (by decide))]; exact h.2.2.2.1, by rw [sp_other hl hd (by decide) (.inl (by decide))]; exact h.2.2.2.2.1, by rw [sp_same hl hd (by decide)]; exact hg⟩
instance : Zc T_api_Entry := ⟨Zc.cells Int ++ Zc.cells (List T_api_Match) ++ Zc.cells Int ++ Zc.cells Int ++ Zc.cells (List T_api_Value), fun A W => ⟨by rfl, Zc.ok (α := Int) A W, Zc.ok (α := List T_api_Match) A W, Zc.ok (α := Int) A W, Zc.ok (α := Int) A W, Zc.ok (α := List T_api_Value) A W⟩⟩
structure T_api_Installed where
  f_Entry : T_api_Entry
  f_Number : Int
  f_Owner : Int
  deriving DecidableEq, Inhabited
instance : Rp T_api_Installed where
  size := 7
  agg := true
  rep A W cs x := cs.length = 7 ∧ Rp.rep A W ((cs.drop 0).take (Rp.size T_api_Entry)) x.f_Entry ∧ Rp.rep A W ((cs.drop 5).take (Rp.size Int)) x.f_Number ∧ Rp.rep A W ((cs.drop 6).take (Rp.size Int)) x.f_Owner
  len h := h.1
  one h := by
    intro u hu
    have h0 := mem_cut (o := 0) (s := Rp.size T_api_Entry) (by simpa using hu)
    rcases h0 with h1 | h0
    · exact Rp.one h.2.1 u h1
    have h0 := mem_cut (s := Rp.size Int) h0
    rcases h0 with h1 | h0
    · exact Rp.one h.2.2.1 u h1
    have h0 := mem_cut (s := Rp.size Int) h0
    rcases h0 with h1 | h0
    · exact Rp.one h.2.2.2 u h1
    exact mem_end h.1 (by rfl) h0
  flat h := by cases h
  mono e h := ⟨h.1, Rp.mono e h.2.1, Rp.mono e h.2.2.1, Rp.mono e h.2.2.2⟩
def le_T_api_Installed_Entry : Lens T_api_Installed T_api_Entry where
  off := 0
  get := T_api_Installed.f_Entry
  set b g := { b with f_Entry := g }
  inb := by decide
  get_rep h := h.2.1
  set_rep h hg := by
    have hl := h.1
    have hd := Rp.len hg
    exact ⟨sp_len hl hd (by decide), by rw [sp_same hl hd (by decide)]; exact hg, by rw [sp_other hl hd (by decide) (.inr (by decide))]; exact h.2.2.1, by rw [sp_other hl hd (by decide) (.inr (by decide))]; exact h.2.2.2⟩
def le_T_api_Installed_Number : Lens T_api_Installed Int where
  off := 5
  get := T_api_Installed.f_Number
  set b g := { b with f_Number := g }
  inb := by decide
  get_rep h := h.2.2.1
  set_rep h hg := by
    have hl := h.1
    have hd := Rp.len hg
    exact ⟨sp_len hl hd (by decide), by rw [sp_other hl hd (by decide) (.inl (by decide))]; exact h.2.1, by rw [sp_same hl hd (by decide)]; exact hg, by rw [sp_other hl hd (by decide) (.inr (by decide))]; exact h.2.2.2⟩
def le_T_api_Installed_Owner : Lens T_api_Installed Int where
  off := 6
  get := T_api_Installed.f_Owner
  set b g := { b with f_Owner := g }
  inb := by decide
  get_rep h := h.2.2.2
  set_rep h hg := by
    have hl := h.1
    have hd := Rp.len hg
    exact ⟨sp_len hl hd (by decide), by rw [sp_other hl hd (by decide) (.inl (by decide))]; exact h.2.1, by rw [sp_other hl hd (by decide) (.inl (by decide))]; exact h.2.2.1, by rw [sp_same hl hd (by decide)]; exact hg⟩
instance : Zc T_api_Installed := ⟨Zc.cells T_api_Entry ++ Zc.cells Int ++ Zc.cells Int, fun A W => ⟨by rfl, Zc.ok (α := T_api_Entry) A W, Zc.ok (α := Int) A W, Zc.ok (α := Int) A W⟩⟩
structure T_ordered_List where
  f_schema : T_api_Schema
  f_l : List T_api_Installed
  deriving DecidableEq, Inhabited
instance : Rp T_ordered_List where
  size := 11
  agg := true
  rep A W cs x := cs.length = 11 ∧ Rp.rep A W ((cs.drop 0).take (Rp.size T_api_Schema)) x.f_schema ∧ Rp.rep A W ((cs.drop 10).take (Rp.size (List T_api_Installed))) x.f_l
  len h := h.1
  one h := by
    intro u hu
    have h0 := mem_cut (o := 0) (s := Rp.size T_api_Schema) (by simpa using hu)
    rcases h0 with h1 | h0
    · exact Rp.one h.2.1 u h1
    have h0 := mem_cut (s := Rp.size (List T_api_Installed)) h0
    rcases h0 with h1 | h0
    · exact Rp.one h.2.2 u h1
    exact mem_end h.1 (by rfl) h0
  flat h := by cases h
  mono e h := ⟨h.1, Rp.mono e h.2.1, Rp.mono e h.2.2⟩
def le_T_ordered_List_schema : Lens T_ordered_List T_api_Schema where
  off := 0
  get := T_ordered_List.f_schema
  set b g := { b with f_schema := g }
  inb := by decide
  get_rep h := h.2.1
  set_rep h hg := by
    have hl := h.1
    have hd := Rp.len hg
    exact ⟨sp_len hl hd (by decide), by rw [sp_same hl hd (by decide)]; exact hg, by rw [sp_other hl hd (by decide) (.inr (by decide))]; exact h.2.2⟩
def le_T_ordered_List_l : Lens T_ordered_List (List T_api_Installed) where
  off := 10
  get := T_ordered_List.f_l
  set b g := { b with f_l := g }
  inb := by decide
  get_rep h := h.2.2
  set_rep h hg := by
    have hl := h.1
    have hd := Rp.len hg
    exact ⟨sp_len hl hd (by decide), by rw [sp_other hl hd (by decide) (.inl (by decide))]; exact h.2.1, by rw [sp_same hl hd (by decide)]; exact hg⟩
instance : Zc T_ordered_List := ⟨Zc.cells T_api_Schema ++ Zc.cells (List T_api_Installed), fun A W => ⟨by rfl, Zc.ok (α := T_api_Schema) A W, Zc.ok (α := List T_api_Installed) A W⟩⟩
theorem zr161 : Zr Try.prog 161 (default : T_ordered_List) := Zr.of (by kernel_rfl)
theorem bu161 : Bu Try.prog 161 #[(0, 10), (10, 1)] := ⟨_, Try.underlying161, by kernel_rfl, by kernel_rfl⟩
theorem en30 : En Try.prog 30 := ⟨_, Try.func30, rfl, by kernel_rfl⟩
theorem zr89 : Zr Try.prog 89 (default : T_api_Entry) := Zr.of (by kernel_rfl)
theorem en22 : En Try.prog 22 := ⟨_, Try.func22, rfl, by kernel_rfl⟩
theorem bu89 : Bu Try.prog 89 #[(0, 1), (1, 1), (2, 1), (3, 1), (4, 1)] := ⟨_, Try.underlying89, by kernel_rfl, by kernel_rfl⟩
theorem ty89 : Ty Try.prog 89 T_api_Entry := Ty.of (by rfl) Try.underlying89 (by kernel_rfl)
theorem ty87 : Ty Try.prog 87 (List T_api_Match) := Ty.of (by rfl) Try.underlying87 (by kernel_rfl)
theorem fd89_1 : FdA Try.prog 89 1 1 := FdA.of Try.underlying89 rfl rfl ty87 rfl
theorem zr104 : Zr Try.prog 104 (default : T_api_Match) := Zr.of (by kernel_rfl)
theorem fd163_1 : FdA Try.prog 163 1 1 := FdA.of Try.underlying163 rfl rfl ty3 rfl
theorem fd123_0 : FdA Try.prog 123 0 0 := FdA.of Try.underlying123 rfl rfl ty3 rfl
theorem fd123_2 : FdA Try.prog 123 2 2 := FdA.of Try.underlying123 rfl rfl ty3 rfl
theorem en112 : En Try.prog 112 := ⟨_, Try.func112, rfl, by kernel_rfl⟩
theorem ty45 : Ty Try.prog 45 (BitVec 64) := Ty.of (by rfl) Try.underlying45 (by kernel_rfl)
theorem fd47_0 : FdA Try.prog 47 0 0 := FdA.of Try.underlying47 rfl rfl ty45 rfl
theorem fd47_1 : FdA Try.prog 47 1 1 := FdA.of Try.underlying47 rfl rfl ty45 rfl
theorem en79 : En Try.prog 79 := ⟨_, Try.func79, rfl, by kernel_rfl⟩
theorem fd163_2 : FdA Try.prog 163 2 2 := FdA.of Try.underlying163 rfl rfl ty3 rfl
theorem en113 : En Try.prog 113 := ⟨_, Try.func113, rfl, by kernel_rfl⟩
theorem fv47_1 : Fv Try.prog 47 1 45 1 := ⟨_, _, Try.underlying47, rfl, rfl, rfl⟩
theorem bu104 : Bu Try.prog 104 #[(0, 1), (1, 2), (3, 2), (5, 1), (6, 2)] := ⟨_, Try.underlying104, by kernel_rfl, by kernel_rfl⟩
theorem ty104 : Ty Try.prog 104 T_api_Match := Ty.of (by rfl) Try.underlying104 (by kernel_rfl)
theorem en77 : En Try.prog 77 := ⟨_, Try.func77, rfl, by kernel_rfl⟩
theorem fd89_2 : FdA Try.prog 89 2 2 := FdA.of Try.underlying89 rfl rfl ty3 rfl
theorem ty64 : Ty Try.prog 64 (List Int) := Ty.of (by rfl) Try.underlying64 (by kernel_rfl)
theorem fd136_3 : FdA Try.prog 136 3 3 := FdA.of Try.underlying136 rfl rfl ty64 rfl
theorem fd89_3 : FdA Try.prog 89 3 3 := FdA.of Try.underlying89 rfl rfl ty3 rfl
theorem fd168_0 : FdA Try.prog 168 0 0 := FdA.of Try.underlying168 rfl rfl ty3 rfl
theorem en78 : En Try.prog 78 := ⟨_, Try.func78, rfl, by kernel_rfl⟩
theorem fv168_2 : Fv Try.prog 168 2 165 2 := ⟨_, _, Try.underlying168, rfl, rfl, rfl⟩
theorem ty165 : Ty Try.prog 165 (List T_api_Param) := Ty.of (by rfl) Try.underlying165 (by kernel_rfl)
theorem ty72 : Ty Try.prog 72 (List T_api_Value) := Ty.of (by rfl) Try.underlying72 (by kernel_rfl)
theorem fd89_4 : FdA Try.prog 89 4 4 := FdA.of Try.underlying89 rfl rfl ty72 rfl
theorem fd171_1 : FdA Try.prog 171 1 1 := FdA.of Try.underlying171 rfl rfl ty3 rfl
theorem zh89_1_4 : Zh Try.prog 89 [1, 4] := by unfold Zh; kernel_rfl
theorem en32 : En Try.prog 32 := ⟨_, Try.func32, rfl, by kernel_rfl⟩
theorem zr92 : Zr Try.prog 92 (default : T_api_Installed) := Zr.of (by kernel_rfl)
theorem bu92 : Bu Try.prog 92 #[(0, 5), (5, 1), (6, 1)] := ⟨_, Try.underlying92, by kernel_rfl, by kernel_rfl⟩
theorem ty92 : Ty Try.prog 92 T_api_Installed := Ty.of (by rfl) Try.underlying92 (by kernel_rfl)
theorem fd92_1 : FdA Try.prog 92 1 5 := FdA.of Try.underlying92 rfl rfl ty3 rfl
theorem ty84 : Ty Try.prog 84 (List T_api_Installed) := Ty.of (by rfl) Try.underlying84 (by kernel_rfl)
theorem fd161_1 : FdA Try.prog 161 1 10 := FdA.of Try.underlying161 rfl rfl ty84 rfl
theorem en118 : En Try.prog 118 := ⟨_, Try.func118, rfl, by kernel_rfl⟩
theorem en117 : En Try.prog 117 := ⟨_, Try.func117, rfl, by kernel_rfl⟩
theorem en82 : En Try.prog 82 := ⟨_, Try.func82, rfl, by kernel_rfl⟩
theorem fd161_0 : FdA Try.prog 161 0 0 := FdA.of Try.underlying161 rfl rfl ty33 rfl
theorem fd92_0 : FdA Try.prog 92 0 0 := FdA.of Try.underlying92 rfl rfl ty89 rfl
theorem en178 : En Try.prog 178 := ⟨_, Try.func178, rfl, by kernel_rfl⟩
theorem en145 : En Try.prog 145 := ⟨_, Try.func145, rfl, by kernel_rfl⟩
theorem fd89_0 : FdA Try.prog 89 0 0 := FdA.of Try.underlying89 rfl rfl ty3 rfl
theorem en154 : En Try.prog 154 := ⟨_, Try.func154, rfl, by kernel_rfl⟩
theorem en153 : En Try.prog 153 := ⟨_, Try.func153, rfl, by kernel_rfl⟩
theorem en126 : En Try.prog 126 := ⟨_, Try.func126, rfl, by kernel_rfl⟩
theorem en139 : En Try.prog 139 := ⟨_, Try.func139, rfl, by kernel_rfl⟩
theorem en179 : En Try.prog 179 := ⟨_, Try.func179, rfl, by kernel_rfl⟩
theorem en155 : En Try.prog 155 := ⟨_, Try.func155, rfl, by kernel_rfl⟩
theorem fd104_3 : FdA Try.prog 104 3 5 := FdA.of Try.underlying104 rfl rfl ty3 rfl
theorem en146 : En Try.prog 146 := ⟨_, Try.func146, rfl, by kernel_rfl⟩
theorem en144 : En Try.prog 144 := ⟨_, Try.func144, rfl, by kernel_rfl⟩
theorem en119 : En Try.prog 119 := ⟨_, Try.func119, rfl, by kernel_rfl⟩
theorem en83 : En Try.prog 83 := ⟨_, Try.func83, rfl, by kernel_rfl⟩
theorem en84 : En Try.prog 84 := ⟨_, Try.func84, rfl, by kernel_rfl⟩
theorem en142 : En Try.prog 142 := ⟨_, Try.func142, rfl, by kernel_rfl⟩
theorem en143 : En Try.prog 143 := ⟨_, Try.func143, rfl, by kernel_rfl⟩
theorem en116 : En Try.prog 116 := ⟨_, Try.func116, rfl, by kernel_rfl⟩
theorem en81 : En Try.prog 81 := ⟨_, Try.func81, rfl, by kernel_rfl⟩
theorem en85 : En Try.prog 85 := ⟨_, Try.func85, rfl, by kernel_rfl⟩
theorem en36 : En Try.prog 36 := ⟨_, Try.func36, rfl, by kernel_rfl⟩
theorem zh161_10 : Zh Try.prog 161 [10] := by unfold Zh; kernel_rfl
theorem en31 : En Try.prog 31 := ⟨_, Try.func31, rfl, by kernel_rfl⟩
theorem ty81 : Ty Try.prog 81 (Vector T_api_Value 4) := Ty.of (by rfl) Try.underlying81 (by kernel_rfl)
theorem zr81 : Zr Try.prog 81 (default : Vector T_api_Value 4) := Zr.of (by kernel_rfl)
theorem ar81 : Ar Try.prog 81 4 2 := Ar.of Try.underlying81 ty47 rfl
theorem en33 : En Try.prog 33 := ⟨_, Try.func33, rfl, by kernel_rfl⟩
theorem fd104_0 : FdA Try.prog 104 0 0 := FdA.of Try.underlying104 rfl rfl ty4 rfl
theorem fd104_2 : FdA Try.prog 104 2 3 := FdA.of Try.underlying104 rfl rfl ty47 rfl
theorem eqv45 : Eqv Try.prog 45 (BitVec 64) 1 := eqv_u64 (K := .u64) Try.underlying45
theorem eqv47 : Eqv Try.prog 47 T_api_Value 2 := eqv_struct (k := 1) rfl Try.underlying47 (by kernel_rfl) fun d hd A W xs ys x y hx hy => by
  refine Eq.trans (eqf_cons le_T_api_Value_Hi ty45 rfl (by rfl) eqv45 (by omega) hx hy (eqf_cons le_T_api_Value_Lo ty45 rfl (by rfl) eqv45 (by omega) hx hy (eqf_nil))) ?_
  congr 1
  rw [Bool.eq_iff_iff]
  simp only [Bool.and_eq_true, decide_eq_true_eq, and_true]
  cases x; cases y
  simp [le_T_api_Value_Hi, le_T_api_Value_Lo]

theorem eqg47 : Try.prog.eqGuardType Try.prog.depth 47 = false := by kernel_rfl
theorem fd104_1 : FdA Try.prog 104 1 1 := FdA.of Try.underlying104 rfl rfl ty47 rfl
theorem en34 : En Try.prog 34 := ⟨_, Try.func34, rfl, by kernel_rfl⟩
theorem en80 : En Try.prog 80 := ⟨_, Try.func80, rfl, by kernel_rfl⟩
theorem en183 : En Try.prog 183 := ⟨_, Try.func183, rfl, by kernel_rfl⟩
theorem en182 : En Try.prog 182 := ⟨_, Try.func182, rfl, by kernel_rfl⟩
theorem en156 : En Try.prog 156 := ⟨_, Try.func156, rfl, by kernel_rfl⟩
theorem en141 : En Try.prog 141 := ⟨_, Try.func141, rfl, by kernel_rfl⟩
theorem en193 : En Try.prog 193 := ⟨_, Try.func193, rfl, by kernel_rfl⟩
theorem en194 : En Try.prog 194 := ⟨_, Try.func194, rfl, by kernel_rfl⟩
theorem en184 : En Try.prog 184 := ⟨_, Try.func184, rfl, by kernel_rfl⟩
theorem en187 : En Try.prog 187 := ⟨_, Try.func187, rfl, by kernel_rfl⟩
theorem en177 : En Try.prog 177 := ⟨_, Try.func177, rfl, by kernel_rfl⟩
theorem en158 : En Try.prog 158 := ⟨_, Try.func158, rfl, by kernel_rfl⟩
theorem en67 : En Try.prog 67 := ⟨_, Try.func67, rfl, by kernel_rfl⟩
theorem fd104_4 : FdA Try.prog 104 4 6 := FdA.of Try.underlying104 rfl rfl ty47 rfl
theorem en140 : En Try.prog 140 := ⟨_, Try.func140, rfl, by kernel_rfl⟩
theorem en115 : En Try.prog 115 := ⟨_, Try.func115, rfl, by kernel_rfl⟩
theorem en114 : En Try.prog 114 := ⟨_, Try.func114, rfl, by kernel_rfl⟩
theorem en35 : En Try.prog 35 := ⟨_, Try.func35, rfl, by kernel_rfl⟩
theorem zr219 : Zr Try.prog 219 (default : Vector (List Int) 6) := Zr.of (by kernel_rfl)
theorem ar219 : Ar Try.prog 219 6 1 := Ar.of Try.underlying219 ty64 rfl
theorem fd125_0 : FdA Try.prog 125 0 0 := FdA.of Try.underlying125 rfl rfl ty3 rfl
theorem fd196_0 : FdA Try.prog 196 0 0 := FdA.of Try.underlying196 rfl rfl ty3 rfl
theorem fd207_0 : FdA Try.prog 207 0 0 := FdA.of Try.underlying207 rfl rfl ty3 rfl
theorem zh219_0_1_2_3_4_5 : Zh Try.prog 219 [0, 1, 2, 3, 4, 5] := by unfold Zh; kernel_rfl
theorem ty219 : Ty Try.prog 219 (Vector (List Int) 6) := Ty.of (by rfl) Try.underlying219 (by kernel_rfl)
theorem en110 : En Try.prog 110 := ⟨_, Try.func110, rfl, by kernel_rfl⟩
theorem en109 : En Try.prog 109 := ⟨_, Try.func109, rfl, by kernel_rfl⟩
theorem en86 : En Try.prog 86 := ⟨_, Try.func86, rfl, by kernel_rfl⟩
theorem en149 : En Try.prog 149 := ⟨_, Try.func149, rfl, by kernel_rfl⟩
theorem en123 : En Try.prog 123 := ⟨_, Try.func123, rfl, by kernel_rfl⟩
theorem en88 : En Try.prog 88 := ⟨_, Try.func88, rfl, by kernel_rfl⟩
theorem zr222 : Zr Try.prog 222 (default : Vector Bool 128) := Zr.of (by kernel_rfl)
theorem ar222 : Ar Try.prog 222 128 1 := Ar.of Try.underlying222 ty4 rfl
theorem ty222 : Ty Try.prog 222 (Vector Bool 128) := Ty.of (by rfl) Try.underlying222 (by kernel_rfl)
theorem en111 : En Try.prog 111 := ⟨_, Try.func111, rfl, by kernel_rfl⟩
theorem en148 : En Try.prog 148 := ⟨_, Try.func148, rfl, by kernel_rfl⟩
theorem en122 : En Try.prog 122 := ⟨_, Try.func122, rfl, by kernel_rfl⟩
theorem en73 : En Try.prog 73 := ⟨_, Try.func73, rfl, by kernel_rfl⟩
theorem en87 : En Try.prog 87 := ⟨_, Try.func87, rfl, by kernel_rfl⟩
theorem en37 : En Try.prog 37 := ⟨_, Try.func37, rfl, by kernel_rfl⟩
theorem en150 : En Try.prog 150 := ⟨_, Try.func150, rfl, by kernel_rfl⟩
theorem en181 : En Try.prog 181 := ⟨_, Try.func181, rfl, by kernel_rfl⟩
theorem en151 : En Try.prog 151 := ⟨_, Try.func151, rfl, by kernel_rfl⟩
theorem en152 : En Try.prog 152 := ⟨_, Try.func152, rfl, by kernel_rfl⟩
theorem en124 : En Try.prog 124 := ⟨_, Try.func124, rfl, by kernel_rfl⟩
theorem en89 : En Try.prog 89 := ⟨_, Try.func89, rfl, by kernel_rfl⟩
theorem fd92_2 : FdA Try.prog 92 2 6 := FdA.of Try.underlying92 rfl rfl ty3 rfl
theorem en38 : En Try.prog 38 := ⟨_, Try.func38, rfl, by kernel_rfl⟩
theorem en46 : En Try.prog 46 := ⟨_, Try.func46, rfl, by kernel_rfl⟩
theorem en39 : En Try.prog 39 := ⟨_, Try.func39, rfl, by kernel_rfl⟩
theorem en93 : En Try.prog 93 := ⟨_, Try.func93, rfl, by kernel_rfl⟩
theorem en44 : En Try.prog 44 := ⟨_, Try.func44, rfl, by kernel_rfl⟩
theorem en134 : En Try.prog 134 := ⟨_, Try.func134, rfl, by kernel_rfl⟩
theorem en94 : En Try.prog 94 := ⟨_, Try.func94, rfl, by kernel_rfl⟩
theorem en45 : En Try.prog 45 := ⟨_, Try.func45, rfl, by kernel_rfl⟩
theorem en43 : En Try.prog 43 := ⟨_, Try.func43, rfl, by kernel_rfl⟩
theorem en95 : En Try.prog 95 := ⟨_, Try.func95, rfl, by kernel_rfl⟩
theorem en48 : En Try.prog 48 := ⟨_, Try.func48, rfl, by kernel_rfl⟩
end Go.Proofs.Ytodajdohokmjnaa

