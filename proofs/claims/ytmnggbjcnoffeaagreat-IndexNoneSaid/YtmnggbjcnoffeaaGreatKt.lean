/-
  The types of the data, and facts on their tables. Conditions: none.
-/
import Derived.Test.YtmnggbjcnoffeaaGreatRows
import Derived.Test.YtmnggbjcnoffeaaGreatKl2
namespace Go.Proofs.YtmnggbjcnoffeaaGreat
open Go Gv
set_option linter.unusedVariables false
set_option linter.unusedSimpArgs false
set_option maxRecDepth 100000
structure T_api_Value where
  f_Hi : BitVec 64
  f_Lo : BitVec 64
  deriving DecidableEq, Inhabited
instance : Rp T_api_Value where
  size := 2
  agg := true
  rep A W cs x := cs.length = 2 ∧ Rp.rep A W ((cs.drop 0).take (Rp.size (BitVec 64))) x.f_Hi ∧ Rp.rep A W ((cs.drop 1).take (Rp.size (BitVec 64))) x.f_Lo
  len h := h.1
  one h := by
    intro u hu
    have h0 := mem_cut (o := 0) (s := Rp.size (BitVec 64)) (by simpa using hu)
    rcases h0 with h1 | h0
    · exact Rp.one h.2.1 u h1
    have h0 := mem_cut (s := Rp.size (BitVec 64)) h0
    rcases h0 with h1 | h0
    · exact Rp.one h.2.2 u h1
    exact mem_end h.1 (by rfl) h0
  flat h := by cases h
  mono e h := ⟨h.1, Rp.mono e h.2.1, Rp.mono e h.2.2⟩
def le_T_api_Value_Hi : Lens T_api_Value (BitVec 64) where
  off := 0
  get := T_api_Value.f_Hi
  set b g := { b with f_Hi := g }
  inb := by decide
  get_rep h := h.2.1
  set_rep h hg := by
    have hl := h.1
    have hd := Rp.len hg
    exact ⟨sp_len hl hd (by decide), by rw [sp_same hl hd (by decide)]; exact hg, by rw [sp_other hl hd (by decide) (.inr (by decide))]; exact h.2.2⟩
def le_T_api_Value_Lo : Lens T_api_Value (BitVec 64) where
  off := 1
  get := T_api_Value.f_Lo
  set b g := { b with f_Lo := g }
  inb := by decide
  get_rep h := h.2.2
  set_rep h hg := by
    have hl := h.1
    have hd := Rp.len hg
    exact ⟨sp_len hl hd (by decide), by rw [sp_other hl hd (by decide) (.inl (by decide))]; exact h.2.1, by rw [sp_same hl hd (by decide)]; exact hg⟩
instance : Zc T_api_Value := ⟨Zc.cells (BitVec 64) ++ Zc.cells (BitVec 64), fun A W => ⟨by rfl, Zc.ok (α := BitVec 64) A W, Zc.ok (α := BitVec 64) A W⟩⟩
structure T_api_Match where
  f_Present : Bool
  f_Value : T_api_Value
  f_Mask : T_api_Value
  f_Prefix : Int
  f_High : T_api_Value
  deriving DecidableEq, Inhabited
instance : Rp T_api_Match where
  size := 8
  agg := true
  rep A W cs x := cs.length = 8 ∧ Rp.rep A W ((cs.drop 0).take (Rp.size Bool)) x.f_Present ∧ Rp.rep A W ((cs.drop 1).take (Rp.size T_api_Value)) x.f_Value ∧ Rp.rep A W ((cs.drop 3).take (Rp.size T_api_Value)) x.f_Mask ∧ Rp.rep A W ((cs.drop 5).take (Rp.size Int)) x.f_Prefix ∧ Rp.rep A W ((cs.drop 6).take (Rp.size T_api_Value)) x.f_High
  len h := h.1
  one h := by
    intro u hu
    have h0 := mem_cut (o := 0) (s := Rp.size Bool) (by simpa using hu)
    rcases h0 with h1 | h0
    · exact Rp.one h.2.1 u h1
    have h0 := mem_cut (s := Rp.size T_api_Value) h0
    rcases h0 with h1 | h0
    · exact Rp.one h.2.2.1 u h1
    have h0 := mem_cut (s := Rp.size T_api_Value) h0
    rcases h0 with h1 | h0
    · exact Rp.one h.2.2.2.1 u h1
    have h0 := mem_cut (s := Rp.size Int) h0
    rcases h0 with h1 | h0
    · exact Rp.one h.2.2.2.2.1 u h1
    have h0 := mem_cut (s := Rp.size T_api_Value) h0
    rcases h0 with h1 | h0
    · exact Rp.one h.2.2.2.2.2 u h1
    exact mem_end h.1 (by rfl) h0
  flat h := by cases h
  mono e h := ⟨h.1, Rp.mono e h.2.1, Rp.mono e h.2.2.1, Rp.mono e h.2.2.2.1, Rp.mono e h.2.2.2.2.1, Rp.mono e h.2.2.2.2.2⟩
def le_T_api_Match_Present : Lens T_api_Match Bool where
  off := 0
  get := T_api_Match.f_Present
  set b g := { b with f_Present := g }
  inb := by decide
  get_rep h := h.2.1
  set_rep h hg := by
    have hl := h.1
    have hd := Rp.len hg
    exact ⟨sp_len hl hd (by decide), by rw [sp_same hl hd (by decide)]; exact hg, by rw [sp_other hl hd (by decide) (.inr (by decide))]; exact h.2.2.1, by rw [sp_other hl hd (by decide) (.inr (by decide))]; exact h.2.2.2.1, by rw [sp_other hl hd (by decide) (.inr (by decide))]; exact h.2.2.2.2.1, by rw [sp_other hl hd (by decide) (.inr (by decide))]; exact h.2.2.2.2.2⟩
def le_T_api_Match_Value : Lens T_api_Match T_api_Value where
  off := 1
  get := T_api_Match.f_Value
  set b g := { b with f_Value := g }
  inb := by decide
  get_rep h := h.2.2.1
  set_rep h hg := by
    have hl := h.1
    have hd := Rp.len hg
    exact ⟨sp_len hl hd (by decide), by rw [sp_other hl hd (by decide) (.inl (by decide))]; exact h.2.1, by rw [sp_same hl hd (by decide)]; exact hg, by rw [sp_other hl hd (by decide) (.inr (by decide))]; exact h.2.2.2.1, by rw [sp_other hl hd (by decide) (.inr (by decide))]; exact h.2.2.2.2.1, by rw [sp_other hl hd (by decide) (.inr (by decide))]; exact h.2.2.2.2.2⟩
def le_T_api_Match_Mask : Lens T_api_Match T_api_Value where
  off := 3
  get := T_api_Match.f_Mask
  set b g := { b with f_Mask := g }
  inb := by decide
  get_rep h := h.2.2.2.1
  set_rep h hg := by
    have hl := h.1
    have hd := Rp.len hg
    exact ⟨sp_len hl hd (by decide), by rw [sp_other hl hd (by decide) (.inl (by decide))]; exact h.2.1, by rw [sp_other hl hd (by decide) (.inl (by decide))]; exact h.2.2.1, by rw [sp_same hl hd (by decide)]; exact hg, by rw [sp_other hl hd (by decide) (.inr (by decide))]; exact h.2.2.2.2.1, by rw [sp_other hl hd (by decide) (.inr (by decide))]; exact h.2.2.2.2.2⟩
def le_T_api_Match_Prefix : Lens T_api_Match Int where
  off := 5
  get := T_api_Match.f_Prefix
  set b g := { b with f_Prefix := g }
  inb := by decide
  get_rep h := h.2.2.2.2.1
  set_rep h hg := by
    have hl := h.1
    have hd := Rp.len hg
    exact ⟨sp_len hl hd (by decide), by rw [sp_other hl hd (by decide) (.inl (by decide))]; exact h.2.1, by rw [sp_other hl hd (by decide) (.inl (by decide))]; exact h.2.2.1, by rw [sp_other hl hd (by decide) (.inl (by decide))]; exact h.2.2.2.1, by rw [sp_same hl hd (by decide)]; exact hg, by rw [sp_other hl hd (by decide) (.inr (by decide))]; exact h.2.2.2.2.2⟩
def le_T_api_Match_High : Lens T_api_Match T_api_Value where
  off := 6
  get := T_api_Match.f_High
  set b g := { b with f_High := g }
  inb := by decide
  get_rep h := h.2.2.2.2.2
  set_rep h hg := by
    have hl := h.1
    have hd := Rp.len hg
    exact ⟨sp_len hl hd (by decide), by rw [sp_other hl hd (by decide) (.inl (by decide))]; exact h.2.1, by rw [sp_other hl hd (by decide) (.inl (by decide))]; exact h.2.2.1, by rw [sp_other hl hd (by decide) (.inl (by decide))]; exact h.2.2.2.1, by rw [sp_other hl hd (by decide) (.inl (by decide))]; exact h.2.2.2.2.1, by rw [sp_same hl hd (by decide)]; exact hg⟩
instance : Zc T_api_Match := ⟨Zc.cells Bool ++ Zc.cells T_api_Value ++ Zc.cells T_api_Value ++ Zc.cells Int ++ Zc.cells T_api_Value, fun A W => ⟨by rfl, Zc.ok (α := Bool) A W, Zc.ok (α := T_api_Value) A W, Zc.ok (α := T_api_Value) A W, Zc.ok (α := Int) A W, Zc.ok (α := T_api_Value) A W⟩⟩
structure T_api_Entry where
  f_Table : Int
  f_Matches : List T_api_Match
  f_Priority : Int
  f_Action : Int
  f_Args : List T_api_Value
  deriving DecidableEq, Inhabited
instance : Rp T_api_Entry where
  size := 5
  agg := true
  rep A W cs x := cs.length = 5 ∧ Rp.rep A W ((cs.drop 0).take (Rp.size Int)) x.f_Table ∧ Rp.rep A W ((cs.drop 1).take (Rp.size (List T_api_Match))) x.f_Matches ∧ Rp.rep A W ((cs.drop 2).take (Rp.size Int)) x.f_Priority ∧ Rp.rep A W ((cs.drop 3).take (Rp.size Int)) x.f_Action ∧ Rp.rep A W ((cs.drop 4).take (Rp.size (List T_api_Value))) x.f_Args
  len h := h.1
  one h := by
    intro u hu
    have h0 := mem_cut (o := 0) (s := Rp.size Int) (by simpa using hu)
    rcases h0 with h1 | h0
    · exact Rp.one h.2.1 u h1
    have h0 := mem_cut (s := Rp.size (List T_api_Match)) h0
    rcases h0 with h1 | h0
    · exact Rp.one h.2.2.1 u h1
    have h0 := mem_cut (s := Rp.size Int) h0
    rcases h0 with h1 | h0
    · exact Rp.one h.2.2.2.1 u h1
    have h0 := mem_cut (s := Rp.size Int) h0
    rcases h0 with h1 | h0
    · exact Rp.one h.2.2.2.2.1 u h1
    have h0 := mem_cut (s := Rp.size (List T_api_Value)) h0
    rcases h0 with h1 | h0
    · exact Rp.one h.2.2.2.2.2 u h1
    exact mem_end h.1 (by rfl) h0
  flat h := by cases h
  mono e h := ⟨h.1, Rp.mono e h.2.1, Rp.mono e h.2.2.1, Rp.mono e h.2.2.2.1, Rp.mono e h.2.2.2.2.1, Rp.mono e h.2.2.2.2.2⟩
def le_T_api_Entry_Table : Lens T_api_Entry Int where
  off := 0
  get := T_api_Entry.f_Table
  set b g := { b with f_Table := g }
  inb := by decide
  get_rep h := h.2.1
  set_rep h hg := by
    have hl := h.1
    have hd := Rp.len hg
    exact ⟨sp_len hl hd (by decide), by rw [sp_same hl hd (by decide)]; exact hg, by rw [sp_other hl hd (by decide) (.inr (by decide))]; exact h.2.2.1, by rw [sp_other hl hd (by decide) (.inr (by decide))]; exact h.2.2.2.1, by rw [sp_other hl hd (by decide) (.inr (by decide))]; exact h.2.2.2.2.1, by rw [sp_other hl hd (by decide) (.inr (by decide))]; exact h.2.2.2.2.2⟩
def le_T_api_Entry_Matches : Lens T_api_Entry (List T_api_Match) where
  off := 1
  get := T_api_Entry.f_Matches
  set b g := { b with f_Matches := g }
  inb := by decide
  get_rep h := h.2.2.1
  set_rep h hg := by
    have hl := h.1
    have hd := Rp.len hg
    exact ⟨sp_len hl hd (by decide), by rw [sp_other hl hd (by decide) (.inl (by decide))]; exact h.2.1, by rw [sp_same hl hd (by decide)]; exact hg, by rw [sp_other hl hd (by decide) (.inr (by decide))]; exact h.2.2.2.1, by rw [sp_other hl hd (by decide) (.inr (by decide))]; exact h.2.2.2.2.1, by rw [sp_other hl hd (by decide) (.inr (by decide))]; exact h.2.2.2.2.2⟩
def le_T_api_Entry_Priority : Lens T_api_Entry Int where
  off := 2
  get := T_api_Entry.f_Priority
  set b g := { b with f_Priority := g }
  inb := by decide
  get_rep h := h.2.2.2.1
  set_rep h hg := by
    have hl := h.1
    have hd := Rp.len hg
    exact ⟨sp_len hl hd (by decide), by rw [sp_other hl hd (by decide) (.inl (by decide))]; exact h.2.1, by rw [sp_other hl hd (by decide) (.inl (by decide))]; exact h.2.2.1, by rw [sp_same hl hd (by decide)]; exact hg, by rw [sp_other hl hd (by decide) (.inr (by decide))]; exact h.2.2.2.2.1, by rw [sp_other hl hd (by decide) (.inr (by decide))]; exact h.2.2.2.2.2⟩
def le_T_api_Entry_Args : Lens T_api_Entry (List T_api_Value) where
  off := 4
  get := T_api_Entry.f_Args
  set b g := { b with f_Args := g }
  inb := by decide
  get_rep h := h.2.2.2.2.2
  set_rep h hg := by
    have hl := h.1
    have hd := Rp.len hg
    exact ⟨sp_len hl hd (by decide), by rw [sp_other hl hd (by decide) (.inl (by decide))]; exact h.2.1, by rw [sp_other hl hd (by decide) (.inl (by decide))]; exact h.2.2.1, by rw [sp_other hl hd (by decide) (.inl (by decide))]; exact h.2.2.2.1, by rw [sp_other hl hd (by decide) (.inl (by decide))]; exact h.2.2.2.2.1, by rw [sp_same hl hd (by decide)]; exact hg⟩
instance : Zc T_api_Entry := ⟨Zc.cells Int ++ Zc.cells (List T_api_Match) ++ Zc.cells Int ++ Zc.cells Int ++ Zc.cells (List T_api_Value), fun A W => ⟨by rfl, Zc.ok (α := Int) A W, Zc.ok (α := List T_api_Match) A W, Zc.ok (α := Int) A W, Zc.ok (α := Int) A W, Zc.ok (α := List T_api_Value) A W⟩⟩
structure T_mcase_Codes where
  f_l : List (BitVec 8)
  f_at : Int
  deriving DecidableEq, Inhabited
instance : Rp T_mcase_Codes where
  size := 2
  agg := true
  rep A W cs x := cs.length = 2 ∧ Rp.rep A W ((cs.drop 0).take (Rp.size (List (BitVec 8)))) x.f_l ∧ Rp.rep A W ((cs.drop 1).take (Rp.size Int)) x.f_at
  len h := h.1
  one h := by
    intro u hu
    have h0 := mem_cut (o := 0) (s := Rp.size (List (BitVec 8))) (by simpa using hu)
    rcases h0 with h1 | h0
    · exact Rp.one h.2.1 u h1
    have h0 := mem_cut (s := Rp.size Int) h0
    rcases h0 with h1 | h0
    · exact Rp.one h.2.2 u h1
    exact mem_end h.1 (by rfl) h0
  flat h := by cases h
  mono e h := ⟨h.1, Rp.mono e h.2.1, Rp.mono e h.2.2⟩
def le_T_mcase_Codes_l : Lens T_mcase_Codes (List (BitVec 8)) where
  off := 0
  get := T_mcase_Codes.f_l
  set b g := { b with f_l := g }
  inb := by decide
  get_rep h := h.2.1
  set_rep h hg := by
    have hl := h.1
    have hd := Rp.len hg
    exact ⟨sp_len hl hd (by decide), by rw [sp_same hl hd (by decide)]; exact hg, by rw [sp_other hl hd (by decide) (.inr (by decide))]; exact h.2.2⟩
def le_T_mcase_Codes_at : Lens T_mcase_Codes Int where
  off := 1
  get := T_mcase_Codes.f_at
  set b g := { b with f_at := g }
  inb := by decide
  get_rep h := h.2.2
  set_rep h hg := by
    have hl := h.1
    have hd := Rp.len hg
    exact ⟨sp_len hl hd (by decide), by rw [sp_other hl hd (by decide) (.inl (by decide))]; exact h.2.1, by rw [sp_same hl hd (by decide)]; exact hg⟩
instance : Zc T_mcase_Codes := ⟨Zc.cells (List (BitVec 8)) ++ Zc.cells Int, fun A W => ⟨by rfl, Zc.ok (α := List (BitVec 8)) A W, Zc.ok (α := Int) A W⟩⟩
theorem ty5 : Ty Tryz.prog 5 (BitVec 8) := Ty.of (by rfl) Tryz.underlying5 (by kernel_rfl)
theorem zr117 : Zr Tryz.prog 117 (default : T_mcase_Codes) := Zr.of (by kernel_rfl)
theorem bu117 : Bu Tryz.prog 117 #[(0, 1), (1, 1)] := ⟨_, Tryz.underlying117, by kernel_rfl, by kernel_rfl⟩
theorem en15 : En Tryz.prog 15 := ⟨_, Tryz.func15, rfl, by kernel_rfl⟩
structure T_api_Field where
  f_ID : Int
  f_Name : ByteArray
  f_Bits : Int
  deriving DecidableEq, Inhabited
instance : Rp T_api_Field where
  size := 3
  agg := true
  rep A W cs x := cs.length = 3 ∧ Rp.rep A W ((cs.drop 0).take (Rp.size Int)) x.f_ID ∧ Rp.rep A W ((cs.drop 1).take (Rp.size ByteArray)) x.f_Name ∧ Rp.rep A W ((cs.drop 2).take (Rp.size Int)) x.f_Bits
  len h := h.1
  one h := by
    intro u hu
    have h0 := mem_cut (o := 0) (s := Rp.size Int) (by simpa using hu)
    rcases h0 with h1 | h0
    · exact Rp.one h.2.1 u h1
    have h0 := mem_cut (s := Rp.size ByteArray) h0
    rcases h0 with h1 | h0
    · exact Rp.one h.2.2.1 u h1
    have h0 := mem_cut (s := Rp.size Int) h0
    rcases h0 with h1 | h0
    · exact Rp.one h.2.2.2 u h1
    exact mem_end h.1 (by rfl) h0
  flat h := by cases h
  mono e h := ⟨h.1, Rp.mono e h.2.1, Rp.mono e h.2.2.1, Rp.mono e h.2.2.2⟩
def le_T_api_Field_ID : Lens T_api_Field Int where
  off := 0
  get := T_api_Field.f_ID
  set b g := { b with f_ID := g }
  inb := by decide
  get_rep h := h.2.1
  set_rep h hg := by
    have hl := h.1
    have hd := Rp.len hg
    exact ⟨sp_len hl hd (by decide), by rw [sp_same hl hd (by decide)]; exact hg, by rw [sp_other hl hd (by decide) (.inr (by decide))]; exact h.2.2.1, by rw [sp_other hl hd (by decide) (.inr (by decide))]; exact h.2.2.2⟩
def le_T_api_Field_Name : Lens T_api_Field ByteArray where
  off := 1
  get := T_api_Field.f_Name
  set b g := { b with f_Name := g }
  inb := by decide
  get_rep h := h.2.2.1
  set_rep h hg := by
    have hl := h.1
    have hd := Rp.len hg
    exact ⟨sp_len hl hd (by decide), by rw [sp_other hl hd (by decide) (.inl (by decide))]; exact h.2.1, by rw [sp_same hl hd (by decide)]; exact hg, by rw [sp_other hl hd (by decide) (.inr (by decide))]; exact h.2.2.2⟩
def le_T_api_Field_Bits : Lens T_api_Field Int where
  off := 2
  get := T_api_Field.f_Bits
  set b g := { b with f_Bits := g }
  inb := by decide
  get_rep h := h.2.2.2
  set_rep h hg := by
    have hl := h.1
    have hd := Rp.len hg
    exact ⟨sp_len hl hd (by decide), by rw [sp_other hl hd (by decide) (.inl (by decide))]; exact h.2.1, by rw [sp_other hl hd (by decide) (.inl (by decide))]; exact h.2.2.1, by rw [sp_same hl hd (by decide)]; exact hg⟩
instance : Zc T_api_Field := ⟨Zc.cells Int ++ Zc.cells ByteArray ++ Zc.cells Int, fun A W => ⟨by rfl, Zc.ok (α := Int) A W, Zc.ok (α := ByteArray) A W, Zc.ok (α := Int) A W⟩⟩
structure T_api_Header where
  f_ID : Int
  f_Name : ByteArray
  f_Fields : List Int
  deriving DecidableEq, Inhabited
instance : Rp T_api_Header where
  size := 3
  agg := true
  rep A W cs x := cs.length = 3 ∧ Rp.rep A W ((cs.drop 0).take (Rp.size Int)) x.f_ID ∧ Rp.rep A W ((cs.drop 1).take (Rp.size ByteArray)) x.f_Name ∧ Rp.rep A W ((cs.drop 2).take (Rp.size (List Int))) x.f_Fields
  len h := h.1
  one h := by
    intro u hu
    have h0 := mem_cut (o := 0) (s := Rp.size Int) (by simpa using hu)
    rcases h0 with h1 | h0
    · exact Rp.one h.2.1 u h1
    have h0 := mem_cut (s := Rp.size ByteArray) h0
    rcases h0 with h1 | h0
    · exact Rp.one h.2.2.1 u h1
    have h0 := mem_cut (s := Rp.size (List Int)) h0
    rcases h0 with h1 | h0
    · exact Rp.one h.2.2.2 u h1
    exact mem_end h.1 (by rfl) h0
  flat h := by cases h
  mono e h := ⟨h.1, Rp.mono e h.2.1, Rp.mono e h.2.2.1, Rp.mono e h.2.2.2⟩
def le_T_api_Header_ID : Lens T_api_Header Int where
  off := 0
  get := T_api_Header.f_ID
  set b g := { b with f_ID := g }
  inb := by decide
  get_rep h := h.2.1
  set_rep h hg := by
    have hl := h.1
    have hd := Rp.len hg
    exact ⟨sp_len hl hd (by decide), by rw [sp_same hl hd (by decide)]; exact hg, by rw [sp_other hl hd (by decide) (.inr (by decide))]; exact h.2.2.1, by rw [sp_other hl hd (by decide) (.inr (by decide))]; exact h.2.2.2⟩
def le_T_api_Header_Name : Lens T_api_Header ByteArray where
  off := 1
  get := T_api_Header.f_Name
  set b g := { b with f_Name := g }
  inb := by decide
  get_rep h := h.2.2.1
  set_rep h hg := by
    have hl := h.1
    have hd := Rp.len hg
    exact ⟨sp_len hl hd (by decide), by rw [sp_other hl hd (by decide) (.inl (by decide))]; exact h.2.1, by rw [sp_same hl hd (by decide)]; exact hg, by rw [sp_other hl hd (by decide) (.inr (by decide))]; exact h.2.2.2⟩
def le_T_api_Header_Fields : Lens T_api_Header (List Int) where
  off := 2
  get := T_api_Header.f_Fields
  set b g := { b with f_Fields := g }
  inb := by decide
  get_rep h := h.2.2.2
  set_rep h hg := by
    have hl := h.1
    have hd := Rp.len hg
    exact ⟨sp_len hl hd (by decide), by rw [sp_other hl hd (by decide) (.inl (by decide))]; exact h.2.1, by rw [sp_other hl hd (by decide) (.inl (by decide))]; exact h.2.2.1, by rw [sp_same hl hd (by decide)]; exact hg⟩
instance : Zc T_api_Header := ⟨Zc.cells Int ++ Zc.cells ByteArray ++ Zc.cells (List Int), fun A W => ⟨by rfl, Zc.ok (α := Int) A W, Zc.ok (α := ByteArray) A W, Zc.ok (α := List Int) A W⟩⟩
structure T_api_Case where
  f_Value : T_api_Value
  f_Mask : T_api_Value
  f_Next : Int
  deriving DecidableEq, Inhabited
instance : Rp T_api_Case where
  size := 5
  agg := true
  rep A W cs x := cs.length = 5 ∧ Rp.rep A W ((cs.drop 0).take (Rp.size T_api_Value)) x.f_Value ∧ Rp.rep A W ((cs.drop 2).take (Rp.size T_api_Value)) x.f_Mask ∧ Rp.rep A W ((cs.drop 4).take (Rp.size Int)) x.f_Next
  len h := h.1
  one h := by
    intro u hu
    have h0 := mem_cut (o := 0) (s := Rp.size T_api_Value) (by simpa using hu)
    rcases h0 with h1 | h0
    · exact Rp.one h.2.1 u h1
    have h0 := mem_cut (s := Rp.size T_api_Value) h0
    rcases h0 with h1 | h0
    · exact Rp.one h.2.2.1 u h1
    have h0 := mem_cut (s := Rp.size Int) h0
    rcases h0 with h1 | h0
    · exact Rp.one h.2.2.2 u h1
    exact mem_end h.1 (by rfl) h0
  flat h := by cases h
  mono e h := ⟨h.1, Rp.mono e h.2.1, Rp.mono e h.2.2.1, Rp.mono e h.2.2.2⟩
def le_T_api_Case_Value : Lens T_api_Case T_api_Value where
  off := 0
  get := T_api_Case.f_Value
  set b g := { b with f_Value := g }
  inb := by decide
  get_rep h := h.2.1
  set_rep h hg := by
    have hl := h.1
    have hd := Rp.len hg
    exact ⟨sp_len hl hd (by decide), by rw [sp_same hl hd (by decide)]; exact hg, by rw [sp_other hl hd (by decide) (.inr (by decide))]; exact h.2.2.1, by rw [sp_other hl hd (by decide) (.inr (by decide))]; exact h.2.2.2⟩
def le_T_api_Case_Mask : Lens T_api_Case T_api_Value where
  off := 2
  get := T_api_Case.f_Mask
  set b g := { b with f_Mask := g }
  inb := by decide
  get_rep h := h.2.2.1
  set_rep h hg := by
    have hl := h.1
    have hd := Rp.len hg
    exact ⟨sp_len hl hd (by decide), by rw [sp_other hl hd (by decide) (.inl (by decide))]; exact h.2.1, by rw [sp_same hl hd (by decide)]; exact hg, by rw [sp_other hl hd (by decide) (.inr (by decide))]; exact h.2.2.2⟩
def le_T_api_Case_Next : Lens T_api_Case Int where
  off := 4
  get := T_api_Case.f_Next
  set b g := { b with f_Next := g }
  inb := by decide
  get_rep h := h.2.2.2
  set_rep h hg := by
    have hl := h.1
    have hd := Rp.len hg
    exact ⟨sp_len hl hd (by decide), by rw [sp_other hl hd (by decide) (.inl (by decide))]; exact h.2.1, by rw [sp_other hl hd (by decide) (.inl (by decide))]; exact h.2.2.1, by rw [sp_same hl hd (by decide)]; exact hg⟩
instance : Zc T_api_Case := ⟨Zc.cells T_api_Value ++ Zc.cells T_api_Value ++ Zc.cells Int, fun A W => ⟨by rfl, Zc.ok (α := T_api_Value) A W, Zc.ok (α := T_api_Value) A W, Zc.ok (α := Int) A W⟩⟩
structure T_api_State where
  f_ID : Int
  f_Header : Int
  f_Select : Int
  f_Cases : List T_api_Case
  f_Default : Int
  deriving DecidableEq, Inhabited
instance : Rp T_api_State where
  size := 5
  agg := true
  rep A W cs x := cs.length = 5 ∧ Rp.rep A W ((cs.drop 0).take (Rp.size Int)) x.f_ID ∧ Rp.rep A W ((cs.drop 1).take (Rp.size Int)) x.f_Header ∧ Rp.rep A W ((cs.drop 2).take (Rp.size Int)) x.f_Select ∧ Rp.rep A W ((cs.drop 3).take (Rp.size (List T_api_Case))) x.f_Cases ∧ Rp.rep A W ((cs.drop 4).take (Rp.size Int)) x.f_Default
  len h := h.1
  one h := by
    intro u hu
    have h0 := mem_cut (o := 0) (s := Rp.size Int) (by simpa using hu)
    rcases h0 with h1 | h0
    · exact Rp.one h.2.1 u h1
    have h0 := mem_cut (s := Rp.size Int) h0
    rcases h0 with h1 | h0
    · exact Rp.one h.2.2.1 u h1
    have h0 := mem_cut (s := Rp.size Int) h0
    rcases h0 with h1 | h0
    · exact Rp.one h.2.2.2.1 u h1
    have h0 := mem_cut (s := Rp.size (List T_api_Case)) h0
    rcases h0 with h1 | h0
    · exact Rp.one h.2.2.2.2.1 u h1
    have h0 := mem_cut (s := Rp.size Int) h0
    rcases h0 with h1 | h0
    · exact Rp.one h.2.2.2.2.2 u h1
    exact mem_end h.1 (by rfl) h0
  flat h := by cases h
  mono e h := ⟨h.1, Rp.mono e h.2.1, Rp.mono e h.2.2.1, Rp.mono e h.2.2.2.1, Rp.mono e h.2.2.2.2.1, Rp.mono e h.2.2.2.2.2⟩
def le_T_api_State_ID : Lens T_api_State Int where
  off := 0
  get := T_api_State.f_ID
  set b g := { b with f_ID := g }
  inb := by decide
  get_rep h := h.2.1
  set_rep h hg := by
    have hl := h.1
    have hd := Rp.len hg
    exact ⟨sp_len hl hd (by decide), by rw [sp_same hl hd (by decide)]; exact hg, by rw [sp_other hl hd (by decide) (.inr (by decide))]; exact h.2.2.1, by rw [sp_other hl hd (by decide) (.inr (by decide))]; exact h.2.2.2.1, by rw [sp_other hl hd (by decide) (.inr (by decide))]; exact h.2.2.2.2.1, by rw [sp_other hl hd (by decide) (.inr (by decide))]; exact h.2.2.2.2.2⟩
def le_T_api_State_Header : Lens T_api_State Int where
  off := 1
  get := T_api_State.f_Header
  set b g := { b with f_Header := g }
  inb := by decide
  get_rep h := h.2.2.1
  set_rep h hg := by
    have hl := h.1
    have hd := Rp.len hg
    exact ⟨sp_len hl hd (by decide), by rw [sp_other hl hd (by decide) (.inl (by decide))]; exact h.2.1, by rw [sp_same hl hd (by decide)]; exact hg, by rw [sp_other hl hd (by decide) (.inr (by decide))]; exact h.2.2.2.1, by rw [sp_other hl hd (by decide) (.inr (by decide))]; exact h.2.2.2.2.1, by rw [sp_other hl hd (by decide) (.inr (by decide))]; exact h.2.2.2.2.2⟩
def le_T_api_State_Select : Lens T_api_State Int where
  off := 2
  get := T_api_State.f_Select
  set b g := { b with f_Select := g }
  inb := by decide
  get_rep h := h.2.2.2.1
  set_rep h hg := by
    have hl := h.1
    have hd := Rp.len hg
    exact ⟨sp_len hl hd (by decide), by rw [sp_other hl hd (by decide) (.inl (by decide))]; exact h.2.1, by rw [sp_other hl hd (by decide) (.inl (by decide))]; exact h.2.2.1, by rw [sp_same hl hd (by decide)]; exact hg, by rw [sp_other hl hd (by decide) (.inr (by decide))]; exact h.2.2.2.2.1, by rw [sp_other hl hd (by decide) (.inr (by decide))]; exact h.2.2.2.2.2⟩
def le_T_api_State_Cases : Lens T_api_State (List T_api_Case) where
  off := 3
  get := T_api_State.f_Cases
  set b g := { b with f_Cases := g }
  inb := by decide
  get_rep h := h.2.2.2.2.1
  set_rep h hg := by
    have hl := h.1
    have hd := Rp.len hg
    exact ⟨sp_len hl hd (by decide), by rw [sp_other hl hd (by decide) (.inl (by decide))]; exact h.2.1, by rw [sp_other hl hd (by decide) (.inl (by decide))]; exact h.2.2.1, by rw [sp_other hl hd (by decide) (.inl (by decide))]; exact h.2.2.2.1, by rw [sp_same hl hd (by decide)]; exact hg, by rw [sp_other hl hd (by decide) (.inr (by decide))]; exact h.2.2.2.2.2⟩
def le_T_api_State_Default : Lens T_api_State Int where
  off := 4
  get := T_api_State.f_Default
  set b g := { b with f_Default := g }
  inb := by decide
  get_rep h := h.2.2.2.2.2
  set_rep h hg := by
    have hl := h.1
    have hd := Rp.len hg
    exact ⟨sp_len hl hd (by decide), by rw [sp_other hl hd (by decide) (.inl (by decide))]; exact h.2.1, by rw [sp_other hl hd (by decide) (.inl (by decide))]; exact h.2.2.1, by rw [sp_other hl hd (by decide) (.inl (by decide))]; exact h.2.2.2.1, by rw [sp_other hl hd (by decide) (.inl (by decide))]; exact h.2.2.2.2.1, by rw [sp_same hl hd (by decide)]; exact hg⟩
instance : Zc T_api_State := ⟨Zc.cells Int ++ Zc.cells Int ++ Zc.cells Int ++ Zc.cells (List T_api_Case) ++ Zc.cells Int, fun A W => ⟨by rfl, Zc.ok (α := Int) A W, Zc.ok (α := Int) A W, Zc.ok (α := Int) A W, Zc.ok (α := List T_api_Case) A W, Zc.ok (α := Int) A W⟩⟩
structure T_api_Param where
  f_Name : ByteArray
  f_Bits : Int
  deriving DecidableEq, Inhabited
instance : Rp T_api_Param where
  size := 2
  agg := true
  rep A W cs x := cs.length = 2 ∧ Rp.rep A W ((cs.drop 0).take (Rp.size ByteArray)) x.f_Name ∧ Rp.rep A W ((cs.drop 1).take (Rp.size Int)) x.f_Bits
  len h := h.1
  one h := by
    intro u hu
    have h0 := mem_cut (o := 0) (s := Rp.size ByteArray) (by simpa using hu)
    rcases h0 with h1 | h0
    · exact Rp.one h.2.1 u h1
    have h0 := mem_cut (s := Rp.size Int) h0
    rcases h0 with h1 | h0
    · exact Rp.one h.2.2 u h1
    exact mem_end h.1 (by rfl) h0
  flat h := by cases h
  mono e h := ⟨h.1, Rp.mono e h.2.1, Rp.mono e h.2.2⟩
def le_T_api_Param_Name : Lens T_api_Param ByteArray where
  off := 0
  get := T_api_Param.f_Name
  set b g := { b with f_Name := g }
  inb := by decide
  get_rep h := h.2.1
  set_rep h hg := by
    have hl := h.1
    have hd := Rp.len hg
    exact ⟨sp_len hl hd (by decide), by rw [sp_same hl hd (by decide)]; exact hg, by rw [sp_other hl hd (by decide) (.inr (by decide))]; exact h.2.2⟩
def le_T_api_Param_Bits : Lens T_api_Param Int where
  off := 1
  get := T_api_Param.f_Bits
  set b g := { b with f_Bits := g }
  inb := by decide
  get_rep h := h.2.2
  set_rep h hg := by
    have hl := h.1
    have hd := Rp.len hg
    exact ⟨sp_len hl hd (by decide), by rw [sp_other hl hd (by decide) (.inl (by decide))]; exact h.2.1, by rw [sp_same hl hd (by decide)]; exact hg⟩
instance : Zc T_api_Param := ⟨Zc.cells ByteArray ++ Zc.cells Int, fun A W => ⟨by rfl, Zc.ok (α := ByteArray) A W, Zc.ok (α := Int) A W⟩⟩
structure T_api_Operand where
  f_Kind : Int
  f_N : Int
  f_Value : T_api_Value
  deriving DecidableEq, Inhabited
instance : Rp T_api_Operand where
  size := 4
  agg := true
  rep A W cs x := cs.length = 4 ∧ Rp.rep A W ((cs.drop 0).take (Rp.size Int)) x.f_Kind ∧ Rp.rep A W ((cs.drop 1).take (Rp.size Int)) x.f_N ∧ Rp.rep A W ((cs.drop 2).take (Rp.size T_api_Value)) x.f_Value
  len h := h.1
  one h := by
    intro u hu
    have h0 := mem_cut (o := 0) (s := Rp.size Int) (by simpa using hu)
    rcases h0 with h1 | h0
    · exact Rp.one h.2.1 u h1
    have h0 := mem_cut (s := Rp.size Int) h0
    rcases h0 with h1 | h0
    · exact Rp.one h.2.2.1 u h1
    have h0 := mem_cut (s := Rp.size T_api_Value) h0
    rcases h0 with h1 | h0
    · exact Rp.one h.2.2.2 u h1
    exact mem_end h.1 (by rfl) h0
  flat h := by cases h
  mono e h := ⟨h.1, Rp.mono e h.2.1, Rp.mono e h.2.2.1, Rp.mono e h.2.2.2⟩
def le_T_api_Operand_Kind : Lens T_api_Operand Int where
  off := 0
  get := T_api_Operand.f_Kind
  set b g := { b with f_Kind := g }
  inb := by decide
  get_rep h := h.2.1
  set_rep h hg := by
    have hl := h.1
    have hd := Rp.len hg
    exact ⟨sp_len hl hd (by decide), by rw [sp_same hl hd (by decide)]; exact hg, by rw [sp_other hl hd (by decide) (.inr (by decide))]; exact h.2.2.1, by rw [sp_other hl hd (by decide) (.inr (by decide))]; exact h.2.2.2⟩
def le_T_api_Operand_N : Lens T_api_Operand Int where
  off := 1
  get := T_api_Operand.f_N
  set b g := { b with f_N := g }
  inb := by decide
  get_rep h := h.2.2.1
  set_rep h hg := by
    have hl := h.1
    have hd := Rp.len hg
    exact ⟨sp_len hl hd (by decide), by rw [sp_other hl hd (by decide) (.inl (by decide))]; exact h.2.1, by rw [sp_same hl hd (by decide)]; exact hg, by rw [sp_other hl hd (by decide) (.inr (by decide))]; exact h.2.2.2⟩
def le_T_api_Operand_Value : Lens T_api_Operand T_api_Value where
  off := 2
  get := T_api_Operand.f_Value
  set b g := { b with f_Value := g }
  inb := by decide
  get_rep h := h.2.2.2
  set_rep h hg := by
    have hl := h.1
    have hd := Rp.len hg
    exact ⟨sp_len hl hd (by decide), by rw [sp_other hl hd (by decide) (.inl (by decide))]; exact h.2.1, by rw [sp_other hl hd (by decide) (.inl (by decide))]; exact h.2.2.1, by rw [sp_same hl hd (by decide)]; exact hg⟩
instance : Zc T_api_Operand := ⟨Zc.cells Int ++ Zc.cells Int ++ Zc.cells T_api_Value, fun A W => ⟨by rfl, Zc.ok (α := Int) A W, Zc.ok (α := Int) A W, Zc.ok (α := T_api_Value) A W⟩⟩
structure T_api_Prim where
  f_Op : Int
  f_Dst : Int
  f_Src : T_api_Operand
  deriving DecidableEq, Inhabited
instance : Rp T_api_Prim where
  size := 6
  agg := true
  rep A W cs x := cs.length = 6 ∧ Rp.rep A W ((cs.drop 0).take (Rp.size Int)) x.f_Op ∧ Rp.rep A W ((cs.drop 1).take (Rp.size Int)) x.f_Dst ∧ Rp.rep A W ((cs.drop 2).take (Rp.size T_api_Operand)) x.f_Src
  len h := h.1
  one h := by
    intro u hu
    have h0 := mem_cut (o := 0) (s := Rp.size Int) (by simpa using hu)
    rcases h0 with h1 | h0
    · exact Rp.one h.2.1 u h1
    have h0 := mem_cut (s := Rp.size Int) h0
    rcases h0 with h1 | h0
    · exact Rp.one h.2.2.1 u h1
    have h0 := mem_cut (s := Rp.size T_api_Operand) h0
    rcases h0 with h1 | h0
    · exact Rp.one h.2.2.2 u h1
    exact mem_end h.1 (by rfl) h0
  flat h := by cases h
  mono e h := ⟨h.1, Rp.mono e h.2.1, Rp.mono e h.2.2.1, Rp.mono e h.2.2.2⟩
def le_T_api_Prim_Op : Lens T_api_Prim Int where
  off := 0
  get := T_api_Prim.f_Op
  set b g := { b with f_Op := g }
  inb := by decide
  get_rep h := h.2.1
  set_rep h hg := by
    have hl := h.1
    have hd := Rp.len hg
    exact ⟨sp_len hl hd (by decide), by rw [sp_same hl hd (by decide)]; exact hg, by rw [sp_other hl hd (by decide) (.inr (by decide))]; exact h.2.2.1, by rw [sp_other hl hd (by decide) (.inr (by decide))]; exact h.2.2.2⟩
def le_T_api_Prim_Dst : Lens T_api_Prim Int where
  off := 1
  get := T_api_Prim.f_Dst
  set b g := { b with f_Dst := g }
  inb := by decide
  get_rep h := h.2.2.1
  set_rep h hg := by
    have hl := h.1
    have hd := Rp.len hg
    exact ⟨sp_len hl hd (by decide), by rw [sp_other hl hd (by decide) (.inl (by decide))]; exact h.2.1, by rw [sp_same hl hd (by decide)]; exact hg, by rw [sp_other hl hd (by decide) (.inr (by decide))]; exact h.2.2.2⟩
def le_T_api_Prim_Src : Lens T_api_Prim T_api_Operand where
  off := 2
  get := T_api_Prim.f_Src
  set b g := { b with f_Src := g }
  inb := by decide
  get_rep h := h.2.2.2
  set_rep h hg := by
    have hl := h.1
    have hd := Rp.len hg
    exact ⟨sp_len hl hd (by decide), by rw [sp_other hl hd (by decide) (.inl (by decide))]; exact h.2.1, by rw [sp_other hl hd (by decide) (.inl (by decide))]; exact h.2.2.1, by rw [sp_same hl hd (by decide)]; exact hg⟩
instance : Zc T_api_Prim := ⟨Zc.cells Int ++ Zc.cells Int ++ Zc.cells T_api_Operand, fun A W => ⟨by rfl, Zc.ok (α := Int) A W, Zc.ok (α := Int) A W, Zc.ok (α := T_api_Operand) A W⟩⟩
structure T_api_Action where
  f_ID : Int
  f_Name : ByteArray
  f_Params : List T_api_Param
  f_Body : List T_api_Prim
  f_Restriction : ByteArray
  deriving DecidableEq, Inhabited
instance : Rp T_api_Action where
  size := 5
  agg := true
  rep A W cs x := cs.length = 5 ∧ Rp.rep A W ((cs.drop 0).take (Rp.size Int)) x.f_ID ∧ Rp.rep A W ((cs.drop 1).take (Rp.size ByteArray)) x.f_Name ∧ Rp.rep A W ((cs.drop 2).take (Rp.size (List T_api_Param))) x.f_Params ∧ Rp.rep A W ((cs.drop 3).take (Rp.size (List T_api_Prim))) x.f_Body ∧ Rp.rep A W ((cs.drop 4).take (Rp.size ByteArray)) x.f_Restriction
  len h := h.1
  one h := by
    intro u hu
    have h0 := mem_cut (o := 0) (s := Rp.size Int) (by simpa using hu)
    rcases h0 with h1 | h0
    · exact Rp.one h.2.1 u h1
    have h0 := mem_cut (s := Rp.size ByteArray) h0
    rcases h0 with h1 | h0
    · exact Rp.one h.2.2.1 u h1
    have h0 := mem_cut (s := Rp.size (List T_api_Param)) h0
    rcases h0 with h1 | h0
    · exact Rp.one h.2.2.2.1 u h1
    have h0 := mem_cut (s := Rp.size (List T_api_Prim)) h0
    rcases h0 with h1 | h0
    · exact Rp.one h.2.2.2.2.1 u h1
    have h0 := mem_cut (s := Rp.size ByteArray) h0
    rcases h0 with h1 | h0
    · exact Rp.one h.2.2.2.2.2 u h1
    exact mem_end h.1 (by rfl) h0
  flat h := by cases h
  mono e h := ⟨h.1, Rp.mono e h.2.1, Rp.mono e h.2.2.1, Rp.mono e h.2.2.2.1, Rp.mono e h.2.2.2.2.1, Rp.mono e h.2.2.2.2.2⟩
def le_T_api_Action_ID : Lens T_api_Action Int where
  off := 0
  get := T_api_Action.f_ID
  set b g := { b with f_ID := g }
  inb := by decide
  get_rep h := h.2.1
  set_rep h hg := by
    have hl := h.1
    have hd := Rp.len hg
    exact ⟨sp_len hl hd (by decide), by rw [sp_same hl hd (by decide)]; exact hg, by rw [sp_other hl hd (by decide) (.inr (by decide))]; exact h.2.2.1, by rw [sp_other hl hd (by decide) (.inr (by decide))]; exact h.2.2.2.1, by rw [sp_other hl hd (by decide) (.inr (by decide))]; exact h.2.2.2.2.1, by rw [sp_other hl hd (by decide) (.inr (by decide))]; exact h.2.2.2.2.2⟩
def le_T_api_Action_Name : Lens T_api_Action ByteArray where
  off := 1
  get := T_api_Action.f_Name
  set b g := { b with f_Name := g }
  inb := by decide
  get_rep h := h.2.2.1
  set_rep h hg := by
    have hl := h.1
    have hd := Rp.len hg
    exact ⟨sp_len hl hd (by decide), by rw [sp_other hl hd (by decide) (.inl (by decide))]; exact h.2.1, by rw [sp_same hl hd (by decide)]; exact hg, by rw [sp_other hl hd (by decide) (.inr (by decide))]; exact h.2.2.2.1, by rw [sp_other hl hd (by decide) (.inr (by decide))]; exact h.2.2.2.2.1, by rw [sp_other hl hd (by decide) (.inr (by decide))]; exact h.2.2.2.2.2⟩
def le_T_api_Action_Params : Lens T_api_Action (List T_api_Param) where
  off := 2
  get := T_api_Action.f_Params
  set b g := { b with f_Params := g }
  inb := by decide
  get_rep h := h.2.2.2.1
  set_rep h hg := by
    have hl := h.1
    have hd := Rp.len hg
    exact ⟨sp_len hl hd (by decide), by rw [sp_other hl hd (by decide) (.inl (by decide))]; exact h.2.1, by rw [sp_other hl hd (by decide) (.inl (by decide))]; exact h.2.2.1, by rw [sp_same hl hd (by decide)]; exact hg, by rw [sp_other hl hd (by decide) (.inr (by decide))]; exact h.2.2.2.2.1, by rw [sp_other hl hd (by decide) (.inr (by decide))]; exact h.2.2.2.2.2⟩
def le_T_api_Action_Body : Lens T_api_Action (List T_api_Prim) where
  off := 3
  get := T_api_Action.f_Body
  set b g := { b with f_Body := g }
  inb := by decide
  get_rep h := h.2.2.2.2.1
  set_rep h hg := by
    have hl := h.1
    have hd := Rp.len hg
    exact ⟨sp_len hl hd (by decide), by rw [sp_other hl hd (by decide) (.inl (by decide))]; exact h.2.1, by rw [sp_other hl hd (by decide) (.inl (by decide))]; exact h.2.2.1, by rw [sp_other hl hd (by decide) (.inl (by decide))]; exact h.2.2.2.1, by rw [sp_same hl hd (by decide)]; exact hg, by rw [sp_other hl hd (by decide) (.inr (by decide))]; exact h.2.2.2.2.2⟩
def le_T_api_Action_Restriction : Lens T_api_Action ByteArray where
  off := 4
  get := T_api_Action.f_Restriction
  set b g := { b with f_Restriction := g }
  inb := by decide
  get_rep h := h.2.2.2.2.2
  set_rep h hg := by
    have hl := h.1
    have hd := Rp.len hg
    exact ⟨sp_len hl hd (by decide), by rw [sp_other hl hd (by decide) (.inl (by decide))]; exact h.2.1, by rw [sp_other hl hd (by decide) (.inl (by decide))]; exact h.2.2.1, by rw [sp_other hl hd (by decide) (.inl (by decide))]; exact h.2.2.2.1, by rw [sp_other hl hd (by decide) (.inl (by decide))]; exact h.2.2.2.2.1, by rw [sp_same hl hd (by decide)]; exact hg⟩
instance : Zc T_api_Action := ⟨Zc.cells Int ++ Zc.cells ByteArray ++ Zc.cells (List T_api_Param) ++ Zc.cells (List T_api_Prim) ++ Zc.cells ByteArray, fun A W => ⟨by rfl, Zc.ok (α := Int) A W, Zc.ok (α := ByteArray) A W, Zc.ok (α := List T_api_Param) A W, Zc.ok (α := List T_api_Prim) A W, Zc.ok (α := ByteArray) A W⟩⟩
structure T_api_Key where
  f_Name : ByteArray
  f_Field : Int
  f_Kind : Int
  deriving DecidableEq, Inhabited
instance : Rp T_api_Key where
  size := 3
  agg := true
  rep A W cs x := cs.length = 3 ∧ Rp.rep A W ((cs.drop 0).take (Rp.size ByteArray)) x.f_Name ∧ Rp.rep A W ((cs.drop 1).take (Rp.size Int)) x.f_Field ∧ Rp.rep A W ((cs.drop 2).take (Rp.size Int)) x.f_Kind
  len h := h.1
  one h := by
    intro u hu
    have h0 := mem_cut (o := 0) (s := Rp.size ByteArray) (by simpa using hu)
    rcases h0 with h1 | h0
    · exact Rp.one h.2.1 u h1
    have h0 := mem_cut (s := Rp.size Int) h0
    rcases h0 with h1 | h0
    · exact Rp.one h.2.2.1 u h1
    have h0 := mem_cut (s := Rp.size Int) h0
    rcases h0 with h1 | h0
    · exact Rp.one h.2.2.2 u h1
    exact mem_end h.1 (by rfl) h0
  flat h := by cases h
  mono e h := ⟨h.1, Rp.mono e h.2.1, Rp.mono e h.2.2.1, Rp.mono e h.2.2.2⟩
def le_T_api_Key_Name : Lens T_api_Key ByteArray where
  off := 0
  get := T_api_Key.f_Name
  set b g := { b with f_Name := g }
  inb := by decide
  get_rep h := h.2.1
  set_rep h hg := by
    have hl := h.1
    have hd := Rp.len hg
    exact ⟨sp_len hl hd (by decide), by rw [sp_same hl hd (by decide)]; exact hg, by rw [sp_other hl hd (by decide) (.inr (by decide))]; exact h.2.2.1, by rw [sp_other hl hd (by decide) (.inr (by decide))]; exact h.2.2.2⟩
def le_T_api_Key_Field : Lens T_api_Key Int where
  off := 1
  get := T_api_Key.f_Field
  set b g := { b with f_Field := g }
  inb := by decide
  get_rep h := h.2.2.1
  set_rep h hg := by
    have hl := h.1
    have hd := Rp.len hg
    exact ⟨sp_len hl hd (by decide), by rw [sp_other hl hd (by decide) (.inl (by decide))]; exact h.2.1, by rw [sp_same hl hd (by decide)]; exact hg, by rw [sp_other hl hd (by decide) (.inr (by decide))]; exact h.2.2.2⟩
def le_T_api_Key_Kind : Lens T_api_Key Int where
  off := 2
  get := T_api_Key.f_Kind
  set b g := { b with f_Kind := g }
  inb := by decide
  get_rep h := h.2.2.2
  set_rep h hg := by
    have hl := h.1
    have hd := Rp.len hg
    exact ⟨sp_len hl hd (by decide), by rw [sp_other hl hd (by decide) (.inl (by decide))]; exact h.2.1, by rw [sp_other hl hd (by decide) (.inl (by decide))]; exact h.2.2.1, by rw [sp_same hl hd (by decide)]; exact hg⟩
instance : Zc T_api_Key := ⟨Zc.cells ByteArray ++ Zc.cells Int ++ Zc.cells Int, fun A W => ⟨by rfl, Zc.ok (α := ByteArray) A W, Zc.ok (α := Int) A W, Zc.ok (α := Int) A W⟩⟩
structure T_api_Table where
  f_ID : Int
  f_Name : ByteArray
  f_Keys : List T_api_Key
  f_Actions : List Int
  f_Default : Int
  f_DefaultArgs : List T_api_Value
  f_Size : Int
  f_Restriction : ByteArray
  deriving DecidableEq, Inhabited
instance : Rp T_api_Table where
  size := 8
  agg := true
  rep A W cs x := cs.length = 8 ∧ Rp.rep A W ((cs.drop 0).take (Rp.size Int)) x.f_ID ∧ Rp.rep A W ((cs.drop 1).take (Rp.size ByteArray)) x.f_Name ∧ Rp.rep A W ((cs.drop 2).take (Rp.size (List T_api_Key))) x.f_Keys ∧ Rp.rep A W ((cs.drop 3).take (Rp.size (List Int))) x.f_Actions ∧ Rp.rep A W ((cs.drop 4).take (Rp.size Int)) x.f_Default ∧ Rp.rep A W ((cs.drop 5).take (Rp.size (List T_api_Value))) x.f_DefaultArgs ∧ Rp.rep A W ((cs.drop 6).take (Rp.size Int)) x.f_Size ∧ Rp.rep A W ((cs.drop 7).take (Rp.size ByteArray)) x.f_Restriction
  len h := h.1
  one h := by
    intro u hu
    have h0 := mem_cut (o := 0) (s := Rp.size Int) (by simpa using hu)
    rcases h0 with h1 | h0
    · exact Rp.one h.2.1 u h1
    have h0 := mem_cut (s := Rp.size ByteArray) h0
    rcases h0 with h1 | h0
    · exact Rp.one h.2.2.1 u h1
    have h0 := mem_cut (s := Rp.size (List T_api_Key)) h0
    rcases h0 with h1 | h0
    · exact Rp.one h.2.2.2.1 u h1
    have h0 := mem_cut (s := Rp.size (List Int)) h0
    rcases h0 with h1 | h0
    · exact Rp.one h.2.2.2.2.1 u h1
    have h0 := mem_cut (s := Rp.size Int) h0
    rcases h0 with h1 | h0
    · exact Rp.one h.2.2.2.2.2.1 u h1
    have h0 := mem_cut (s := Rp.size (List T_api_Value)) h0
    rcases h0 with h1 | h0
    · exact Rp.one h.2.2.2.2.2.2.1 u h1
    have h0 := mem_cut (s := Rp.size Int) h0
    rcases h0 with h1 | h0
    · exact Rp.one h.2.2.2.2.2.2.2.1 u h1
    have h0 := mem_cut (s := Rp.size ByteArray) h0
    rcases h0 with h1 | h0
    · exact Rp.one h.2.2.2.2.2.2.2.2 u h1
    exact mem_end h.1 (by rfl) h0
  flat h := by cases h
  mono e h := ⟨h.1, Rp.mono e h.2.1, Rp.mono e h.2.2.1, Rp.mono e h.2.2.2.1, Rp.mono e h.2.2.2.2.1, Rp.mono e h.2.2.2.2.2.1, Rp.mono e h.2.2.2.2.2.2.1, Rp.mono e h.2.2.2.2.2.2.2.1, Rp.mono e h.2.2.2.2.2.2.2.2⟩
def le_T_api_Table_ID : Lens T_api_Table Int where
  off := 0
  get := T_api_Table.f_ID
  set b g := { b with f_ID := g }
  inb := by decide
  get_rep h := h.2.1
  set_rep h hg := by
    have hl := h.1
    have hd := Rp.len hg
    exact ⟨sp_len hl hd (by decide), by rw [sp_same hl hd (by decide)]; exact hg, by rw [sp_other hl hd (by decide) (.inr (by decide))]; exact h.2.2.1, by rw [sp_other hl hd (by decide) (.inr (by decide))]; exact h.2.2.2.1, by rw [sp_other hl hd (by decide) (.inr (by decide))]; exact h.2.2.2.2.1, by rw [sp_other hl hd (by decide) (.inr (by decide))]; exact h.2.2.2.2.2.1, by rw [sp_other hl hd (by decide) (.inr (by decide))]; exact h.2.2.2.2.2.2.1, by rw [sp_other hl hd (by decide) (.inr (by decide))]; exact h.2.2.2.2.2.2.2.1, by rw [sp_other hl hd (by decide) (.inr (by decide))]; exact h.2.2.2.2.2.2.2.2⟩
def le_T_api_Table_Name : Lens T_api_Table ByteArray where
  off := 1
  get := T_api_Table.f_Name
  set b g := { b with f_Name := g }
  inb := by decide
  get_rep h := h.2.2.1
  set_rep h hg := by
    have hl := h.1
    have hd := Rp.len hg
    exact ⟨sp_len hl hd (by decide), by rw [sp_other hl hd (by decide) (.inl (by decide))]; exact h.2.1, by rw [sp_same hl hd (by decide)]; exact hg, by rw [sp_other hl hd (by decide) (.inr (by decide))]; exact h.2.2.2.1, by rw [sp_other hl hd (by decide) (.inr (by decide))]; exact h.2.2.2.2.1, by rw [sp_other hl hd (by decide) (.inr (by decide))]; exact h.2.2.2.2.2.1, by rw [sp_other hl hd (by decide) (.inr (by decide))]; exact h.2.2.2.2.2.2.1, by rw [sp_other hl hd (by decide) (.inr (by decide))]; exact h.2.2.2.2.2.2.2.1, by rw [sp_other hl hd (by decide) (.inr (by decide))]; exact h.2.2.2.2.2.2.2.2⟩
def le_T_api_Table_Keys : Lens T_api_Table (List T_api_Key) where
  off := 2
  get := T_api_Table.f_Keys
  set b g := { b with f_Keys := g }
  inb := by decide
  get_rep h := h.2.2.2.1
  set_rep h hg := by
    have hl := h.1
    have hd := Rp.len hg
    exact ⟨sp_len hl hd (by decide), by rw [sp_other hl hd (by decide) (.inl (by decide))]; exact h.2.1, by rw [sp_other hl hd (by decide) (.inl (by decide))]; exact h.2.2.1, by rw [sp_same hl hd (by decide)]; exact hg, by rw [sp_other hl hd (by decide) (.inr (by decide))]; exact h.2.2.2.2.1, by rw [sp_other hl hd (by decide) (.inr (by decide))]; exact h.2.2.2.2.2.1, by rw [sp_other hl hd (by decide) (.inr (by decide))]; exact h.2.2.2.2.2.2.1, by rw [sp_other hl hd (by decide) (.inr (by decide))]; exact h.2.2.2.2.2.2.2.1, by rw [sp_other hl hd (by decide) (.inr (by decide))]; exact h.2.2.2.2.2.2.2.2⟩
def le_T_api_Table_Actions : Lens T_api_Table (List Int) where
  off := 3
  get := T_api_Table.f_Actions
  set b g := { b with f_Actions := g }
  inb := by decide
  get_rep h := h.2.2.2.2.1
  set_rep h hg := by
    have hl := h.1
    have hd := Rp.len hg
    exact ⟨sp_len hl hd (by decide), by rw [sp_other hl hd (by decide) (.inl (by decide))]; exact h.2.1, by rw [sp_other hl hd (by decide) (.inl (by decide))]; exact h.2.2.1, by rw [sp_other hl hd (by decide) (.inl (by decide))]; exact h.2.2.2.1, by rw [sp_same hl hd (by decide)]; exact hg, by rw [sp_other hl hd (by decide) (.inr (by decide))]; exact h.2.2.2.2.2.1, by rw [sp_other hl hd (by decide) (.inr (by decide))]; exact h.2.2.2.2.2.2.1, by rw [sp_other hl hd (by decide) (.inr (by decide))]; exact h.2.2.2.2.2.2.2.1, by rw [sp_other hl hd (by decide) (.inr (by decide))]; exact h.2.2.2.2.2.2.2.2⟩
def le_T_api_Table_Default : Lens T_api_Table Int where
  off := 4
  get := T_api_Table.f_Default
  set b g := { b with f_Default := g }
  inb := by decide
  get_rep h := h.2.2.2.2.2.1
  set_rep h hg := by
    have hl := h.1
    have hd := Rp.len hg
    exact ⟨sp_len hl hd (by decide), by rw [sp_other hl hd (by decide) (.inl (by decide))]; exact h.2.1, by rw [sp_other hl hd (by decide) (.inl (by decide))]; exact h.2.2.1, by rw [sp_other hl hd (by decide) (.inl (by decide))]; exact h.2.2.2.1, by rw [sp_other hl hd (by decide) (.inl (by decide))]; exact h.2.2.2.2.1, by rw [sp_same hl hd (by decide)]; exact hg, by rw [sp_other hl hd (by decide) (.inr (by decide))]; exact h.2.2.2.2.2.2.1, by rw [sp_other hl hd (by decide) (.inr (by decide))]; exact h.2.2.2.2.2.2.2.1, by rw [sp_other hl hd (by decide) (.inr (by decide))]; exact h.2.2.2.2.2.2.2.2⟩
def le_T_api_Table_DefaultArgs : Lens T_api_Table (List T_api_Value) where
  off := 5
  get := T_api_Table.f_DefaultArgs
  set b g := { b with f_DefaultArgs := g }
  inb := by decide
  get_rep h := h.2.2.2.2.2.2.1
  set_rep h hg := by
    have hl := h.1
    have hd := Rp.len hg
    exact ⟨sp_len hl hd (by decide), by rw [sp_other hl hd (by decide) (.inl (by decide))]; exact h.2.1, by rw [sp_other hl hd (by decide) (.inl (by decide))]; exact h.2.2.1, by rw [sp_other hl hd (by decide) (.inl (by decide))]; exact h.2.2.2.1, by rw [sp_other hl hd (by decide) (.inl (by decide))]; exact h.2.2.2.2.1, by rw [sp_other hl hd (by decide) (.inl (by decide))]; exact h.2.2.2.2.2.1, by rw [sp_same hl hd (by decide)]; exact hg, by rw [sp_other hl hd (by decide) (.inr (by decide))]; exact h.2.2.2.2.2.2.2.1, by rw [sp_other hl hd (by decide) (.inr (by decide))]; exact h.2.2.2.2.2.2.2.2⟩
def le_T_api_Table_Size : Lens T_api_Table Int where
  off := 6
  get := T_api_Table.f_Size
  set b g := { b with f_Size := g }
  inb := by decide
  get_rep h := h.2.2.2.2.2.2.2.1
  set_rep h hg := by
    have hl := h.1
    have hd := Rp.len hg
    exact ⟨sp_len hl hd (by decide), by rw [sp_other hl hd (by decide) (.inl (by decide))]; exact h.2.1, by rw [sp_other hl hd (by decide) (.inl (by decide))]; exact h.2.2.1, by rw [sp_other hl hd (by decide) (.inl (by decide))]; exact h.2.2.2.1, by rw [sp_other hl hd (by decide) (.inl (by decide))]; exact h.2.2.2.2.1, by rw [sp_other hl hd (by decide) (.inl (by decide))]; exact h.2.2.2.2.2.1, by rw [sp_other hl hd (by decide) (.inl (by decide))]; exact h.2.2.2.2.2.2.1, by rw [sp_same hl hd (by decide)]; exact hg, by rw [sp_other hl hd (by decide) (.inr (by decide))]; exact h.2.2.2.2.2.2.2.2⟩
def le_T_api_Table_Restriction : Lens T_api_Table ByteArray where
  off := 7
  get := T_api_Table.f_Restriction
  set b g := { b with f_Restriction := g }
  inb := by decide
  get_rep h := h.2.2.2.2.2.2.2.2
  set_rep h hg := by
    have hl := h.1
    have hd := Rp.len hg
    exact ⟨sp_len hl hd (by decide), by rw [sp_other hl hd (by decide) (.inl (by decide))]; exact h.2.1, by rw [sp_other hl hd (by decide) (.inl (by decide))]; exact h.2.2.1, by rw [sp_other hl hd (by decide) (.inl (by decide))]; exact h.2.2.2.1, by rw [sp_other hl hd (by decide) (.inl (by decide))]; exact h.2.2.2.2.1, by rw [sp_other hl hd (by decide) (.inl (by decide))]; exact h.2.2.2.2.2.1, by rw [sp_other hl hd (by decide) (.inl (by decide))]; exact h.2.2.2.2.2.2.1, by rw [sp_other hl hd (by decide) (.inl (by decide))]; exact h.2.2.2.2.2.2.2.1, by rw [sp_same hl hd (by decide)]; exact hg⟩
instance : Zc T_api_Table := ⟨Zc.cells Int ++ Zc.cells ByteArray ++ Zc.cells (List T_api_Key) ++ Zc.cells (List Int) ++ Zc.cells Int ++ Zc.cells (List T_api_Value) ++ Zc.cells Int ++ Zc.cells ByteArray, fun A W => ⟨by rfl, Zc.ok (α := Int) A W, Zc.ok (α := ByteArray) A W, Zc.ok (α := List T_api_Key) A W, Zc.ok (α := List Int) A W, Zc.ok (α := Int) A W, Zc.ok (α := List T_api_Value) A W, Zc.ok (α := Int) A W, Zc.ok (α := ByteArray) A W⟩⟩
structure T_api_Stage where
  f_Table : Int
  f_Header : Int
  deriving DecidableEq, Inhabited
instance : Rp T_api_Stage where
  size := 2
  agg := true
  rep A W cs x := cs.length = 2 ∧ Rp.rep A W ((cs.drop 0).take (Rp.size Int)) x.f_Table ∧ Rp.rep A W ((cs.drop 1).take (Rp.size Int)) x.f_Header
  len h := h.1
  one h := by
    intro u hu
    have h0 := mem_cut (o := 0) (s := Rp.size Int) (by simpa using hu)
    rcases h0 with h1 | h0
    · exact Rp.one h.2.1 u h1
    have h0 := mem_cut (s := Rp.size Int) h0
    rcases h0 with h1 | h0
    · exact Rp.one h.2.2 u h1
    exact mem_end h.1 (by rfl) h0
  flat h := by cases h
  mono e h := ⟨h.1, Rp.mono e h.2.1, Rp.mono e h.2.2⟩
def le_T_api_Stage_Table : Lens T_api_Stage Int where
  off := 0
  get := T_api_Stage.f_Table
  set b g := { b with f_Table := g }
  inb := by decide
  get_rep h := h.2.1
  set_rep h hg := by
    have hl := h.1
    have hd := Rp.len hg
    exact ⟨sp_len hl hd (by decide), by rw [sp_same hl hd (by decide)]; exact hg, by rw [sp_other hl hd (by decide) (.inr (by decide))]; exact h.2.2⟩
def le_T_api_Stage_Header : Lens T_api_Stage Int where
  off := 1
  get := T_api_Stage.f_Header
  set b g := { b with f_Header := g }
  inb := by decide
  get_rep h := h.2.2
  set_rep h hg := by
    have hl := h.1
    have hd := Rp.len hg
    exact ⟨sp_len hl hd (by decide), by rw [sp_other hl hd (by decide) (.inl (by decide))]; exact h.2.1, by rw [sp_same hl hd (by decide)]; exact hg⟩
instance : Zc T_api_Stage := ⟨Zc.cells Int ++ Zc.cells Int, fun A W => ⟨by rfl, Zc.ok (α := Int) A W, Zc.ok (α := Int) A W⟩⟩
structure T_api_Grant where
  f_Table : Int
  f_Read : Bool
  f_Write : Bool
  f_Keys : List Bool
  deriving DecidableEq, Inhabited
instance : Rp T_api_Grant where
  size := 4
  agg := true
  rep A W cs x := cs.length = 4 ∧ Rp.rep A W ((cs.drop 0).take (Rp.size Int)) x.f_Table ∧ Rp.rep A W ((cs.drop 1).take (Rp.size Bool)) x.f_Read ∧ Rp.rep A W ((cs.drop 2).take (Rp.size Bool)) x.f_Write ∧ Rp.rep A W ((cs.drop 3).take (Rp.size (List Bool))) x.f_Keys
  len h := h.1
  one h := by
    intro u hu
    have h0 := mem_cut (o := 0) (s := Rp.size Int) (by simpa using hu)
    rcases h0 with h1 | h0
    · exact Rp.one h.2.1 u h1
    have h0 := mem_cut (s := Rp.size Bool) h0
    rcases h0 with h1 | h0
    · exact Rp.one h.2.2.1 u h1
    have h0 := mem_cut (s := Rp.size Bool) h0
    rcases h0 with h1 | h0
    · exact Rp.one h.2.2.2.1 u h1
    have h0 := mem_cut (s := Rp.size (List Bool)) h0
    rcases h0 with h1 | h0
    · exact Rp.one h.2.2.2.2 u h1
    exact mem_end h.1 (by rfl) h0
  flat h := by cases h
  mono e h := ⟨h.1, Rp.mono e h.2.1, Rp.mono e h.2.2.1, Rp.mono e h.2.2.2.1, Rp.mono e h.2.2.2.2⟩
def le_T_api_Grant_Table : Lens T_api_Grant Int where
  off := 0
  get := T_api_Grant.f_Table
  set b g := { b with f_Table := g }
  inb := by decide
  get_rep h := h.2.1
  set_rep h hg := by
    have hl := h.1
    have hd := Rp.len hg
    exact ⟨sp_len hl hd (by decide), by rw [sp_same hl hd (by decide)]; exact hg, by rw [sp_other hl hd (by decide) (.inr (by decide))]; exact h.2.2.1, by rw [sp_other hl hd (by decide) (.inr (by decide))]; exact h.2.2.2.1, by rw [sp_other hl hd (by decide) (.inr (by decide))]; exact h.2.2.2.2⟩
def le_T_api_Grant_Read : Lens T_api_Grant Bool where
  off := 1
  get := T_api_Grant.f_Read
  set b g := { b with f_Read := g }
  inb := by decide
  get_rep h := h.2.2.1
  set_rep h hg := by
    have hl := h.1
    have hd := Rp.len hg
    exact ⟨sp_len hl hd (by decide), by rw [sp_other hl hd (by decide) (.inl (by decide))]; exact h.2.1, by rw [sp_same hl hd (by decide)]; exact hg, by rw [sp_other hl hd (by decide) (.inr (by decide))]; exact h.2.2.2.1, by rw [sp_other hl hd (by decide) (.inr (by decide))]; exact h.2.2.2.2⟩
def le_T_api_Grant_Write : Lens T_api_Grant Bool where
  off := 2
  get := T_api_Grant.f_Write
  set b g := { b with f_Write := g }
  inb := by decide
  get_rep h := h.2.2.2.1
  set_rep h hg := by
    have hl := h.1
    have hd := Rp.len hg
    exact ⟨sp_len hl hd (by decide), by rw [sp_other hl hd (by decide) (.inl (by decide))]; exact h.2.1, by rw [sp_other hl hd (by decide) (.inl (by decide))]; exact h.2.2.1, by rw [sp_same hl hd (by decide)]; exact hg, by rw [sp_other hl hd (by decide) (.inr (by decide))]; exact h.2.2.2.2⟩
def le_T_api_Grant_Keys : Lens T_api_Grant (List Bool) where
  off := 3
  get := T_api_Grant.f_Keys
  set b g := { b with f_Keys := g }
  inb := by decide
  get_rep h := h.2.2.2.2
  set_rep h hg := by
    have hl := h.1
    have hd := Rp.len hg
    exact ⟨sp_len hl hd (by decide), by rw [sp_other hl hd (by decide) (.inl (by decide))]; exact h.2.1, by rw [sp_other hl hd (by decide) (.inl (by decide))]; exact h.2.2.1, by rw [sp_other hl hd (by decide) (.inl (by decide))]; exact h.2.2.2.1, by rw [sp_same hl hd (by decide)]; exact hg⟩
instance : Zc T_api_Grant := ⟨Zc.cells Int ++ Zc.cells Bool ++ Zc.cells Bool ++ Zc.cells (List Bool), fun A W => ⟨by rfl, Zc.ok (α := Int) A W, Zc.ok (α := Bool) A W, Zc.ok (α := Bool) A W, Zc.ok (α := List Bool) A W⟩⟩
structure T_api_Role where
  f_ID : Int
  f_Name : ByteArray
  f_Grants : List T_api_Grant
  f_Actions : List Int
  f_Quota : Int
  f_Audit : Bool
  deriving DecidableEq, Inhabited
instance : Rp T_api_Role where
  size := 6
  agg := true
  rep A W cs x := cs.length = 6 ∧ Rp.rep A W ((cs.drop 0).take (Rp.size Int)) x.f_ID ∧ Rp.rep A W ((cs.drop 1).take (Rp.size ByteArray)) x.f_Name ∧ Rp.rep A W ((cs.drop 2).take (Rp.size (List T_api_Grant))) x.f_Grants ∧ Rp.rep A W ((cs.drop 3).take (Rp.size (List Int))) x.f_Actions ∧ Rp.rep A W ((cs.drop 4).take (Rp.size Int)) x.f_Quota ∧ Rp.rep A W ((cs.drop 5).take (Rp.size Bool)) x.f_Audit
  len h := h.1
  one h := by
    intro u hu
    have h0 := mem_cut (o := 0) (s := Rp.size Int) (by simpa using hu)
    rcases h0 with h1 | h0
    · exact Rp.one h.2.1 u h1
    have h0 := mem_cut (s := Rp.size ByteArray) h0
    rcases h0 with h1 | h0
    · exact Rp.one h.2.2.1 u h1
    have h0 := mem_cut (s := Rp.size (List T_api_Grant)) h0
    rcases h0 with h1 | h0
    · exact Rp.one h.2.2.2.1 u h1
    have h0 := mem_cut (s := Rp.size (List Int)) h0
    rcases h0 with h1 | h0
    · exact Rp.one h.2.2.2.2.1 u h1
    have h0 := mem_cut (s := Rp.size Int) h0
    rcases h0 with h1 | h0
    · exact Rp.one h.2.2.2.2.2.1 u h1
    have h0 := mem_cut (s := Rp.size Bool) h0
    rcases h0 with h1 | h0
    · exact Rp.one h.2.2.2.2.2.2 u h1
    exact mem_end h.1 (by rfl) h0
  flat h := by cases h
  mono e h := ⟨h.1, Rp.mono e h.2.1, Rp.mono e h.2.2.1, Rp.mono e h.2.2.2.1, Rp.mono e h.2.2.2.2.1, Rp.mono e h.2.2.2.2.2.1, Rp.mono e h.2.2.2.2.2.2⟩
def le_T_api_Role_ID : Lens T_api_Role Int where
  off := 0
  get := T_api_Role.f_ID
  set b g := { b with f_ID := g }
  inb := by decide
  get_rep h := h.2.1
  set_rep h hg := by
    have hl := h.1
    have hd := Rp.len hg
    exact ⟨sp_len hl hd (by decide), by rw [sp_same hl hd (by decide)]; exact hg, by rw [sp_other hl hd (by decide) (.inr (by decide))]; exact h.2.2.1, by rw [sp_other hl hd (by decide) (.inr (by decide))]; exact h.2.2.2.1, by rw [sp_other hl hd (by decide) (.inr (by decide))]; exact h.2.2.2.2.1, by rw [sp_other hl hd (by decide) (.inr (by decide))]; exact h.2.2.2.2.2.1, by rw [sp_other hl hd (by decide) (.inr (by decide))]; exact h.2.2.2.2.2.2⟩
def le_T_api_Role_Name : Lens T_api_Role ByteArray where
  off := 1
  get := T_api_Role.f_Name
  set b g := { b with f_Name := g }
  inb := by decide
  get_rep h := h.2.2.1
  set_rep h hg := by
    have hl := h.1
    have hd := Rp.len hg
    exact ⟨sp_len hl hd (by decide), by rw [sp_other hl hd (by decide) (.inl (by decide))]; exact h.2.1, by rw [sp_same hl hd (by decide)]; exact hg, by rw [sp_other hl hd (by decide) (.inr (by decide))]; exact h.2.2.2.1, by rw [sp_other hl hd (by decide) (.inr (by decide))]; exact h.2.2.2.2.1, by rw [sp_other hl hd (by decide) (.inr (by decide))]; exact h.2.2.2.2.2.1, by rw [sp_other hl hd (by decide) (.inr (by decide))]; exact h.2.2.2.2.2.2⟩
def le_T_api_Role_Grants : Lens T_api_Role (List T_api_Grant) where
  off := 2
  get := T_api_Role.f_Grants
  set b g := { b with f_Grants := g }
  inb := by decide
  get_rep h := h.2.2.2.1
  set_rep h hg := by
    have hl := h.1
    have hd := Rp.len hg
    exact ⟨sp_len hl hd (by decide), by rw [sp_other hl hd (by decide) (.inl (by decide))]; exact h.2.1, by rw [sp_other hl hd (by decide) (.inl (by decide))]; exact h.2.2.1, by rw [sp_same hl hd (by decide)]; exact hg, by rw [sp_other hl hd (by decide) (.inr (by decide))]; exact h.2.2.2.2.1, by rw [sp_other hl hd (by decide) (.inr (by decide))]; exact h.2.2.2.2.2.1, by rw [sp_other hl hd (by decide) (.inr (by decide))]; exact h.2.2.2.2.2.2⟩
def le_T_api_Role_Actions : Lens T_api_Role (List Int) where
  off := 3
  get := T_api_Role.f_Actions
  set b g := { b with f_Actions := g }
  inb := by decide
  get_rep h := h.2.2.2.2.1
  set_rep h hg := by
    have hl := h.1
    have hd := Rp.len hg
    exact ⟨sp_len hl hd (by decide), by rw [sp_other hl hd (by decide) (.inl (by decide))]; exact h.2.1, by rw [sp_other hl hd (by decide) (.inl (by decide))]; exact h.2.2.1, by rw [sp_other hl hd (by decide) (.inl (by decide))]; exact h.2.2.2.1, by rw [sp_same hl hd (by decide)]; exact hg, by rw [sp_other hl hd (by decide) (.inr (by decide))]; exact h.2.2.2.2.2.1, by rw [sp_other hl hd (by decide) (.inr (by decide))]; exact h.2.2.2.2.2.2⟩
def le_T_api_Role_Quota : Lens T_api_Role Int where
  off := 4
  get := T_api_Role.f_Quota
  set b g := { b with f_Quota := g }
  inb := by decide
  get_rep h := h.2.2.2.2.2.1
  set_rep h hg := by
    have hl := h.1
    have hd := Rp.len hg
    exact ⟨sp_len hl hd (by decide), by rw [sp_other hl hd (by decide) (.inl (by decide))]; exact h.2.1, by rw [sp_other hl hd (by decide) (.inl (by decide))]; exact h.2.2.1, by rw [sp_other hl hd (by decide) (.inl (by decide))]; exact h.2.2.2.1, by rw [sp_other hl hd (by decide) (.inl (by decide))]; exact h.2.2.2.2.1, by rw [sp_same hl hd (by decide)]; exact hg, by rw [sp_other hl hd (by decide) (.inr (by decide))]; exact h.2.2.2.2.2.2⟩
def le_T_api_Role_Audit : Lens T_api_Role Bool where
  off := 5
  get := T_api_Role.f_Audit
  set b g := { b with f_Audit := g }
  inb := by decide
  get_rep h := h.2.2.2.2.2.2
  set_rep h hg := by
    have hl := h.1
    have hd := Rp.len hg
    exact ⟨sp_len hl hd (by decide), by rw [sp_other hl hd (by decide) (.inl (by decide))]; exact h.2.1, by rw [sp_other hl hd (by decide) (.inl (by decide))]; exact h.2.2.1, by rw [sp_other hl hd (by decide) (.inl (by decide))]; exact h.2.2.2.1, by rw [sp_other hl hd (by decide) (.inl (by decide))]; exact h.2.2.2.2.1, by rw [sp_other hl hd (by decide) (.inl (by decide))]; exact h.2.2.2.2.2.1, by rw [sp_same hl hd (by decide)]; exact hg⟩
instance : Zc T_api_Role := ⟨Zc.cells Int ++ Zc.cells ByteArray ++ Zc.cells (List T_api_Grant) ++ Zc.cells (List Int) ++ Zc.cells Int ++ Zc.cells Bool, fun A W => ⟨by rfl, Zc.ok (α := Int) A W, Zc.ok (α := ByteArray) A W, Zc.ok (α := List T_api_Grant) A W, Zc.ok (α := List Int) A W, Zc.ok (α := Int) A W, Zc.ok (α := Bool) A W⟩⟩
structure T_api_Ref where
  f_Table : Int
  f_Key : Int
  f_Action : Int
  f_Param : Int
  f_ToTable : Int
  f_ToKey : Int
  deriving DecidableEq, Inhabited
instance : Rp T_api_Ref where
  size := 6
  agg := true
  rep A W cs x := cs.length = 6 ∧ Rp.rep A W ((cs.drop 0).take (Rp.size Int)) x.f_Table ∧ Rp.rep A W ((cs.drop 1).take (Rp.size Int)) x.f_Key ∧ Rp.rep A W ((cs.drop 2).take (Rp.size Int)) x.f_Action ∧ Rp.rep A W ((cs.drop 3).take (Rp.size Int)) x.f_Param ∧ Rp.rep A W ((cs.drop 4).take (Rp.size Int)) x.f_ToTable ∧ Rp.rep A W ((cs.drop 5).take (Rp.size Int)) x.f_ToKey
  len h := h.1
  one h := by
    intro u hu
    have h0 := mem_cut (o := 0) (s := Rp.size Int) (by simpa using hu)
    rcases h0 with h1 | h0
    · exact Rp.one h.2.1 u h1
    have h0 := mem_cut (s := Rp.size Int) h0
    rcases h0 with h1 | h0
    · exact Rp.one h.2.2.1 u h1
    have h0 := mem_cut (s := Rp.size Int) h0
    rcases h0 with h1 | h0
    · exact Rp.one h.2.2.2.1 u h1
    have h0 := mem_cut (s := Rp.size Int) h0
    rcases h0 with h1 | h0
    · exact Rp.one h.2.2.2.2.1 u h1
    have h0 := mem_cut (s := Rp.size Int) h0
    rcases h0 with h1 | h0
    · exact Rp.one h.2.2.2.2.2.1 u h1
    have h0 := mem_cut (s := Rp.size Int) h0
    rcases h0 with h1 | h0
    · exact Rp.one h.2.2.2.2.2.2 u h1
    exact mem_end h.1 (by rfl) h0
  flat h := by cases h
  mono e h := ⟨h.1, Rp.mono e h.2.1, Rp.mono e h.2.2.1, Rp.mono e h.2.2.2.1, Rp.mono e h.2.2.2.2.1, Rp.mono e h.2.2.2.2.2.1, Rp.mono e h.2.2.2.2.2.2⟩
def le_T_api_Ref_Table : Lens T_api_Ref Int where
  off := 0
  get := T_api_Ref.f_Table
  set b g := { b with f_Table := g }
  inb := by decide
  get_rep h := h.2.1
  set_rep h hg := by
    have hl := h.1
    have hd := Rp.len hg
    exact ⟨sp_len hl hd (by decide), by rw [sp_same hl hd (by decide)]; exact hg, by rw [sp_other hl hd (by decide) (.inr (by decide))]; exact h.2.2.1, by rw [sp_other hl hd (by decide) (.inr (by decide))]; exact h.2.2.2.1, by rw [sp_other hl hd (by decide) (.inr (by decide))]; exact h.2.2.2.2.1, by rw [sp_other hl hd (by decide) (.inr (by decide))]; exact h.2.2.2.2.2.1, by rw [sp_other hl hd (by decide) (.inr (by decide))]; exact h.2.2.2.2.2.2⟩
def le_T_api_Ref_Key : Lens T_api_Ref Int where
  off := 1
  get := T_api_Ref.f_Key
  set b g := { b with f_Key := g }
  inb := by decide
  get_rep h := h.2.2.1
  set_rep h hg := by
    have hl := h.1
    have hd := Rp.len hg
    exact ⟨sp_len hl hd (by decide), by rw [sp_other hl hd (by decide) (.inl (by decide))]; exact h.2.1, by rw [sp_same hl hd (by decide)]; exact hg, by rw [sp_other hl hd (by decide) (.inr (by decide))]; exact h.2.2.2.1, by rw [sp_other hl hd (by decide) (.inr (by decide))]; exact h.2.2.2.2.1, by rw [sp_other hl hd (by decide) (.inr (by decide))]; exact h.2.2.2.2.2.1, by rw [sp_other hl hd (by decide) (.inr (by decide))]; exact h.2.2.2.2.2.2⟩
def le_T_api_Ref_Action : Lens T_api_Ref Int where
  off := 2
  get := T_api_Ref.f_Action
  set b g := { b with f_Action := g }
  inb := by decide
  get_rep h := h.2.2.2.1
  set_rep h hg := by
    have hl := h.1
    have hd := Rp.len hg
    exact ⟨sp_len hl hd (by decide), by rw [sp_other hl hd (by decide) (.inl (by decide))]; exact h.2.1, by rw [sp_other hl hd (by decide) (.inl (by decide))]; exact h.2.2.1, by rw [sp_same hl hd (by decide)]; exact hg, by rw [sp_other hl hd (by decide) (.inr (by decide))]; exact h.2.2.2.2.1, by rw [sp_other hl hd (by decide) (.inr (by decide))]; exact h.2.2.2.2.2.1, by rw [sp_other hl hd (by decide) (.inr (by decide))]; exact h.2.2.2.2.2.2⟩
def le_T_api_Ref_ToTable : Lens T_api_Ref Int where
  off := 4
  get := T_api_Ref.f_ToTable
  set b g := { b with f_ToTable := g }
  inb := by decide
  get_rep h := h.2.2.2.2.2.1
  set_rep h hg := by
    have hl := h.1
    have hd := Rp.len hg
    exact ⟨sp_len hl hd (by decide), by rw [sp_other hl hd (by decide) (.inl (by decide))]; exact h.2.1, by rw [sp_other hl hd (by decide) (.inl (by decide))]; exact h.2.2.1, by rw [sp_other hl hd (by decide) (.inl (by decide))]; exact h.2.2.2.1, by rw [sp_other hl hd (by decide) (.inl (by decide))]; exact h.2.2.2.2.1, by rw [sp_same hl hd (by decide)]; exact hg, by rw [sp_other hl hd (by decide) (.inr (by decide))]; exact h.2.2.2.2.2.2⟩
instance : Zc T_api_Ref := ⟨Zc.cells Int ++ Zc.cells Int ++ Zc.cells Int ++ Zc.cells Int ++ Zc.cells Int ++ Zc.cells Int, fun A W => ⟨by rfl, Zc.ok (α := Int) A W, Zc.ok (α := Int) A W, Zc.ok (α := Int) A W, Zc.ok (α := Int) A W, Zc.ok (α := Int) A W, Zc.ok (α := Int) A W⟩⟩
structure T_api_Schema where
  f_Fields : List T_api_Field
  f_Headers : List T_api_Header
  f_States : List T_api_State
  f_Actions : List T_api_Action
  f_Tables : List T_api_Table
  f_Stages : List T_api_Stage
  f_Roles : List T_api_Role
  f_Refs : List T_api_Ref
  f_MaxBatch : Int
  f_Budget : Int
  deriving DecidableEq, Inhabited
instance : Rp T_api_Schema where
  size := 10
  agg := true
  rep A W cs x := cs.length = 10 ∧ Rp.rep A W ((cs.drop 0).take (Rp.size (List T_api_Field))) x.f_Fields ∧ Rp.rep A W ((cs.drop 1).take (Rp.size (List T_api_Header))) x.f_Headers ∧ Rp.rep A W ((cs.drop 2).take (Rp.size (List T_api_State))) x.f_States ∧ Rp.rep A W ((cs.drop 3).take (Rp.size (List T_api_Action))) x.f_Actions ∧ Rp.rep A W ((cs.drop 4).take (Rp.size (List T_api_Table))) x.f_Tables ∧ Rp.rep A W ((cs.drop 5).take (Rp.size (List T_api_Stage))) x.f_Stages ∧ Rp.rep A W ((cs.drop 6).take (Rp.size (List T_api_Role))) x.f_Roles ∧ Rp.rep A W ((cs.drop 7).take (Rp.size (List T_api_Ref))) x.f_Refs ∧ Rp.rep A W ((cs.drop 8).take (Rp.size Int)) x.f_MaxBatch ∧ Rp.rep A W ((cs.drop 9).take (Rp.size Int)) x.f_Budget
  len h := h.1
  one h := by
    intro u hu
    have h0 := mem_cut (o := 0) (s := Rp.size (List T_api_Field)) (by simpa using hu)
    rcases h0 with h1 | h0
    · exact Rp.one h.2.1 u h1
    have h0 := mem_cut (s := Rp.size (List T_api_Header)) h0
    rcases h0 with h1 | h0
    · exact Rp.one h.2.2.1 u h1
    have h0 := mem_cut (s := Rp.size (List T_api_State)) h0
    rcases h0 with h1 | h0
    · exact Rp.one h.2.2.2.1 u h1
    have h0 := mem_cut (s := Rp.size (List T_api_Action)) h0
    rcases h0 with h1 | h0
    · exact Rp.one h.2.2.2.2.1 u h1
    have h0 := mem_cut (s := Rp.size (List T_api_Table)) h0
    rcases h0 with h1 | h0
    · exact Rp.one h.2.2.2.2.2.1 u h1
    have h0 := mem_cut (s := Rp.size (List T_api_Stage)) h0
    rcases h0 with h1 | h0
    · exact Rp.one h.2.2.2.2.2.2.1 u h1
    have h0 := mem_cut (s := Rp.size (List T_api_Role)) h0
    rcases h0 with h1 | h0
    · exact Rp.one h.2.2.2.2.2.2.2.1 u h1
    have h0 := mem_cut (s := Rp.size (List T_api_Ref)) h0
    rcases h0 with h1 | h0
    · exact Rp.one h.2.2.2.2.2.2.2.2.1 u h1
    have h0 := mem_cut (s := Rp.size Int) h0
    rcases h0 with h1 | h0
    · exact Rp.one h.2.2.2.2.2.2.2.2.2.1 u h1
    have h0 := mem_cut (s := Rp.size Int) h0
    rcases h0 with h1 | h0
    · exact Rp.one h.2.2.2.2.2.2.2.2.2.2 u h1
    exact mem_end h.1 (by rfl) h0
  flat h := by cases h
  mono e h := ⟨h.1, Rp.mono e h.2.1, Rp.mono e h.2.2.1, Rp.mono e h.2.2.2.1, Rp.mono e h.2.2.2.2.1, Rp.mono e h.2.2.2.2.2.1, Rp.mono e h.2.2.2.2.2.2.1, Rp.mono e h.2.2.2.2.2.2.2.1, Rp.mono e h.2.2.2.2.2.2.2.2.1, Rp.mono e h.2.2.2.2.2.2.2.2.2.1, Rp.mono e h.2.2.2.2.2.2.2.2.2.2⟩
def le_T_api_Schema_Fields : Lens T_api_Schema (List T_api_Field) where
  off := 0
  get := T_api_Schema.f_Fields
  set b g := { b with f_Fields := g }
  inb := by decide
  get_rep h := h.2.1
  set_rep h hg := by
    have hl := h.1
    have hd := Rp.len hg
    exact ⟨sp_len hl hd (by decide), by rw [sp_same hl hd (by decide)]; exact hg, by rw [sp_other hl hd (by decide) (.inr (by decide))]; exact h.2.2.1, by rw [sp_other hl hd (by decide) (.inr (by decide))]; exact h.2.2.2.1, by rw [sp_other hl hd (by decide) (.inr (by decide))]; exact h.2.2.2.2.1, by rw [sp_other hl hd (by decide) (.inr (by decide))]; exact h.2.2.2.2.2.1, by rw [sp_other hl hd (by decide) (.inr (by decide))]; exact h.2.2.2.2.2.2.1, by rw [sp_other hl hd (by decide) (.inr (by decide))]; exact h.2.2.2.2.2.2.2.1, by rw [sp_other hl hd (by decide) (.inr (by decide))]; exact h.2.2.2.2.2.2.2.2.1, by rw [sp_other hl hd (by decide) (.inr (by decide))]; exact h.2.2.2.2.2.2.2.2.2.1, by rw [sp_other hl hd (by decide) (.inr (by decide))]; exact h.2.2.2.2.2.2.2.2.2.2⟩
def le_T_api_Schema_Headers : Lens T_api_Schema (List T_api_Header) where
  off := 1
  get := T_api_Schema.f_Headers
  set b g := { b with f_Headers := g }
  inb := by decide
  get_rep h := h.2.2.1
  set_rep h hg := by
    have hl := h.1
    have hd := Rp.len hg
    exact ⟨sp_len hl hd (by decide), by rw [sp_other hl hd (by decide) (.inl (by decide))]; exact h.2.1, by rw [sp_same hl hd (by decide)]; exact hg, by rw [sp_other hl hd (by decide) (.inr (by decide))]; exact h.2.2.2.1, by rw [sp_other hl hd (by decide) (.inr (by decide))]; exact h.2.2.2.2.1, by rw [sp_other hl hd (by decide) (.inr (by decide))]; exact h.2.2.2.2.2.1, by rw [sp_other hl hd (by decide) (.inr (by decide))]; exact h.2.2.2.2.2.2.1, by rw [sp_other hl hd (by decide) (.inr (by decide))]; exact h.2.2.2.2.2.2.2.1, by rw [sp_other hl hd (by decide) (.inr (by decide))]; exact h.2.2.2.2.2.2.2.2.1, by rw [sp_other hl hd (by decide) (.inr (by decide))]; exact h.2.2.2.2.2.2.2.2.2.1, by rw [sp_other hl hd (by decide) (.inr (by decide))]; exact h.2.2.2.2.2.2.2.2.2.2⟩
def le_T_api_Schema_States : Lens T_api_Schema (List T_api_State) where
  off := 2
  get := T_api_Schema.f_States
  set b g := { b with f_States := g }
  inb := by decide
  get_rep h := h.2.2.2.1
  set_rep h hg := by
    have hl := h.1
    have hd := Rp.len hg
    exact ⟨sp_len hl hd (by decide), by rw [sp_other hl hd (by decide) (.inl (by decide))]; exact h.2.1, by rw [sp_other hl hd (by decide) (.inl (by decide))]; exact h.2.2.1, by rw [sp_same hl hd (by decide)]; exact hg, by rw [sp_other hl hd (by decide) (.inr (by decide))]; exact h.2.2.2.2.1, by rw [sp_other hl hd (by decide) (.inr (by decide))]; exact h.2.2.2.2.2.1, by rw [sp_other hl hd (by decide) (.inr (by decide))]; exact h.2.2.2.2.2.2.1, by rw [sp_other hl hd (by decide) (.inr (by decide))]; exact h.2.2.2.2.2.2.2.1, by rw [sp_other hl hd (by decide) (.inr (by decide))]; exact h.2.2.2.2.2.2.2.2.1, by rw [sp_other hl hd (by decide) (.inr (by decide))]; exact h.2.2.2.2.2.2.2.2.2.1, by rw [sp_other hl hd (by decide) (.inr (by decide))]; exact h.2.2.2.2.2.2.2.2.2.2⟩
def le_T_api_Schema_Actions : Lens T_api_Schema (List T_api_Action) where
  off := 3
  get := T_api_Schema.f_Actions
  set b g := { b with f_Actions := g }
  inb := by decide
  get_rep h := h.2.2.2.2.1
  set_rep h hg := by
    have hl := h.1
    have hd := Rp.len hg
    exact ⟨sp_len hl hd (by decide), by rw [sp_other hl hd (by decide) (.inl (by decide))]; exact h.2.1, by rw [sp_other hl hd (by decide) (.inl (by decide))]; exact h.2.2.1, by rw [sp_other hl hd (by decide) (.inl (by decide))]; exact h.2.2.2.1, by rw [sp_same hl hd (by decide)]; exact hg, by rw [sp_other hl hd (by decide) (.inr (by decide))]; exact h.2.2.2.2.2.1, by rw [sp_other hl hd (by decide) (.inr (by decide))]; exact h.2.2.2.2.2.2.1, by rw [sp_other hl hd (by decide) (.inr (by decide))]; exact h.2.2.2.2.2.2.2.1, by rw [sp_other hl hd (by decide) (.inr (by decide))]; exact h.2.2.2.2.2.2.2.2.1, by rw [sp_other hl hd (by decide) (.inr (by decide))]; exact h.2.2.2.2.2.2.2.2.2.1, by rw [sp_other hl hd (by decide) (.inr (by decide))]; exact h.2.2.2.2.2.2.2.2.2.2⟩
def le_T_api_Schema_Tables : Lens T_api_Schema (List T_api_Table) where
  off := 4
  get := T_api_Schema.f_Tables
  set b g := { b with f_Tables := g }
  inb := by decide
  get_rep h := h.2.2.2.2.2.1
  set_rep h hg := by
    have hl := h.1
    have hd := Rp.len hg
    exact ⟨sp_len hl hd (by decide), by rw [sp_other hl hd (by decide) (.inl (by decide))]; exact h.2.1, by rw [sp_other hl hd (by decide) (.inl (by decide))]; exact h.2.2.1, by rw [sp_other hl hd (by decide) (.inl (by decide))]; exact h.2.2.2.1, by rw [sp_other hl hd (by decide) (.inl (by decide))]; exact h.2.2.2.2.1, by rw [sp_same hl hd (by decide)]; exact hg, by rw [sp_other hl hd (by decide) (.inr (by decide))]; exact h.2.2.2.2.2.2.1, by rw [sp_other hl hd (by decide) (.inr (by decide))]; exact h.2.2.2.2.2.2.2.1, by rw [sp_other hl hd (by decide) (.inr (by decide))]; exact h.2.2.2.2.2.2.2.2.1, by rw [sp_other hl hd (by decide) (.inr (by decide))]; exact h.2.2.2.2.2.2.2.2.2.1, by rw [sp_other hl hd (by decide) (.inr (by decide))]; exact h.2.2.2.2.2.2.2.2.2.2⟩
def le_T_api_Schema_Stages : Lens T_api_Schema (List T_api_Stage) where
  off := 5
  get := T_api_Schema.f_Stages
  set b g := { b with f_Stages := g }
  inb := by decide
  get_rep h := h.2.2.2.2.2.2.1
  set_rep h hg := by
    have hl := h.1
    have hd := Rp.len hg
    exact ⟨sp_len hl hd (by decide), by rw [sp_other hl hd (by decide) (.inl (by decide))]; exact h.2.1, by rw [sp_other hl hd (by decide) (.inl (by decide))]; exact h.2.2.1, by rw [sp_other hl hd (by decide) (.inl (by decide))]; exact h.2.2.2.1, by rw [sp_other hl hd (by decide) (.inl (by decide))]; exact h.2.2.2.2.1, by rw [sp_other hl hd (by decide) (.inl (by decide))]; exact h.2.2.2.2.2.1, by rw [sp_same hl hd (by decide)]; exact hg, by rw [sp_other hl hd (by decide) (.inr (by decide))]; exact h.2.2.2.2.2.2.2.1, by rw [sp_other hl hd (by decide) (.inr (by decide))]; exact h.2.2.2.2.2.2.2.2.1, by rw [sp_other hl hd (by decide) (.inr (by decide))]; exact h.2.2.2.2.2.2.2.2.2.1, by rw [sp_other hl hd (by decide) (.inr (by decide))]; exact h.2.2.2.2.2.2.2.2.2.2⟩
def le_T_api_Schema_Roles : Lens T_api_Schema (List T_api_Role) where
  off := 6
  get := T_api_Schema.f_Roles
  set b g := { b with f_Roles := g }
  inb := by decide
  get_rep h := h.2.2.2.2.2.2.2.1
  set_rep h hg := by
    have hl := h.1
    have hd := Rp.len hg
    exact ⟨sp_len hl hd (by decide), by rw [sp_other hl hd (by decide) (.inl (by decide))]; exact h.2.1, by rw [sp_other hl hd (by decide) (.inl (by decide))]; exact h.2.2.1, by rw [sp_other hl hd (by decide) (.inl (by decide))]; exact h.2.2.2.1, by rw [sp_other hl hd (by decide) (.inl (by decide))]; exact h.2.2.2.2.1, by rw [sp_other hl hd (by decide) (.inl (by decide))]; exact h.2.2.2.2.2.1, by rw [sp_other hl hd (by decide) (.inl (by decide))]; exact h.2.2.2.2.2.2.1, by rw [sp_same hl hd (by decide)]; exact hg, by rw [sp_other hl hd (by decide) (.inr (by decide))]; exact h.2.2.2.2.2.2.2.2.1, by rw [sp_other hl hd (by decide) (.inr (by decide))]; exact h.2.2.2.2.2.2.2.2.2.1, by rw [sp_other hl hd (by decide) (.inr (by decide))]; exact h.2.2.2.2.2.2.2.2.2.2⟩
def le_T_api_Schema_Refs : Lens T_api_Schema (List T_api_Ref) where
  off := 7
  get := T_api_Schema.f_Refs
  set b g := { b with f_Refs := g }
  inb := by decide
  get_rep h := h.2.2.2.2.2.2.2.2.1
  set_rep h hg := by
    have hl := h.1
    have hd := Rp.len hg
    exact ⟨sp_len hl hd (by decide), by rw [sp_other hl hd (by decide) (.inl (by decide))]; exact h.2.1, by rw [sp_other hl hd (by decide) (.inl (by decide))]; exact h.2.2.1, by rw [sp_other hl hd (by decide) (.inl (by decide))]; exact h.2.2.2.1, by rw [sp_other hl hd (by decide) (.inl (by decide))]; exact h.2.2.2.2.1, by rw [sp_other hl hd (by decide) (.inl (by decide))]; exact h.2.2.2.2.2.1, by rw [sp_other hl hd (by decide) (.inl (by decide))]; exact h.2.2.2.2.2.2.1, by rw [sp_other hl hd (by decide) (.inl (by decide))]; exact h.2.2.2.2.2.2.2.1, by rw [sp_same hl hd (by decide)]; exact hg, by rw [sp_other hl hd (by decide) (.inr (by decide))]; exact h.2.2.2.2.2.2.2.2.2.1, by rw [sp_other hl hd (by decide) (.inr (by decide))]; exact h.2.2.2.2.2.2.2.2.2.2⟩
def le_T_api_Schema_MaxBatch : Lens T_api_Schema Int where
  off := 8
  get := T_api_Schema.f_MaxBatch
  set b g := { b with f_MaxBatch := g }
  inb := by decide
  get_rep h := h.2.2.2.2.2.2.2.2.2.1
  set_rep h hg := by
    have hl := h.1
    have hd := Rp.len hg
    exact ⟨sp_len hl hd (by decide), by rw [sp_other hl hd (by decide) (.inl (by decide))]; exact h.2.1, by rw [sp_other hl hd (by decide) (.inl (by decide))]; exact h.2.2.1, by rw [sp_other hl hd (by decide) (.inl (by decide))]; exact h.2.2.2.1, by rw [sp_other hl hd (by decide) (.inl (by decide))]; exact h.2.2.2.2.1, by rw [sp_other hl hd (by decide) (.inl (by decide))]; exact h.2.2.2.2.2.1, by rw [sp_other hl hd (by decide) (.inl (by decide))]; exact h.2.2.2.2.2.2.1, by rw [sp_other hl hd (by decide) (.inl (by decide))]; exact h.2.2.2.2.2.2.2.1, by rw [sp_other hl hd (by decide) (.inl (by decide))]; exact h.2.2.2.2.2.2.2.2.1, by rw [sp_same hl hd (by decide)]; exact hg, by rw [sp_other hl hd (by decide) (.inr (by decide))]; exact h.2.2.2.2.2.2.2.2.2.2⟩
def le_T_api_Schema_Budget : Lens T_api_Schema Int where
  off := 9
  get := T_api_Schema.f_Budget
  set b g := { b with f_Budget := g }
  inb := by decide
  get_rep h := h.2.2.2.2.2.2.2.2.2.2
  set_rep h hg := by
    have hl := h.1
    have hd := Rp.len hg
    exact ⟨sp_len hl hd (by decide), by rw [sp_other hl hd (by decide) (.inl (by decide))]; exact h.2.1, by rw [sp_other hl hd (by decide) (.inl (by decide))]; exact h.2.2.1, by rw [sp_other hl hd (by decide) (.inl (by decide))]; exact h.2.2.2.1, by rw [sp_other hl hd (by decide) (.inl (by decide))]; exact h.2.2.2.2.1, by rw [sp_other hl hd (by decide) (.inl (by decide))]; exact h.2.2.2.2.2.1, by rw [sp_other hl hd (by decide) (.inl (by decide))]; exact h.2.2.2.2.2.2.1, by rw [sp_other hl hd (by decide) (.inl (by decide))]; exact h.2.2.2.2.2.2.2.1, by rw [sp_other hl hd (by decide) (.inl (by decide))]; exact h.2.2.2.2.2.2.2.2.1, by rw [sp_other hl hd (by decide) (.inl (by decide))]; exact h.2.2.2.2.2.2.2.2.2.1, by rw [sp_same hl hd (by decide)]; exact hg⟩
instance : Zc T_api_Schema := ⟨Zc.cells (List T_api_Field) ++ Zc.cells (List T_api_Header) ++ Zc.cells (List T_api_State) ++ Zc.cells (List T_api_Action) ++ Zc.cells (List T_api_Table) ++ Zc.cells (List T_api_Stage) ++ Zc.cells (List T_api_Role) ++ Zc.cells (List T_api_Ref) ++ Zc.cells Int ++ Zc.cells Int, fun A W => ⟨by rfl, Zc.ok (α := List T_api_Field) A W, Zc.ok (α := List T_api_Header) A W, Zc.ok (α := List T_api_State) A W, Zc.ok (α := List T_api_Action) A W, Zc.ok (α := List T_api_Table) A W, Zc.ok (α := List T_api_Stage) A W, Zc.ok (α := List T_api_Role) A W, Zc.ok (α := List T_api_Ref) A W, Zc.ok (α := Int) A W, Zc.ok (α := Int) A W⟩⟩
theorem zr33 : Zr Tryz.prog 33 (default : T_api_Schema) := Zr.of (by kernel_rfl)
theorem ty3 : Ty Tryz.prog 3 Int := Ty.of (by rfl) Tryz.underlying3 (by kernel_rfl)
theorem fd117_1 : FdA Tryz.prog 117 1 1 := FdA.of Tryz.underlying117 rfl rfl ty3 rfl
theorem ty22 : Ty Tryz.prog 22 (List (BitVec 8)) := Ty.of (by rfl) Tryz.underlying22 (by kernel_rfl)
theorem fd117_0 : FdA Tryz.prog 117 0 0 := FdA.of Tryz.underlying117 rfl rfl ty22 rfl
theorem mixed : Tryz.prog.follows .mixedOrders = true := by kernel_rfl
theorem en26 : En Tryz.prog 26 := ⟨_, Tryz.func26, rfl, by kernel_rfl⟩
theorem en32 : En Tryz.prog 32 := ⟨_, Tryz.func32, rfl, by kernel_rfl⟩
theorem bu33 : Bu Tryz.prog 33 #[(0, 1), (1, 1), (2, 1), (3, 1), (4, 1), (5, 1), (6, 1), (7, 1), (8, 1), (9, 1)] := ⟨_, Tryz.underlying33, by kernel_rfl, by kernel_rfl⟩
theorem ty33 : Ty Tryz.prog 33 T_api_Schema := Ty.of (by rfl) Tryz.underlying33 (by kernel_rfl)
theorem zr119 : Zr Tryz.prog 119 (default : T_api_Field) := Zr.of (by kernel_rfl)
theorem bu119 : Bu Tryz.prog 119 #[(0, 1), (1, 1), (2, 1)] := ⟨_, Tryz.underlying119, by kernel_rfl, by kernel_rfl⟩
theorem ty119 : Ty Tryz.prog 119 T_api_Field := Ty.of (by rfl) Tryz.underlying119 (by kernel_rfl)
theorem ty24 : Ty Tryz.prog 24 (List T_api_Field) := Ty.of (by rfl) Tryz.underlying24 (by kernel_rfl)
theorem fd33_0 : FdA Tryz.prog 33 0 0 := FdA.of Tryz.underlying33 rfl rfl ty24 rfl
theorem zr3 : Zr Tryz.prog 3 (default : Int) := Zr.of (by kernel_rfl)
theorem zr121 : Zr Tryz.prog 121 (default : T_api_Header) := Zr.of (by kernel_rfl)
theorem bu121 : Bu Tryz.prog 121 #[(0, 1), (1, 1), (2, 1)] := ⟨_, Tryz.underlying121, by kernel_rfl, by kernel_rfl⟩
theorem ty121 : Ty Tryz.prog 121 T_api_Header := Ty.of (by rfl) Tryz.underlying121 (by kernel_rfl)
theorem ty25 : Ty Tryz.prog 25 (List T_api_Header) := Ty.of (by rfl) Tryz.underlying25 (by kernel_rfl)
theorem fd33_1 : FdA Tryz.prog 33 1 1 := FdA.of Tryz.underlying33 rfl rfl ty25 rfl
theorem zr193 : Zr Tryz.prog 193 (default : T_api_State) := Zr.of (by kernel_rfl)
theorem bu193 : Bu Tryz.prog 193 #[(0, 1), (1, 1), (2, 1), (3, 1), (4, 1)] := ⟨_, Tryz.underlying193, by kernel_rfl, by kernel_rfl⟩
theorem ty193 : Ty Tryz.prog 193 T_api_State := Ty.of (by rfl) Tryz.underlying193 (by kernel_rfl)
theorem zr43 : Zr Tryz.prog 43 (default : T_api_Value) := Zr.of (by kernel_rfl)
theorem bu43 : Bu Tryz.prog 43 #[(0, 1), (1, 1)] := ⟨_, Tryz.underlying43, by kernel_rfl, by kernel_rfl⟩
theorem zr195 : Zr Tryz.prog 195 (default : T_api_Case) := Zr.of (by kernel_rfl)
theorem bu195 : Bu Tryz.prog 195 #[(0, 2), (2, 2), (4, 1)] := ⟨_, Tryz.underlying195, by kernel_rfl, by kernel_rfl⟩
theorem ty195 : Ty Tryz.prog 195 T_api_Case := Ty.of (by rfl) Tryz.underlying195 (by kernel_rfl)
theorem ty191 : Ty Tryz.prog 191 (List T_api_Case) := Ty.of (by rfl) Tryz.underlying191 (by kernel_rfl)
theorem fd193_3 : FdA Tryz.prog 193 3 3 := FdA.of Tryz.underlying193 rfl rfl ty191 rfl
theorem en55 : En Tryz.prog 55 := ⟨_, Tryz.func55, rfl, by kernel_rfl⟩
theorem zh193_3 : Zh Tryz.prog 193 [3] := by unfold Zh; kernel_rfl
theorem en68 : En Tryz.prog 68 := ⟨_, Tryz.func68, rfl, by kernel_rfl⟩
theorem zr197 : Zr Tryz.prog 197 (default : T_api_Operand) := Zr.of (by kernel_rfl)
theorem bu197 : Bu Tryz.prog 197 #[(0, 1), (1, 1), (2, 2)] := ⟨_, Tryz.underlying197, by kernel_rfl, by kernel_rfl⟩
theorem ty197 : Ty Tryz.prog 197 T_api_Operand := Ty.of (by rfl) Tryz.underlying197 (by kernel_rfl)
theorem zr148 : Zr Tryz.prog 148 (default : T_api_Action) := Zr.of (by kernel_rfl)
theorem bu148 : Bu Tryz.prog 148 #[(0, 1), (1, 1), (2, 1), (3, 1), (4, 1)] := ⟨_, Tryz.underlying148, by kernel_rfl, by kernel_rfl⟩
theorem zr199 : Zr Tryz.prog 199 (default : T_api_Prim) := Zr.of (by kernel_rfl)
theorem bu199 : Bu Tryz.prog 199 #[(0, 1), (1, 1), (2, 4)] := ⟨_, Tryz.underlying199, by kernel_rfl, by kernel_rfl⟩
theorem ty199 : Ty Tryz.prog 199 T_api_Prim := Ty.of (by rfl) Tryz.underlying199 (by kernel_rfl)
theorem zr151 : Zr Tryz.prog 151 (default : T_api_Param) := Zr.of (by kernel_rfl)
theorem bu151 : Bu Tryz.prog 151 #[(0, 1), (1, 1)] := ⟨_, Tryz.underlying151, by kernel_rfl, by kernel_rfl⟩
theorem ty151 : Ty Tryz.prog 151 T_api_Param := Ty.of (by rfl) Tryz.underlying151 (by kernel_rfl)
theorem ty148 : Ty Tryz.prog 148 T_api_Action := Ty.of (by rfl) Tryz.underlying148 (by kernel_rfl)
theorem ty9 : Ty Tryz.prog 9 ByteArray := Ty.of (by rfl) Tryz.underlying9 (by kernel_rfl)
theorem fd148_4 : FdA Tryz.prog 148 4 4 := FdA.of Tryz.underlying148 rfl rfl ty9 rfl
theorem en69 : En Tryz.prog 69 := ⟨_, Tryz.func69, rfl, by kernel_rfl⟩
theorem zr86 : Zr Tryz.prog 86 (default : T_api_Key) := Zr.of (by kernel_rfl)
theorem bu86 : Bu Tryz.prog 86 #[(0, 1), (1, 1), (2, 1)] := ⟨_, Tryz.underlying86, by kernel_rfl, by kernel_rfl⟩
theorem ty86 : Ty Tryz.prog 86 T_api_Key := Ty.of (by rfl) Tryz.underlying86 (by kernel_rfl)
theorem zr65 : Zr Tryz.prog 65 (default : T_api_Table) := Zr.of (by kernel_rfl)
theorem bu65 : Bu Tryz.prog 65 #[(0, 1), (1, 1), (2, 1), (3, 1), (4, 1), (5, 1), (6, 1), (7, 1)] := ⟨_, Tryz.underlying65, by kernel_rfl, by kernel_rfl⟩
theorem ty65 : Ty Tryz.prog 65 T_api_Table := Ty.of (by rfl) Tryz.underlying65 (by kernel_rfl)
theorem ty62 : Ty Tryz.prog 62 (List T_api_Key) := Ty.of (by rfl) Tryz.underlying62 (by kernel_rfl)
theorem fd65_2 : FdA Tryz.prog 65 2 2 := FdA.of Tryz.underlying65 rfl rfl ty62 rfl
theorem zh65_2 : Zh Tryz.prog 65 [2] := by unfold Zh; kernel_rfl
theorem zh65_n : Zh Tryz.prog 65 [] := by unfold Zh; kernel_rfl
theorem ty43 : Ty Tryz.prog 43 T_api_Value := Ty.of (by rfl) Tryz.underlying43 (by kernel_rfl)
theorem zr9 : Zr Tryz.prog 9 (default : ByteArray) := Zr.of (by kernel_rfl)
theorem ty200 : Ty Tryz.prog 200 (List ByteArray) := Ty.of (by rfl) Tryz.underlying200 (by kernel_rfl)
theorem zr200 : Zr Tryz.prog 200 (default : List ByteArray) := Zr.of (by kernel_rfl)
theorem fd65_7 : FdA Tryz.prog 65 7 7 := FdA.of Tryz.underlying65 rfl rfl ty9 rfl
theorem en70 : En Tryz.prog 70 := ⟨_, Tryz.func70, rfl, by kernel_rfl⟩
theorem ty26 : Ty Tryz.prog 26 (List T_api_State) := Ty.of (by rfl) Tryz.underlying26 (by kernel_rfl)
theorem fd33_2 : FdA Tryz.prog 33 2 2 := FdA.of Tryz.underlying33 rfl rfl ty26 rfl
theorem ty27 : Ty Tryz.prog 27 (List T_api_Action) := Ty.of (by rfl) Tryz.underlying27 (by kernel_rfl)
theorem fd33_3 : FdA Tryz.prog 33 3 3 := FdA.of Tryz.underlying33 rfl rfl ty27 rfl
theorem ty28 : Ty Tryz.prog 28 (List T_api_Table) := Ty.of (by rfl) Tryz.underlying28 (by kernel_rfl)
theorem fd33_4 : FdA Tryz.prog 33 4 4 := FdA.of Tryz.underlying33 rfl rfl ty28 rfl
theorem zr204 : Zr Tryz.prog 204 (default : T_api_Role) := Zr.of (by kernel_rfl)
theorem bu204 : Bu Tryz.prog 204 #[(0, 1), (1, 1), (2, 1), (3, 1), (4, 1), (5, 1)] := ⟨_, Tryz.underlying204, by kernel_rfl, by kernel_rfl⟩
theorem ty204 : Ty Tryz.prog 204 T_api_Role := Ty.of (by rfl) Tryz.underlying204 (by kernel_rfl)
theorem ty4 : Ty Tryz.prog 4 Bool := Ty.of (by rfl) Tryz.underlying4 (by kernel_rfl)
theorem zr4 : Zr Tryz.prog 4 (default : Bool) := Zr.of (by kernel_rfl)
theorem ty202 : Ty Tryz.prog 202 (List T_api_Grant) := Ty.of (by rfl) Tryz.underlying202 (by kernel_rfl)
theorem fd204_2 : FdA Tryz.prog 204 2 2 := FdA.of Tryz.underlying204 rfl rfl ty202 rfl
theorem fd65_0 : FdA Tryz.prog 65 0 0 := FdA.of Tryz.underlying65 rfl rfl ty3 rfl
theorem zr207 : Zr Tryz.prog 207 (default : T_api_Grant) := Zr.of (by kernel_rfl)
theorem bu207 : Bu Tryz.prog 207 #[(0, 1), (1, 1), (2, 1), (3, 1)] := ⟨_, Tryz.underlying207, by kernel_rfl, by kernel_rfl⟩
theorem ty207 : Ty Tryz.prog 207 T_api_Grant := Ty.of (by rfl) Tryz.underlying207 (by kernel_rfl)
theorem zh204_2 : Zh Tryz.prog 204 [2] := by unfold Zh; kernel_rfl
theorem en71 : En Tryz.prog 71 := ⟨_, Tryz.func71, rfl, by kernel_rfl⟩
theorem ty30 : Ty Tryz.prog 30 (List T_api_Role) := Ty.of (by rfl) Tryz.underlying30 (by kernel_rfl)
theorem fd33_6 : FdA Tryz.prog 33 6 6 := FdA.of Tryz.underlying33 rfl rfl ty30 rfl
theorem zr127 : Zr Tryz.prog 127 (default : T_api_Stage) := Zr.of (by kernel_rfl)
theorem bu127 : Bu Tryz.prog 127 #[(0, 1), (1, 1)] := ⟨_, Tryz.underlying127, by kernel_rfl, by kernel_rfl⟩
theorem ty127 : Ty Tryz.prog 127 T_api_Stage := Ty.of (by rfl) Tryz.underlying127 (by kernel_rfl)
theorem ty29 : Ty Tryz.prog 29 (List T_api_Stage) := Ty.of (by rfl) Tryz.underlying29 (by kernel_rfl)
theorem fd33_5 : FdA Tryz.prog 33 5 5 := FdA.of Tryz.underlying33 rfl rfl ty29 rfl
theorem ty31 : Ty Tryz.prog 31 (List T_api_Ref) := Ty.of (by rfl) Tryz.underlying31 (by kernel_rfl)
theorem fd33_7 : FdA Tryz.prog 33 7 7 := FdA.of Tryz.underlying33 rfl rfl ty31 rfl
theorem zr129 : Zr Tryz.prog 129 (default : T_api_Ref) := Zr.of (by kernel_rfl)
theorem bu129 : Bu Tryz.prog 129 #[(0, 1), (1, 1), (2, 1), (3, 1), (4, 1), (5, 1)] := ⟨_, Tryz.underlying129, by kernel_rfl, by kernel_rfl⟩
theorem ty129 : Ty Tryz.prog 129 T_api_Ref := Ty.of (by rfl) Tryz.underlying129 (by kernel_rfl)
theorem zh33_5_7 : Zh Tryz.prog 33 [5, 7] := by unfold Zh; kernel_rfl
theorem en16 : En Tryz.prog 16 := ⟨_, Tryz.func16, rfl, by kernel_rfl⟩
theorem en119 : En Tryz.prog 119 := ⟨_, Tryz.func119, rfl, by kernel_rfl⟩
theorem en118 : En Tryz.prog 118 := ⟨_, Tryz.func118, rfl, by kernel_rfl⟩
theorem en82 : En Tryz.prog 82 := ⟨_, Tryz.func82, rfl, by kernel_rfl⟩
theorem fd86_2 : FdA Tryz.prog 86 2 2 := FdA.of Tryz.underlying86 rfl rfl ty3 rfl
theorem en83 : En Tryz.prog 83 := ⟨_, Tryz.func83, rfl, by kernel_rfl⟩
structure T_api_Installed where
  f_Entry : T_api_Entry
  f_Number : Int
  f_Owner : Int
  deriving DecidableEq, Inhabited
instance : Rp T_api_Installed where
  size := 7
  agg := true
  rep A W cs x := cs.length = 7 ∧ Rp.rep A W ((cs.drop 0).take (Rp.size T_api_Entry)) x.f_Entry ∧ Rp.rep A W ((cs.drop 5).take (Rp.size Int)) x.f_Number ∧ Rp.rep A W ((cs.drop 6).take (Rp.size Int)) x.f_Owner
  len h := h.1
  one h := by
    intro u hu
    have h0 := mem_cut (o := 0) (s := Rp.size T_api_Entry) (by simpa using hu)
    rcases h0 with h1 | h0
    · exact Rp.one h.2.1 u h1
    have h0 := mem_cut (s := Rp.size Int) h0
    rcases h0 with h1 | h0
    · exact Rp.one h.2.2.1 u h1
    have h0 := mem_cut (s := Rp.size Int) h0
    rcases h0 with h1 | h0
    · exact Rp.one h.2.2.2 u h1
    exact mem_end h.1 (by rfl) h0
  flat h := by cases h
  mono e h := ⟨h.1, Rp.mono e h.2.1, Rp.mono e h.2.2.1, Rp.mono e h.2.2.2⟩
def le_T_api_Installed_Entry : Lens T_api_Installed T_api_Entry where
  off := 0
  get := T_api_Installed.f_Entry
  set b g := { b with f_Entry := g }
  inb := by decide
  get_rep h := h.2.1
  set_rep h hg := by
    have hl := h.1
    have hd := Rp.len hg
    exact ⟨sp_len hl hd (by decide), by rw [sp_same hl hd (by decide)]; exact hg, by rw [sp_other hl hd (by decide) (.inr (by decide))]; exact h.2.2.1, by rw [sp_other hl hd (by decide) (.inr (by decide))]; exact h.2.2.2⟩
def le_T_api_Installed_Number : Lens T_api_Installed Int where
  off := 5
  get := T_api_Installed.f_Number
  set b g := { b with f_Number := g }
  inb := by decide
  get_rep h := h.2.2.1
  set_rep h hg := by
    have hl := h.1
    have hd := Rp.len hg
    exact ⟨sp_len hl hd (by decide), by rw [sp_other hl hd (by decide) (.inl (by decide))]; exact h.2.1, by rw [sp_same hl hd (by decide)]; exact hg, by rw [sp_other hl hd (by decide) (.inr (by decide))]; exact h.2.2.2⟩
instance : Zc T_api_Installed := ⟨Zc.cells T_api_Entry ++ Zc.cells Int ++ Zc.cells Int, fun A W => ⟨by rfl, Zc.ok (α := T_api_Entry) A W, Zc.ok (α := Int) A W, Zc.ok (α := Int) A W⟩⟩
structure T_index_hashed where
  f_x : Ref
  deriving DecidableEq, Inhabited
instance : Rp T_index_hashed where
  size := 1
  agg := true
  rep A W cs x := cs.length = 1 ∧ Rp.rep A W ((cs.drop 0).take (Rp.size Ref)) x.f_x
  len h := h.1
  one h := by
    intro u hu
    have h0 := mem_cut (o := 0) (s := Rp.size Ref) (by simpa using hu)
    rcases h0 with h1 | h0
    · exact Rp.one h.2 u h1
    exact mem_end h.1 (by rfl) h0
  flat h := by cases h
  mono e h := ⟨h.1, Rp.mono e h.2⟩
def le_T_index_hashed_x : Lens T_index_hashed Ref where
  off := 0
  get := T_index_hashed.f_x
  set b g := { b with f_x := g }
  inb := by decide
  get_rep h := h.2
  set_rep h hg := by
    have hl := h.1
    have hd := Rp.len hg
    exact ⟨sp_len hl hd (by decide), by rw [sp_same hl hd (by decide)]; exact hg⟩
instance : Zc T_index_hashed := ⟨Zc.cells Ref, fun A W => ⟨by rfl, Zc.ok (α := Ref) A W⟩⟩
structure T_index_prefixed where
  f_key : Int
  f_bits : Int
  f_tries : MRef
  deriving DecidableEq, Inhabited
instance : Rp T_index_prefixed where
  size := 3
  agg := true
  rep A W cs x := cs.length = 3 ∧ Rp.rep A W ((cs.drop 0).take (Rp.size Int)) x.f_key ∧ Rp.rep A W ((cs.drop 1).take (Rp.size Int)) x.f_bits ∧ Rp.rep A W ((cs.drop 2).take (Rp.size MRef)) x.f_tries
  len h := h.1
  one h := by
    intro u hu
    have h0 := mem_cut (o := 0) (s := Rp.size Int) (by simpa using hu)
    rcases h0 with h1 | h0
    · exact Rp.one h.2.1 u h1
    have h0 := mem_cut (s := Rp.size Int) h0
    rcases h0 with h1 | h0
    · exact Rp.one h.2.2.1 u h1
    have h0 := mem_cut (s := Rp.size MRef) h0
    rcases h0 with h1 | h0
    · exact Rp.one h.2.2.2 u h1
    exact mem_end h.1 (by rfl) h0
  flat h := by cases h
  mono e h := ⟨h.1, Rp.mono e h.2.1, Rp.mono e h.2.2.1, Rp.mono e h.2.2.2⟩
def le_T_index_prefixed_key : Lens T_index_prefixed Int where
  off := 0
  get := T_index_prefixed.f_key
  set b g := { b with f_key := g }
  inb := by decide
  get_rep h := h.2.1
  set_rep h hg := by
    have hl := h.1
    have hd := Rp.len hg
    exact ⟨sp_len hl hd (by decide), by rw [sp_same hl hd (by decide)]; exact hg, by rw [sp_other hl hd (by decide) (.inr (by decide))]; exact h.2.2.1, by rw [sp_other hl hd (by decide) (.inr (by decide))]; exact h.2.2.2⟩
def le_T_index_prefixed_bits : Lens T_index_prefixed Int where
  off := 1
  get := T_index_prefixed.f_bits
  set b g := { b with f_bits := g }
  inb := by decide
  get_rep h := h.2.2.1
  set_rep h hg := by
    have hl := h.1
    have hd := Rp.len hg
    exact ⟨sp_len hl hd (by decide), by rw [sp_other hl hd (by decide) (.inl (by decide))]; exact h.2.1, by rw [sp_same hl hd (by decide)]; exact hg, by rw [sp_other hl hd (by decide) (.inr (by decide))]; exact h.2.2.2⟩
def le_T_index_prefixed_tries : Lens T_index_prefixed MRef where
  off := 2
  get := T_index_prefixed.f_tries
  set b g := { b with f_tries := g }
  inb := by decide
  get_rep h := h.2.2.2
  set_rep h hg := by
    have hl := h.1
    have hd := Rp.len hg
    exact ⟨sp_len hl hd (by decide), by rw [sp_other hl hd (by decide) (.inl (by decide))]; exact h.2.1, by rw [sp_other hl hd (by decide) (.inl (by decide))]; exact h.2.2.1, by rw [sp_same hl hd (by decide)]; exact hg⟩
instance : Zc T_index_prefixed := ⟨Zc.cells Int ++ Zc.cells Int ++ Zc.cells MRef, fun A W => ⟨by rfl, Zc.ok (α := Int) A W, Zc.ok (α := Int) A W, Zc.ok (α := MRef) A W⟩⟩
structure T_index_sorted where
  f_l : Ref
  deriving DecidableEq, Inhabited
instance : Rp T_index_sorted where
  size := 1
  agg := true
  rep A W cs x := cs.length = 1 ∧ Rp.rep A W ((cs.drop 0).take (Rp.size Ref)) x.f_l
  len h := h.1
  one h := by
    intro u hu
    have h0 := mem_cut (o := 0) (s := Rp.size Ref) (by simpa using hu)
    rcases h0 with h1 | h0
    · exact Rp.one h.2 u h1
    exact mem_end h.1 (by rfl) h0
  flat h := by cases h
  mono e h := ⟨h.1, Rp.mono e h.2⟩
def le_T_index_sorted_l : Lens T_index_sorted Ref where
  off := 0
  get := T_index_sorted.f_l
  set b g := { b with f_l := g }
  inb := by decide
  get_rep h := h.2
  set_rep h hg := by
    have hl := h.1
    have hd := Rp.len hg
    exact ⟨sp_len hl hd (by decide), by rw [sp_same hl hd (by decide)]; exact hg⟩
instance : Zc T_index_sorted := ⟨Zc.cells Ref, fun A W => ⟨by rfl, Zc.ok (α := Ref) A W⟩⟩
inductive T_index_finder where
  | nil
  | c166 (x : T_index_hashed)
  | c169 (x : T_index_prefixed)
  | c173 (x : T_index_sorted)
  deriving DecidableEq, Inhabited
instance : Rp T_index_finder where
  size := 1
  agg := false
  rep A W cs x := match x with
    | .nil => cs = [.nilIface]
    | .c166 x => ∃ v, cs = [.iface 166 v] ∧ (VP.of x).holds A W v
    | .c169 x => ∃ v, cs = [.iface 169 v] ∧ (VP.of x).holds A W v
    | .c173 x => ∃ v, cs = [.iface 173 v] ∧ (VP.of x).holds A W v
  len {A W cs x} h := by cases x <;> first | (have h : cs = _ := h; rw [h]; rfl) | (obtain ⟨v, h, _⟩ := h; rw [h]; rfl)
  one {A W cs x} h := by
    intro u hu
    cases x <;> first | (have h : cs = _ := h; rw [h] at hu; rw [List.mem_singleton.1 hu]; rfl) | (obtain ⟨v, h, _⟩ := h; rw [h] at hu; rw [List.mem_singleton.1 hu]; rfl)
  flat _ := rfl
  mono {A W A' W' cs x} e h := by cases x <;> first | exact h | (obtain ⟨v, h, h2⟩ := h; exact ⟨v, h, VP.mono _ e h2⟩)
instance : Zc T_index_finder := ⟨[.nilIface], fun _ _ => rfl⟩
theorem if132_166 {A W v} {x : T_index_hashed} (h : (VP.of x).holds A W v) : (VP.of (T_index_finder.c166 x)).holds A W (.iface 166 v) := ⟨rfl, v, rfl, h⟩
theorem fi132_166 {A W u} {x : T_index_hashed} (h : (VP.of (T_index_finder.c166 x)).holds A W u) : ∃ v, u = .iface 166 v ∧ (VP.of x).holds A W v := by
  obtain ⟨h1, v, h2, h3⟩ := h
  exact ⟨v, toList_one h1 h2, h3⟩
theorem if132_169 {A W v} {x : T_index_prefixed} (h : (VP.of x).holds A W v) : (VP.of (T_index_finder.c169 x)).holds A W (.iface 169 v) := ⟨rfl, v, rfl, h⟩
theorem fi132_169 {A W u} {x : T_index_prefixed} (h : (VP.of (T_index_finder.c169 x)).holds A W u) : ∃ v, u = .iface 169 v ∧ (VP.of x).holds A W v := by
  obtain ⟨h1, v, h2, h3⟩ := h
  exact ⟨v, toList_one h1 h2, h3⟩
theorem if132_173 {A W v} {x : T_index_sorted} (h : (VP.of x).holds A W v) : (VP.of (T_index_finder.c173 x)).holds A W (.iface 173 v) := ⟨rfl, v, rfl, h⟩
theorem fi132_173 {A W u} {x : T_index_sorted} (h : (VP.of (T_index_finder.c173 x)).holds A W u) : ∃ v, u = .iface 173 v ∧ (VP.of x).holds A W v := by
  obtain ⟨h1, v, h2, h3⟩ := h
  exact ⟨v, toList_one h1 h2, h3⟩
structure T_index_Index where
  f_kind : Int
  f_keys : Int
  f_finder : T_index_finder
  f_entries : MRef
  deriving DecidableEq, Inhabited
instance : Rp T_index_Index where
  size := 4
  agg := true
  rep A W cs x := cs.length = 4 ∧ Rp.rep A W ((cs.drop 0).take (Rp.size Int)) x.f_kind ∧ Rp.rep A W ((cs.drop 1).take (Rp.size Int)) x.f_keys ∧ Rp.rep A W ((cs.drop 2).take (Rp.size T_index_finder)) x.f_finder ∧ Rp.rep A W ((cs.drop 3).take (Rp.size MRef)) x.f_entries
  len h := h.1
  one h := by
    intro u hu
    have h0 := mem_cut (o := 0) (s := Rp.size Int) (by simpa using hu)
    rcases h0 with h1 | h0
    · exact Rp.one h.2.1 u h1
    have h0 := mem_cut (s := Rp.size Int) h0
    rcases h0 with h1 | h0
    · exact Rp.one h.2.2.1 u h1
    have h0 := mem_cut (s := Rp.size T_index_finder) h0
    rcases h0 with h1 | h0
    · exact Rp.one h.2.2.2.1 u h1
    have h0 := mem_cut (s := Rp.size MRef) h0
    rcases h0 with h1 | h0
    · exact Rp.one h.2.2.2.2 u h1
    exact mem_end h.1 (by rfl) h0
  flat h := by cases h
  mono e h := ⟨h.1, Rp.mono e h.2.1, Rp.mono e h.2.2.1, Rp.mono e h.2.2.2.1, Rp.mono e h.2.2.2.2⟩
def le_T_index_Index_kind : Lens T_index_Index Int where
  off := 0
  get := T_index_Index.f_kind
  set b g := { b with f_kind := g }
  inb := by decide
  get_rep h := h.2.1
  set_rep h hg := by
    have hl := h.1
    have hd := Rp.len hg
    exact ⟨sp_len hl hd (by decide), by rw [sp_same hl hd (by decide)]; exact hg, by rw [sp_other hl hd (by decide) (.inr (by decide))]; exact h.2.2.1, by rw [sp_other hl hd (by decide) (.inr (by decide))]; exact h.2.2.2.1, by rw [sp_other hl hd (by decide) (.inr (by decide))]; exact h.2.2.2.2⟩
def le_T_index_Index_keys : Lens T_index_Index Int where
  off := 1
  get := T_index_Index.f_keys
  set b g := { b with f_keys := g }
  inb := by decide
  get_rep h := h.2.2.1
  set_rep h hg := by
    have hl := h.1
    have hd := Rp.len hg
    exact ⟨sp_len hl hd (by decide), by rw [sp_other hl hd (by decide) (.inl (by decide))]; exact h.2.1, by rw [sp_same hl hd (by decide)]; exact hg, by rw [sp_other hl hd (by decide) (.inr (by decide))]; exact h.2.2.2.1, by rw [sp_other hl hd (by decide) (.inr (by decide))]; exact h.2.2.2.2⟩
def le_T_index_Index_finder : Lens T_index_Index T_index_finder where
  off := 2
  get := T_index_Index.f_finder
  set b g := { b with f_finder := g }
  inb := by decide
  get_rep h := h.2.2.2.1
  set_rep h hg := by
    have hl := h.1
    have hd := Rp.len hg
    exact ⟨sp_len hl hd (by decide), by rw [sp_other hl hd (by decide) (.inl (by decide))]; exact h.2.1, by rw [sp_other hl hd (by decide) (.inl (by decide))]; exact h.2.2.1, by rw [sp_same hl hd (by decide)]; exact hg, by rw [sp_other hl hd (by decide) (.inr (by decide))]; exact h.2.2.2.2⟩
def le_T_index_Index_entries : Lens T_index_Index MRef where
  off := 3
  get := T_index_Index.f_entries
  set b g := { b with f_entries := g }
  inb := by decide
  get_rep h := h.2.2.2.2
  set_rep h hg := by
    have hl := h.1
    have hd := Rp.len hg
    exact ⟨sp_len hl hd (by decide), by rw [sp_other hl hd (by decide) (.inl (by decide))]; exact h.2.1, by rw [sp_other hl hd (by decide) (.inl (by decide))]; exact h.2.2.1, by rw [sp_other hl hd (by decide) (.inl (by decide))]; exact h.2.2.2.1, by rw [sp_same hl hd (by decide)]; exact hg⟩
instance : Zc T_index_Index := ⟨Zc.cells Int ++ Zc.cells Int ++ Zc.cells T_index_finder ++ Zc.cells MRef, fun A W => ⟨by rfl, Zc.ok (α := Int) A W, Zc.ok (α := Int) A W, Zc.ok (α := T_index_finder) A W, Zc.ok (α := MRef) A W⟩⟩
theorem zr135 : Zr Tryz.prog 135 (default : T_index_Index) := Zr.of (by kernel_rfl)
theorem bu135 : Bu Tryz.prog 135 #[(0, 1), (1, 1), (2, 1), (3, 1)] := ⟨_, Tryz.underlying135, by kernel_rfl, by kernel_rfl⟩
structure T_exact_Index where
  f_ids : MRef
  deriving DecidableEq, Inhabited
instance : Rp T_exact_Index where
  size := 1
  agg := true
  rep A W cs x := cs.length = 1 ∧ Rp.rep A W ((cs.drop 0).take (Rp.size MRef)) x.f_ids
  len h := h.1
  one h := by
    intro u hu
    have h0 := mem_cut (o := 0) (s := Rp.size MRef) (by simpa using hu)
    rcases h0 with h1 | h0
    · exact Rp.one h.2 u h1
    exact mem_end h.1 (by rfl) h0
  flat h := by cases h
  mono e h := ⟨h.1, Rp.mono e h.2⟩
def le_T_exact_Index_ids : Lens T_exact_Index MRef where
  off := 0
  get := T_exact_Index.f_ids
  set b g := { b with f_ids := g }
  inb := by decide
  get_rep h := h.2
  set_rep h hg := by
    have hl := h.1
    have hd := Rp.len hg
    exact ⟨sp_len hl hd (by decide), by rw [sp_same hl hd (by decide)]; exact hg⟩
instance : Zc T_exact_Index := ⟨Zc.cells MRef, fun A W => ⟨by rfl, Zc.ok (α := MRef) A W⟩⟩
theorem zr224 : Zr Tryz.prog 224 (default : T_exact_Index) := Zr.of (by kernel_rfl)
theorem bu224 : Bu Tryz.prog 224 #[(0, 1)] := ⟨_, Tryz.underlying224, by kernel_rfl, by kernel_rfl⟩
theorem en84 : En Tryz.prog 84 := ⟨_, Tryz.func84, rfl, by kernel_rfl⟩
theorem zr166 : Zr Tryz.prog 166 (default : T_index_hashed) := Zr.of (by kernel_rfl)
theorem bu166 : Bu Tryz.prog 166 #[(0, 1)] := ⟨_, Tryz.underlying166, by kernel_rfl, by kernel_rfl⟩
theorem ty132 : Ty Tryz.prog 132 T_index_finder := Ty.of (by rfl) Tryz.underlying132 (by kernel_rfl)
theorem fd135_2 : FdA Tryz.prog 135 2 2 := FdA.of Tryz.underlying135 rfl rfl ty132 rfl
theorem fd119_0 : FdA Tryz.prog 119 0 0 := FdA.of Tryz.underlying119 rfl rfl ty3 rfl
theorem en121 : En Tryz.prog 121 := ⟨_, Tryz.func121, rfl, by kernel_rfl⟩
theorem en120 : En Tryz.prog 120 := ⟨_, Tryz.func120, rfl, by kernel_rfl⟩
theorem fd86_1 : FdA Tryz.prog 86 1 1 := FdA.of Tryz.underlying86 rfl rfl ty3 rfl
theorem en85 : En Tryz.prog 85 := ⟨_, Tryz.func85, rfl, by kernel_rfl⟩
theorem fd119_2 : FdA Tryz.prog 119 2 2 := FdA.of Tryz.underlying119 rfl rfl ty3 rfl
theorem zr169 : Zr Tryz.prog 169 (default : T_index_prefixed) := Zr.of (by kernel_rfl)
theorem bu169 : Bu Tryz.prog 169 #[(0, 1), (1, 1), (2, 1)] := ⟨_, Tryz.underlying169, by kernel_rfl, by kernel_rfl⟩
structure T_ordered_List where
  f_schema : T_api_Schema
  f_l : List T_api_Installed
  deriving DecidableEq, Inhabited
instance : Rp T_ordered_List where
  size := 11
  agg := true
  rep A W cs x := cs.length = 11 ∧ Rp.rep A W ((cs.drop 0).take (Rp.size T_api_Schema)) x.f_schema ∧ Rp.rep A W ((cs.drop 10).take (Rp.size (List T_api_Installed))) x.f_l
  len h := h.1
  one h := by
    intro u hu
    have h0 := mem_cut (o := 0) (s := Rp.size T_api_Schema) (by simpa using hu)
    rcases h0 with h1 | h0
    · exact Rp.one h.2.1 u h1
    have h0 := mem_cut (s := Rp.size (List T_api_Installed)) h0
    rcases h0 with h1 | h0
    · exact Rp.one h.2.2 u h1
    exact mem_end h.1 (by rfl) h0
  flat h := by cases h
  mono e h := ⟨h.1, Rp.mono e h.2.1, Rp.mono e h.2.2⟩
def le_T_ordered_List_schema : Lens T_ordered_List T_api_Schema where
  off := 0
  get := T_ordered_List.f_schema
  set b g := { b with f_schema := g }
  inb := by decide
  get_rep h := h.2.1
  set_rep h hg := by
    have hl := h.1
    have hd := Rp.len hg
    exact ⟨sp_len hl hd (by decide), by rw [sp_same hl hd (by decide)]; exact hg, by rw [sp_other hl hd (by decide) (.inr (by decide))]; exact h.2.2⟩
def le_T_ordered_List_l : Lens T_ordered_List (List T_api_Installed) where
  off := 10
  get := T_ordered_List.f_l
  set b g := { b with f_l := g }
  inb := by decide
  get_rep h := h.2.2
  set_rep h hg := by
    have hl := h.1
    have hd := Rp.len hg
    exact ⟨sp_len hl hd (by decide), by rw [sp_other hl hd (by decide) (.inl (by decide))]; exact h.2.1, by rw [sp_same hl hd (by decide)]; exact hg⟩
instance : Zc T_ordered_List := ⟨Zc.cells T_api_Schema ++ Zc.cells (List T_api_Installed), fun A W => ⟨by rfl, Zc.ok (α := T_api_Schema) A W, Zc.ok (α := List T_api_Installed) A W⟩⟩
theorem zr228 : Zr Tryz.prog 228 (default : T_ordered_List) := Zr.of (by kernel_rfl)
theorem bu228 : Bu Tryz.prog 228 #[(0, 10), (10, 1)] := ⟨_, Tryz.underlying228, by kernel_rfl, by kernel_rfl⟩
theorem en86 : En Tryz.prog 86 := ⟨_, Tryz.func86, rfl, by kernel_rfl⟩
theorem zh228_10 : Zh Tryz.prog 228 [10] := by unfold Zh; kernel_rfl
theorem zr173 : Zr Tryz.prog 173 (default : T_index_sorted) := Zr.of (by kernel_rfl)
theorem bu173 : Bu Tryz.prog 173 #[(0, 1)] := ⟨_, Tryz.underlying173, by kernel_rfl, by kernel_rfl⟩
theorem en39 : En Tryz.prog 39 := ⟨_, Tryz.func39, rfl, by kernel_rfl⟩
theorem ty50 : Ty Tryz.prog 50 T_api_Entry := Ty.of (by rfl) Tryz.underlying50 (by kernel_rfl)
theorem zr52 : Zr Tryz.prog 52 (default : T_api_Installed) := Zr.of (by kernel_rfl)
theorem bu52 : Bu Tryz.prog 52 #[(0, 5), (5, 1), (6, 1)] := ⟨_, Tryz.underlying52, by kernel_rfl, by kernel_rfl⟩
theorem ty52 : Ty Tryz.prog 52 T_api_Installed := Ty.of (by rfl) Tryz.underlying52 (by kernel_rfl)
theorem zr45 : Zr Tryz.prog 45 (default : Vector T_api_Value 4) := Zr.of (by kernel_rfl)
theorem ty47 : Ty Tryz.prog 47 (List T_api_Match) := Ty.of (by rfl) Tryz.underlying47 (by kernel_rfl)
theorem fd50_1 : FdA Tryz.prog 50 1 1 := FdA.of Tryz.underlying50 rfl rfl ty47 rfl
theorem ty88 : Ty Tryz.prog 88 T_api_Match := Ty.of (by rfl) Tryz.underlying88 (by kernel_rfl)
theorem zr88 : Zr Tryz.prog 88 (default : T_api_Match) := Zr.of (by kernel_rfl)
theorem fd88_1 : FdA Tryz.prog 88 1 1 := FdA.of Tryz.underlying88 rfl rfl ty43 rfl
theorem ar45 : Ar Tryz.prog 45 4 2 := Ar.of Tryz.underlying45 ty43 rfl
theorem ty45 : Ty Tryz.prog 45 (Vector T_api_Value 4) := Ty.of (by rfl) Tryz.underlying45 (by kernel_rfl)
theorem ty222 : Ty Tryz.prog 222 MRef := Ty.of (by rfl) Tryz.underlying222 (by kernel_rfl)
theorem fd224_0 : FdA Tryz.prog 224 0 0 := FdA.of Tryz.underlying224 rfl rfl ty222 rfl
instance pk43 : Pk T_api_Value where
  uniq {A W cs A' W' cs' x} h h' := by
    refine cut_all h.1 h'.1 ?_
    refine cut_step 0 (Rp.size (BitVec 64)) (Pk.uniq (h.2.1) (h'.2.1)) ?_
    refine cut_step 1 (Rp.size (BitVec 64)) (Pk.uniq (h.2.2) (h'.2.2)) ?_
    exact cut_end h.1 h'.1 (by decide)
  plain {A W cs x} h := by
    intro u hu n
    have h0 := mem_cut (o := 0) (s := Rp.size (BitVec 64)) (by simpa using hu)
    rcases h0 with h1 | h0
    · exact Pk.plain (h.2.1) u h1 n
    have h0 := mem_cut (s := Rp.size (BitVec 64)) h0
    rcases h0 with h1 | h0
    · exact Pk.plain (h.2.2) u h1 n
    exact mem_end h.1 (by rfl) h0
theorem eqv41 : Eqv Tryz.prog 41 (BitVec 64) 1 := eqv_u64 (K := .u64) Tryz.underlying41
theorem ty41 : Ty Tryz.prog 41 (BitVec 64) := Ty.of (by rfl) Tryz.underlying41 (by kernel_rfl)
theorem eqv43 : Eqv Tryz.prog 43 T_api_Value 2 := eqv_struct (k := 1) rfl Tryz.underlying43 (by kernel_rfl) fun d hd A W xs ys x y hx hy => by
  refine Eq.trans (eqf_cons le_T_api_Value_Hi ty41 rfl (by rfl) eqv41 (by omega) hx hy (eqf_cons le_T_api_Value_Lo ty41 rfl (by rfl) eqv41 (by omega) hx hy (eqf_nil))) ?_
  congr 1
  rw [Bool.eq_iff_iff]
  simp only [Bool.and_eq_true, decide_eq_true_eq, and_true]
  cases x; cases y
  simp [le_T_api_Value_Hi, le_T_api_Value_Lo]

theorem eqv319 : Eqv Tryz.prog 319 (Vector T_api_Value 4) 3 := eqv_arr Tryz.underlying319 ty43 eqv43
theorem ck41 : Ck Tryz.prog 41 (BitVec 64) 1 := ck_scalar Tryz.underlying41 rfl
theorem ck43 : Ck Tryz.prog 43 T_api_Value 2 := ck_struct (k := 1) rfl Tryz.underlying43 (.cons le_T_api_Value_Hi rfl ty41 (fun b d A W u x h hx => ck41 b d A W u x (by omega) hx) (.cons le_T_api_Value_Lo rfl ty41 (fun b d A W u x h hx => ck41 b d A W u x (by omega) hx) (.nil)))
theorem ck319 : Ck Tryz.prog 319 (Vector T_api_Value 4) 3 := ck_arr Tryz.underlying319 ty43 ck43
theorem kt319 : Kt Tryz.prog 319 (Vector T_api_Value 4) := kt_agg Tryz.underlying319 rfl ck319 eqv319 rfl rfl
theorem ty163 : Ty Tryz.prog 163 Ref := Ty.of (by rfl) Tryz.underlying163 (by kernel_rfl)
theorem fd166_0 : FdA Tryz.prog 166 0 0 := FdA.of Tryz.underlying166 rfl rfl ty163 rfl
theorem en232 : En Tryz.prog 232 := ⟨_, Tryz.func232, rfl, by kernel_rfl⟩
theorem en231 : En Tryz.prog 231 := ⟨_, Tryz.func231, rfl, by kernel_rfl⟩
theorem ty169 : Ty Tryz.prog 169 T_index_prefixed := Ty.of (by rfl) Tryz.underlying169 (by kernel_rfl)
theorem zr320 : Zr Tryz.prog 320 (default : Vector T_api_Value 4) := Zr.of (by kernel_rfl)
theorem fd169_0 : FdA Tryz.prog 169 0 0 := FdA.of Tryz.underlying169 rfl rfl ty3 rfl
theorem ty320 : Ty Tryz.prog 320 (Vector T_api_Value 4) := Ty.of (by rfl) Tryz.underlying320 (by kernel_rfl)
theorem en241 : En Tryz.prog 241 := ⟨_, Tryz.func241, rfl, by kernel_rfl⟩
theorem fd88_3 : FdA Tryz.prog 88 3 5 := FdA.of Tryz.underlying88 rfl rfl ty3 rfl
theorem en239 : En Tryz.prog 239 := ⟨_, Tryz.func239, rfl, by kernel_rfl⟩
theorem zr331 : Zr Tryz.prog 331 (default : Ref) := Zr.of (by kernel_rfl)
theorem en205 : En Tryz.prog 205 := ⟨_, Tryz.func205, rfl, by kernel_rfl⟩
theorem fd43_0 : FdA Tryz.prog 43 0 0 := FdA.of Tryz.underlying43 rfl rfl ty41 rfl
theorem fd43_1 : FdA Tryz.prog 43 1 1 := FdA.of Tryz.underlying43 rfl rfl ty41 rfl
theorem en204 : En Tryz.prog 204 := ⟨_, Tryz.func204, rfl, by kernel_rfl⟩
theorem en188 : En Tryz.prog 188 := ⟨_, Tryz.func188, rfl, by kernel_rfl⟩
theorem en193 : En Tryz.prog 193 := ⟨_, Tryz.func193, rfl, by kernel_rfl⟩
theorem fd337_0 : FdA Tryz.prog 337 0 0 := FdA.of Tryz.underlying337 rfl rfl ty3 rfl
structure T_trie_Trie where
  f_bits : Int
  f_root : Ref
  deriving DecidableEq, Inhabited
instance : Rp T_trie_Trie where
  size := 2
  agg := true
  rep A W cs x := cs.length = 2 ∧ Rp.rep A W ((cs.drop 0).take (Rp.size Int)) x.f_bits ∧ Rp.rep A W ((cs.drop 1).take (Rp.size Ref)) x.f_root
  len h := h.1
  one h := by
    intro u hu
    have h0 := mem_cut (o := 0) (s := Rp.size Int) (by simpa using hu)
    rcases h0 with h1 | h0
    · exact Rp.one h.2.1 u h1
    have h0 := mem_cut (s := Rp.size Ref) h0
    rcases h0 with h1 | h0
    · exact Rp.one h.2.2 u h1
    exact mem_end h.1 (by rfl) h0
  flat h := by cases h
  mono e h := ⟨h.1, Rp.mono e h.2.1, Rp.mono e h.2.2⟩
def le_T_trie_Trie_bits : Lens T_trie_Trie Int where
  off := 0
  get := T_trie_Trie.f_bits
  set b g := { b with f_bits := g }
  inb := by decide
  get_rep h := h.2.1
  set_rep h hg := by
    have hl := h.1
    have hd := Rp.len hg
    exact ⟨sp_len hl hd (by decide), by rw [sp_same hl hd (by decide)]; exact hg, by rw [sp_other hl hd (by decide) (.inr (by decide))]; exact h.2.2⟩
def le_T_trie_Trie_root : Lens T_trie_Trie Ref where
  off := 1
  get := T_trie_Trie.f_root
  set b g := { b with f_root := g }
  inb := by decide
  get_rep h := h.2.2
  set_rep h hg := by
    have hl := h.1
    have hd := Rp.len hg
    exact ⟨sp_len hl hd (by decide), by rw [sp_other hl hd (by decide) (.inl (by decide))]; exact h.2.1, by rw [sp_same hl hd (by decide)]; exact hg⟩
instance : Zc T_trie_Trie := ⟨Zc.cells Int ++ Zc.cells Ref, fun A W => ⟨by rfl, Zc.ok (α := Int) A W, Zc.ok (α := Ref) A W⟩⟩
theorem en189 : En Tryz.prog 189 := ⟨_, Tryz.func189, rfl, by kernel_rfl⟩
theorem en148 : En Tryz.prog 148 := ⟨_, Tryz.func148, rfl, by kernel_rfl⟩
theorem eqg43 : Tryz.prog.eqGuardType Tryz.prog.depth 43 = false := by kernel_rfl
theorem en251 : En Tryz.prog 251 := ⟨_, Tryz.func251, rfl, by kernel_rfl⟩
theorem ty331 : Ty Tryz.prog 331 Ref := Ty.of (by rfl) Tryz.underlying331 (by kernel_rfl)
theorem fd337_1 : FdA Tryz.prog 337 1 1 := FdA.of Tryz.underlying337 rfl rfl ty331 rfl
theorem en250 : En Tryz.prog 250 := ⟨_, Tryz.func250, rfl, by kernel_rfl⟩
theorem fv43_1 : Fv Tryz.prog 43 1 41 1 := ⟨_, _, Tryz.underlying43, rfl, rfl, rfl⟩
theorem ty321 : Ty Tryz.prog 321 Ref := Ty.of (by rfl) Tryz.underlying321 (by kernel_rfl)
theorem en196 : En Tryz.prog 196 := ⟨_, Tryz.func196, rfl, by kernel_rfl⟩
theorem ty333 : Ty Tryz.prog 333 (Vector Ref 2) := Ty.of (by rfl) Tryz.underlying333 (by kernel_rfl)
theorem fd335_0 : FdA Tryz.prog 335 0 0 := FdA.of Tryz.underlying335 rfl rfl ty333 rfl
theorem ar333 : Ar Tryz.prog 333 2 1 := Ar.of Tryz.underlying333 ty331 rfl
structure T_trie_node where
  f_children : Vector Ref 2
  f_used : Bool
  f_id : Int
  deriving DecidableEq, Inhabited
instance : Rp T_trie_node where
  size := 4
  agg := true
  rep A W cs x := cs.length = 4 ∧ Rp.rep A W ((cs.drop 0).take (Rp.size (Vector Ref 2))) x.f_children ∧ Rp.rep A W ((cs.drop 2).take (Rp.size Bool)) x.f_used ∧ Rp.rep A W ((cs.drop 3).take (Rp.size Int)) x.f_id
  len h := h.1
  one h := by
    intro u hu
    have h0 := mem_cut (o := 0) (s := Rp.size (Vector Ref 2)) (by simpa using hu)
    rcases h0 with h1 | h0
    · exact Rp.one h.2.1 u h1
    have h0 := mem_cut (s := Rp.size Bool) h0
    rcases h0 with h1 | h0
    · exact Rp.one h.2.2.1 u h1
    have h0 := mem_cut (s := Rp.size Int) h0
    rcases h0 with h1 | h0
    · exact Rp.one h.2.2.2 u h1
    exact mem_end h.1 (by rfl) h0
  flat h := by cases h
  mono e h := ⟨h.1, Rp.mono e h.2.1, Rp.mono e h.2.2.1, Rp.mono e h.2.2.2⟩
def le_T_trie_node_children : Lens T_trie_node (Vector Ref 2) where
  off := 0
  get := T_trie_node.f_children
  set b g := { b with f_children := g }
  inb := by decide
  get_rep h := h.2.1
  set_rep h hg := by
    have hl := h.1
    have hd := Rp.len hg
    exact ⟨sp_len hl hd (by decide), by rw [sp_same hl hd (by decide)]; exact hg, by rw [sp_other hl hd (by decide) (.inr (by decide))]; exact h.2.2.1, by rw [sp_other hl hd (by decide) (.inr (by decide))]; exact h.2.2.2⟩
def le_T_trie_node_used : Lens T_trie_node Bool where
  off := 2
  get := T_trie_node.f_used
  set b g := { b with f_used := g }
  inb := by decide
  get_rep h := h.2.2.1
  set_rep h hg := by
    have hl := h.1
    have hd := Rp.len hg
    exact ⟨sp_len hl hd (by decide), by rw [sp_other hl hd (by decide) (.inl (by decide))]; exact h.2.1, by rw [sp_same hl hd (by decide)]; exact hg, by rw [sp_other hl hd (by decide) (.inr (by decide))]; exact h.2.2.2⟩
def le_T_trie_node_id : Lens T_trie_node Int where
  off := 3
  get := T_trie_node.f_id
  set b g := { b with f_id := g }
  inb := by decide
  get_rep h := h.2.2.2
  set_rep h hg := by
    have hl := h.1
    have hd := Rp.len hg
    exact ⟨sp_len hl hd (by decide), by rw [sp_other hl hd (by decide) (.inl (by decide))]; exact h.2.1, by rw [sp_other hl hd (by decide) (.inl (by decide))]; exact h.2.2.1, by rw [sp_same hl hd (by decide)]; exact hg⟩
instance : Zc T_trie_node := ⟨Zc.cells (Vector Ref 2) ++ Zc.cells Bool ++ Zc.cells Int, fun A W => ⟨by rfl, Zc.ok (α := Vector Ref 2) A W, Zc.ok (α := Bool) A W, Zc.ok (α := Int) A W⟩⟩
theorem en255 : En Tryz.prog 255 := ⟨_, Tryz.func255, rfl, by kernel_rfl⟩
theorem en247 : En Tryz.prog 247 := ⟨_, Tryz.func247, rfl, by kernel_rfl⟩
theorem fd335_1 : FdA Tryz.prog 335 1 2 := FdA.of Tryz.underlying335 rfl rfl ty4 rfl
theorem fd335_2 : FdA Tryz.prog 335 2 3 := FdA.of Tryz.underlying335 rfl rfl ty3 rfl
theorem ty167 : Ty Tryz.prog 167 MRef := Ty.of (by rfl) Tryz.underlying167 (by kernel_rfl)
theorem fd169_2 : FdA Tryz.prog 169 2 2 := FdA.of Tryz.underlying169 rfl rfl ty167 rfl
theorem eqv320 : Eqv Tryz.prog 320 (Vector T_api_Value 4) 3 := eqv_arr Tryz.underlying320 ty43 eqv43
theorem ck320 : Ck Tryz.prog 320 (Vector T_api_Value 4) 3 := ck_arr Tryz.underlying320 ty43 ck43
theorem kt320 : Kt Tryz.prog 320 (Vector T_api_Value 4) := kt_agg Tryz.underlying320 rfl ck320 eqv320 rfl rfl
theorem zr321 : Zr Tryz.prog 321 (default : Ref) := Zr.of (by kernel_rfl)
theorem en240 : En Tryz.prog 240 := ⟨_, Tryz.func240, rfl, by kernel_rfl⟩
theorem ty170 : Ty Tryz.prog 170 Ref := Ty.of (by rfl) Tryz.underlying170 (by kernel_rfl)
theorem fd173_0 : FdA Tryz.prog 173 0 0 := FdA.of Tryz.underlying173 rfl rfl ty170 rfl
theorem ty38 : Ty Tryz.prog 38 (List T_api_Installed) := Ty.of (by rfl) Tryz.underlying38 (by kernel_rfl)
theorem fd228_1 : FdA Tryz.prog 228 1 10 := FdA.of Tryz.underlying228 rfl rfl ty38 rfl
theorem fd52_0 : FdA Tryz.prog 52 0 0 := FdA.of Tryz.underlying52 rfl rfl ty50 rfl
theorem zr50 : Zr Tryz.prog 50 (default : T_api_Entry) := Zr.of (by kernel_rfl)
theorem en161 : En Tryz.prog 161 := ⟨_, Tryz.func161, rfl, by kernel_rfl⟩
theorem ty48 : Ty Tryz.prog 48 (List T_api_Value) := Ty.of (by rfl) Tryz.underlying48 (by kernel_rfl)
theorem fd50_4 : FdA Tryz.prog 50 4 4 := FdA.of Tryz.underlying50 rfl rfl ty48 rfl
theorem en162 : En Tryz.prog 162 := ⟨_, Tryz.func162, rfl, by kernel_rfl⟩
theorem en122 : En Tryz.prog 122 := ⟨_, Tryz.func122, rfl, by kernel_rfl⟩
theorem en87 : En Tryz.prog 87 := ⟨_, Tryz.func87, rfl, by kernel_rfl⟩
theorem en269 : En Tryz.prog 269 := ⟨_, Tryz.func269, rfl, by kernel_rfl⟩
theorem en264 : En Tryz.prog 264 := ⟨_, Tryz.func264, rfl, by kernel_rfl⟩
theorem fd50_0 : FdA Tryz.prog 50 0 0 := FdA.of Tryz.underlying50 rfl rfl ty3 rfl
theorem eqv4 : Eqv Tryz.prog 4 Bool 1 := eqv_bool Tryz.underlying4
theorem eqv3 : Eqv Tryz.prog 3 Int 1 := eqv_int (K := .i64) Tryz.underlying3
theorem eqv88 : Eqv Tryz.prog 88 T_api_Match 3 := eqv_struct (k := 2) rfl Tryz.underlying88 (by kernel_rfl) fun d hd A W xs ys x y hx hy => by
  refine Eq.trans (eqf_cons le_T_api_Match_Present ty4 rfl (by rfl) eqv4 (by omega) hx hy (eqf_cons le_T_api_Match_Value ty43 rfl (by rfl) eqv43 (by omega) hx hy (eqf_cons le_T_api_Match_Mask ty43 rfl (by rfl) eqv43 (by omega) hx hy (eqf_cons le_T_api_Match_Prefix ty3 rfl (by rfl) eqv3 (by omega) hx hy (eqf_cons le_T_api_Match_High ty43 rfl (by rfl) eqv43 (by omega) hx hy (eqf_nil)))))) ?_
  congr 1
  rw [Bool.eq_iff_iff]
  simp only [Bool.and_eq_true, decide_eq_true_eq, and_true]
  cases x; cases y
  simp [le_T_api_Match_Present, le_T_api_Match_Value, le_T_api_Match_Mask, le_T_api_Match_Prefix, le_T_api_Match_High]

theorem eqg88 : Tryz.prog.eqGuardType Tryz.prog.depth 88 = false := by kernel_rfl
theorem en270 : En Tryz.prog 270 := ⟨_, Tryz.func270, rfl, by kernel_rfl⟩
theorem fd50_2 : FdA Tryz.prog 50 2 2 := FdA.of Tryz.underlying50 rfl rfl ty3 rfl
theorem en265 : En Tryz.prog 265 := ⟨_, Tryz.func265, rfl, by kernel_rfl⟩
theorem fd52_1 : FdA Tryz.prog 52 1 5 := FdA.of Tryz.underlying52 rfl rfl ty3 rfl
theorem en227 : En Tryz.prog 227 := ⟨_, Tryz.func227, rfl, by kernel_rfl⟩
theorem mt166_227 : Mt Tryz.prog 166 "matchguard/index.find" 227 := Mt.of1 (by kernel_rfl) Tryz.underlying166 rfl en227
theorem en235 : En Tryz.prog 235 := ⟨_, Tryz.func235, rfl, by kernel_rfl⟩
theorem mt169_235 : Mt Tryz.prog 169 "matchguard/index.find" 235 := Mt.of1 (by kernel_rfl) Tryz.underlying169 rfl en235
theorem en260 : En Tryz.prog 260 := ⟨_, Tryz.func260, rfl, by kernel_rfl⟩
theorem mt173_260 : Mt Tryz.prog 173 "matchguard/index.find" 260 := Mt.of1 (by kernel_rfl) Tryz.underlying173 rfl en260
theorem ty133 : Ty Tryz.prog 133 MRef := Ty.of (by rfl) Tryz.underlying133 (by kernel_rfl)
theorem fd135_3 : FdA Tryz.prog 135 3 3 := FdA.of Tryz.underlying135 rfl rfl ty133 rfl
theorem kt3 : Kt Tryz.prog 3 Int := kt_int Tryz.underlying3
theorem en72 : En Tryz.prog 72 := ⟨_, Tryz.func72, rfl, by kernel_rfl⟩
theorem en40 : En Tryz.prog 40 := ⟨_, Tryz.func40, rfl, by kernel_rfl⟩
theorem en234 : En Tryz.prog 234 := ⟨_, Tryz.func234, rfl, by kernel_rfl⟩
theorem zr341 : Zr Tryz.prog 341 (default : List Ref) := Zr.of (by kernel_rfl)
theorem zr63 : Zr Tryz.prog 63 (default : List Int) := Zr.of (by kernel_rfl)
theorem ty341 : Ty Tryz.prog 341 (List Ref) := Ty.of (by rfl) Tryz.underlying341 (by kernel_rfl)
theorem ty63 : Ty Tryz.prog 63 (List Int) := Ty.of (by rfl) Tryz.underlying63 (by kernel_rfl)
theorem zh341_0 : Zh Tryz.prog 341 [0] := by unfold Zh; kernel_rfl
theorem zh63_0 : Zh Tryz.prog 63 [0] := by unfold Zh; kernel_rfl
theorem zr333 : Zr Tryz.prog 333 (default : Vector Ref 2) := Zr.of (by kernel_rfl)
theorem eqg333 : Tryz.prog.eqGuardType Tryz.prog.depth 333 = false := by kernel_rfl
theorem en252 : En Tryz.prog 252 := ⟨_, Tryz.func252, rfl, by kernel_rfl⟩
theorem en245 : En Tryz.prog 245 := ⟨_, Tryz.func245, rfl, by kernel_rfl⟩
structure T_trie_Prefix where
  f_Value : T_api_Value
  f_Length : Int
  f_ID : Int
  deriving DecidableEq, Inhabited
instance : Rp T_trie_Prefix where
  size := 4
  agg := true
  rep A W cs x := cs.length = 4 ∧ Rp.rep A W ((cs.drop 0).take (Rp.size T_api_Value)) x.f_Value ∧ Rp.rep A W ((cs.drop 2).take (Rp.size Int)) x.f_Length ∧ Rp.rep A W ((cs.drop 3).take (Rp.size Int)) x.f_ID
  len h := h.1
  one h := by
    intro u hu
    have h0 := mem_cut (o := 0) (s := Rp.size T_api_Value) (by simpa using hu)
    rcases h0 with h1 | h0
    · exact Rp.one h.2.1 u h1
    have h0 := mem_cut (s := Rp.size Int) h0
    rcases h0 with h1 | h0
    · exact Rp.one h.2.2.1 u h1
    have h0 := mem_cut (s := Rp.size Int) h0
    rcases h0 with h1 | h0
    · exact Rp.one h.2.2.2 u h1
    exact mem_end h.1 (by rfl) h0
  flat h := by cases h
  mono e h := ⟨h.1, Rp.mono e h.2.1, Rp.mono e h.2.2.1, Rp.mono e h.2.2.2⟩
def le_T_trie_Prefix_Value : Lens T_trie_Prefix T_api_Value where
  off := 0
  get := T_trie_Prefix.f_Value
  set b g := { b with f_Value := g }
  inb := by decide
  get_rep h := h.2.1
  set_rep h hg := by
    have hl := h.1
    have hd := Rp.len hg
    exact ⟨sp_len hl hd (by decide), by rw [sp_same hl hd (by decide)]; exact hg, by rw [sp_other hl hd (by decide) (.inr (by decide))]; exact h.2.2.1, by rw [sp_other hl hd (by decide) (.inr (by decide))]; exact h.2.2.2⟩
def le_T_trie_Prefix_Length : Lens T_trie_Prefix Int where
  off := 2
  get := T_trie_Prefix.f_Length
  set b g := { b with f_Length := g }
  inb := by decide
  get_rep h := h.2.2.1
  set_rep h hg := by
    have hl := h.1
    have hd := Rp.len hg
    exact ⟨sp_len hl hd (by decide), by rw [sp_other hl hd (by decide) (.inl (by decide))]; exact h.2.1, by rw [sp_same hl hd (by decide)]; exact hg, by rw [sp_other hl hd (by decide) (.inr (by decide))]; exact h.2.2.2⟩
def le_T_trie_Prefix_ID : Lens T_trie_Prefix Int where
  off := 3
  get := T_trie_Prefix.f_ID
  set b g := { b with f_ID := g }
  inb := by decide
  get_rep h := h.2.2.2
  set_rep h hg := by
    have hl := h.1
    have hd := Rp.len hg
    exact ⟨sp_len hl hd (by decide), by rw [sp_other hl hd (by decide) (.inl (by decide))]; exact h.2.1, by rw [sp_other hl hd (by decide) (.inl (by decide))]; exact h.2.2.1, by rw [sp_same hl hd (by decide)]; exact hg⟩
instance : Zc T_trie_Prefix := ⟨Zc.cells T_api_Value ++ Zc.cells Int ++ Zc.cells Int, fun A W => ⟨by rfl, Zc.ok (α := T_api_Value) A W, Zc.ok (α := Int) A W, Zc.ok (α := Int) A W⟩⟩
theorem zr342 : Zr Tryz.prog 342 (default : List T_trie_Prefix) := Zr.of (by kernel_rfl)
theorem ty342 : Ty Tryz.prog 342 (List T_trie_Prefix) := Ty.of (by rfl) Tryz.underlying342 (by kernel_rfl)
theorem zr347 : Zr Tryz.prog 347 (default : T_trie_Prefix) := Zr.of (by kernel_rfl)
theorem bu347 : Bu Tryz.prog 347 #[(0, 2), (2, 1), (3, 1)] := ⟨_, Tryz.underlying347, by kernel_rfl, by kernel_rfl⟩
theorem ty347 : Ty Tryz.prog 347 T_trie_Prefix := Ty.of (by rfl) Tryz.underlying347 (by kernel_rfl)
theorem en257 : En Tryz.prog 257 := ⟨_, Tryz.func257, rfl, by kernel_rfl⟩
theorem en258 : En Tryz.prog 258 := ⟨_, Tryz.func258, rfl, by kernel_rfl⟩
theorem en166 : En Tryz.prog 166 := ⟨_, Tryz.func166, rfl, by kernel_rfl⟩
theorem en165 : En Tryz.prog 165 := ⟨_, Tryz.func165, rfl, by kernel_rfl⟩
theorem en167 : En Tryz.prog 167 := ⟨_, Tryz.func167, rfl, by kernel_rfl⟩
theorem zh342_0 : Zh Tryz.prog 342 [0] := by unfold Zh; kernel_rfl
theorem en256 : En Tryz.prog 256 := ⟨_, Tryz.func256, rfl, by kernel_rfl⟩
theorem en253 : En Tryz.prog 253 := ⟨_, Tryz.func253, rfl, by kernel_rfl⟩
theorem en246 : En Tryz.prog 246 := ⟨_, Tryz.func246, rfl, by kernel_rfl⟩
theorem en279 : En Tryz.prog 279 := ⟨_, Tryz.func279, rfl, by kernel_rfl⟩
theorem en110 : En Tryz.prog 110 := ⟨_, Tryz.func110, rfl, by kernel_rfl⟩
theorem en272 : En Tryz.prog 272 := ⟨_, Tryz.func272, rfl, by kernel_rfl⟩
theorem en276 : En Tryz.prog 276 := ⟨_, Tryz.func276, rfl, by kernel_rfl⟩
theorem en268 : En Tryz.prog 268 := ⟨_, Tryz.func268, rfl, by kernel_rfl⟩
theorem en230 : En Tryz.prog 230 := ⟨_, Tryz.func230, rfl, by kernel_rfl⟩
theorem mt166_230 : Mt Tryz.prog 166 "matchguard/index.remove" 230 := Mt.of1 (by kernel_rfl) Tryz.underlying166 rfl en230
theorem en238 : En Tryz.prog 238 := ⟨_, Tryz.func238, rfl, by kernel_rfl⟩
theorem mt169_238 : Mt Tryz.prog 169 "matchguard/index.remove" 238 := Mt.of1 (by kernel_rfl) Tryz.underlying169 rfl en238
theorem en263 : En Tryz.prog 263 := ⟨_, Tryz.func263, rfl, by kernel_rfl⟩
theorem mt173_263 : Mt Tryz.prog 173 "matchguard/index.remove" 263 := Mt.of1 (by kernel_rfl) Tryz.underlying173 rfl en263
theorem en41 : En Tryz.prog 41 := ⟨_, Tryz.func41, rfl, by kernel_rfl⟩
theorem fd135_1 : FdA Tryz.prog 135 1 1 := FdA.of Tryz.underlying135 rfl rfl ty3 rfl
theorem en185 : En Tryz.prog 185 := ⟨_, Tryz.func185, rfl, by kernel_rfl⟩
theorem en254 : En Tryz.prog 254 := ⟨_, Tryz.func254, rfl, by kernel_rfl⟩
theorem en248 : En Tryz.prog 248 := ⟨_, Tryz.func248, rfl, by kernel_rfl⟩
theorem zr1 : Zr Tryz.prog 1 (default : Raw) := Zr.of (by kernel_rfl)
theorem ty1 : Ty Tryz.prog 1 Raw := Ty.of (by rfl) Tryz.underlying1 (by kernel_rfl)
theorem en249 : En Tryz.prog 249 := ⟨_, Tryz.func249, rfl, by kernel_rfl⟩
theorem fd169_1 : FdA Tryz.prog 169 1 1 := FdA.of Tryz.underlying169 rfl rfl ty3 rfl
theorem en242 : En Tryz.prog 242 := ⟨_, Tryz.func242, rfl, by kernel_rfl⟩
theorem en271 : En Tryz.prog 271 := ⟨_, Tryz.func271, rfl, by kernel_rfl⟩
theorem en206 : En Tryz.prog 206 := ⟨_, Tryz.func206, rfl, by kernel_rfl⟩
theorem fd88_0 : FdA Tryz.prog 88 0 0 := FdA.of Tryz.underlying88 rfl rfl ty4 rfl
theorem fd88_2 : FdA Tryz.prog 88 2 3 := FdA.of Tryz.underlying88 rfl rfl ty43 rfl
theorem en137 : En Tryz.prog 137 := ⟨_, Tryz.func137, rfl, by kernel_rfl⟩
theorem fd88_4 : FdA Tryz.prog 88 4 6 := FdA.of Tryz.underlying88 rfl rfl ty43 rfl
theorem en283 : En Tryz.prog 283 := ⟨_, Tryz.func283, rfl, by kernel_rfl⟩
theorem en282 : En Tryz.prog 282 := ⟨_, Tryz.func282, rfl, by kernel_rfl⟩
theorem fd228_0 : FdA Tryz.prog 228 0 0 := FdA.of Tryz.underlying228 rfl rfl ty33 rfl
theorem en278 : En Tryz.prog 278 := ⟨_, Tryz.func278, rfl, by kernel_rfl⟩
theorem en277 : En Tryz.prog 277 := ⟨_, Tryz.func277, rfl, by kernel_rfl⟩
theorem en266 : En Tryz.prog 266 := ⟨_, Tryz.func266, rfl, by kernel_rfl⟩
theorem en228 : En Tryz.prog 228 := ⟨_, Tryz.func228, rfl, by kernel_rfl⟩
theorem mt166_228 : Mt Tryz.prog 166 "matchguard/index.lookup" 228 := Mt.of1 (by kernel_rfl) Tryz.underlying166 rfl en228
theorem en236 : En Tryz.prog 236 := ⟨_, Tryz.func236, rfl, by kernel_rfl⟩
theorem mt169_236 : Mt Tryz.prog 169 "matchguard/index.lookup" 236 := Mt.of1 (by kernel_rfl) Tryz.underlying169 rfl en236
theorem en261 : En Tryz.prog 261 := ⟨_, Tryz.func261, rfl, by kernel_rfl⟩
theorem mt173_261 : Mt Tryz.prog 173 "matchguard/index.lookup" 261 := Mt.of1 (by kernel_rfl) Tryz.underlying173 rfl en261
theorem en20 : En Tryz.prog 20 := ⟨_, Tryz.func20, rfl, by kernel_rfl⟩
theorem fd135_0 : FdA Tryz.prog 135 0 0 := FdA.of Tryz.underlying135 rfl rfl ty3 rfl
theorem en42 : En Tryz.prog 42 := ⟨_, Tryz.func42, rfl, by kernel_rfl⟩
theorem en43 : En Tryz.prog 43 := ⟨_, Tryz.func43, rfl, by kernel_rfl⟩
theorem en233 : En Tryz.prog 233 := ⟨_, Tryz.func233, rfl, by kernel_rfl⟩
theorem zr337 : Zr Tryz.prog 337 (default : T_trie_Trie) := Zr.of (by kernel_rfl)
theorem bu337 : Bu Tryz.prog 337 #[(0, 1), (1, 1)] := ⟨_, Tryz.underlying337, by kernel_rfl, by kernel_rfl⟩
theorem en243 : En Tryz.prog 243 := ⟨_, Tryz.func243, rfl, by kernel_rfl⟩
theorem zr335 : Zr Tryz.prog 335 (default : T_trie_node) := Zr.of (by kernel_rfl)
theorem bu335 : Bu Tryz.prog 335 #[(0, 2), (2, 1), (3, 1)] := ⟨_, Tryz.underlying335, by kernel_rfl, by kernel_rfl⟩
theorem en244 : En Tryz.prog 244 := ⟨_, Tryz.func244, rfl, by kernel_rfl⟩
theorem en126 : En Tryz.prog 126 := ⟨_, Tryz.func126, rfl, by kernel_rfl⟩
theorem en207 : En Tryz.prog 207 := ⟨_, Tryz.func207, rfl, by kernel_rfl⟩
theorem en146 : En Tryz.prog 146 := ⟨_, Tryz.func146, rfl, by kernel_rfl⟩
theorem en92 : En Tryz.prog 92 := ⟨_, Tryz.func92, rfl, by kernel_rfl⟩
theorem en190 : En Tryz.prog 190 := ⟨_, Tryz.func190, rfl, by kernel_rfl⟩
theorem en133 : En Tryz.prog 133 := ⟨_, Tryz.func133, rfl, by kernel_rfl⟩
theorem en150 : En Tryz.prog 150 := ⟨_, Tryz.func150, rfl, by kernel_rfl⟩
theorem en273 : En Tryz.prog 273 := ⟨_, Tryz.func273, rfl, by kernel_rfl⟩
theorem en274 : En Tryz.prog 274 := ⟨_, Tryz.func274, rfl, by kernel_rfl⟩
theorem en275 : En Tryz.prog 275 := ⟨_, Tryz.func275, rfl, by kernel_rfl⟩
theorem en267 : En Tryz.prog 267 := ⟨_, Tryz.func267, rfl, by kernel_rfl⟩
theorem en229 : En Tryz.prog 229 := ⟨_, Tryz.func229, rfl, by kernel_rfl⟩
theorem mt166_229 : Mt Tryz.prog 166 "matchguard/index.put" 229 := Mt.of1 (by kernel_rfl) Tryz.underlying166 rfl en229
theorem en237 : En Tryz.prog 237 := ⟨_, Tryz.func237, rfl, by kernel_rfl⟩
theorem mt169_237 : Mt Tryz.prog 169 "matchguard/index.put" 237 := Mt.of1 (by kernel_rfl) Tryz.underlying169 rfl en237
theorem en262 : En Tryz.prog 262 := ⟨_, Tryz.func262, rfl, by kernel_rfl⟩
theorem mt173_262 : Mt Tryz.prog 173 "matchguard/index.put" 262 := Mt.of1 (by kernel_rfl) Tryz.underlying173 rfl en262
theorem en44 : En Tryz.prog 44 := ⟨_, Tryz.func44, rfl, by kernel_rfl⟩
theorem en23 : En Tryz.prog 23 := ⟨_, Tryz.func23, rfl, by kernel_rfl⟩
inductive Cell where
  | c133 (x : List (Int × T_api_Installed))
  | c135 (x : T_index_Index)
  | c167 (x : List ((Vector T_api_Value 4) × Ref))
  | c222 (x : List ((Vector T_api_Value 4) × Int))
  | c224 (x : T_exact_Index)
  | c228 (x : T_ordered_List) (key : Option Nat) (cap : Nat)
  | c335 (x : T_trie_node)
  | c337 (x : T_trie_Trie)
instance : Cl Cell where
  ents p k := match k with
    | .c133 x => [⟨some p, .map x⟩]
    | .c135 x => [⟨some p, .var x⟩]
    | .c167 x => [⟨some p, .map x⟩]
    | .c222 x => [⟨some p, .map x⟩]
    | .c224 x => [⟨some p, .var x⟩]
    | .c228 x key cap => [⟨some p, .varX ({ x with f_l := [] } : T_ordered_List) [(10, slv key (x.f_l).length cap)]⟩, ⟨key, .row 52 (x.f_l : List T_api_Installed) cap⟩]
    | .c335 x => [⟨some p, .var x⟩]
    | .c337 x => [⟨some p, .var x⟩]
  root p k := by cases k <;> exact ⟨_, List.mem_cons_self .., rfl⟩
def rd133 (hp : Pool Cell) (p : Nat) : Option (List (Int × T_api_Installed)) := match pat hp p with
  | some (.c133 x) => some x
  | _ => none
theorem rds133 {hp : Pool Cell} {p : Nat} {x : List (Int × T_api_Installed)} (h : rd133 hp p = some x) : pat hp p = some (.c133 x) := by
  unfold rd133 at h
  split at h
  · rename_i h2; cases h; exact h2
  · cases h
def rd135 (hp : Pool Cell) (p : Nat) : Option (T_index_Index) := match pat hp p with
  | some (.c135 x) => some x
  | _ => none
theorem rds135 {hp : Pool Cell} {p : Nat} {x : T_index_Index} (h : rd135 hp p = some x) : pat hp p = some (.c135 x) := by
  unfold rd135 at h
  split at h
  · rename_i h2; cases h; exact h2
  · cases h
def rd167 (hp : Pool Cell) (p : Nat) : Option (List ((Vector T_api_Value 4) × Ref)) := match pat hp p with
  | some (.c167 x) => some x
  | _ => none
theorem rds167 {hp : Pool Cell} {p : Nat} {x : List ((Vector T_api_Value 4) × Ref)} (h : rd167 hp p = some x) : pat hp p = some (.c167 x) := by
  unfold rd167 at h
  split at h
  · rename_i h2; cases h; exact h2
  · cases h
def rd222 (hp : Pool Cell) (p : Nat) : Option (List ((Vector T_api_Value 4) × Int)) := match pat hp p with
  | some (.c222 x) => some x
  | _ => none
theorem rds222 {hp : Pool Cell} {p : Nat} {x : List ((Vector T_api_Value 4) × Int)} (h : rd222 hp p = some x) : pat hp p = some (.c222 x) := by
  unfold rd222 at h
  split at h
  · rename_i h2; cases h; exact h2
  · cases h
def rd224 (hp : Pool Cell) (p : Nat) : Option (T_exact_Index) := match pat hp p with
  | some (.c224 x) => some x
  | _ => none
theorem rds224 {hp : Pool Cell} {p : Nat} {x : T_exact_Index} (h : rd224 hp p = some x) : pat hp p = some (.c224 x) := by
  unfold rd224 at h
  split at h
  · rename_i h2; cases h; exact h2
  · cases h
def rd228 (hp : Pool Cell) (p : Nat) : Option (T_ordered_List × Option Nat × Nat) := match pat hp p with
  | some (.c228 x key cap) => some (x, key, cap)
  | _ => none
theorem rds228 {hp : Pool Cell} {p : Nat} {x : T_ordered_List × Option Nat × Nat} (h : rd228 hp p = some x) : pat hp p = some (.c228 x.1 x.2.1 x.2.2) := by
  unfold rd228 at h
  split at h
  · rename_i h2; cases h; exact h2
  · cases h
def rd335 (hp : Pool Cell) (p : Nat) : Option (T_trie_node) := match pat hp p with
  | some (.c335 x) => some x
  | _ => none
theorem rds335 {hp : Pool Cell} {p : Nat} {x : T_trie_node} (h : rd335 hp p = some x) : pat hp p = some (.c335 x) := by
  unfold rd335 at h
  split at h
  · rename_i h2; cases h; exact h2
  · cases h
def rd337 (hp : Pool Cell) (p : Nat) : Option (T_trie_Trie) := match pat hp p with
  | some (.c337 x) => some x
  | _ => none
theorem rds337 {hp : Pool Cell} {p : Nat} {x : T_trie_Trie} (h : rd337 hp p = some x) : pat hp p = some (.c337 x) := by
  unfold rd337 at h
  split at h
  · rename_i h2; cases h; exact h2
  · cases h
end Go.Proofs.YtmnggbjcnoffeaaGreat

