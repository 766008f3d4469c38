/-
  Fields, tables, keys and matches of the laws' cases: package matchguardcase, in plain Lean. Conditions: none.
-/
import Derived.Test.YtabodolbdalimaaSch
import Derived.Test.YtabodolbdalimaaMee
namespace Go.Proofs.Ytabodolbdalimaa
open Go Gv
set_option linter.unusedVariables false
set_option linter.unusedSimpArgs false
set_option maxRecDepth 100000

def BITS : List Int := [16, 16, 8, 4, 4, 8, 32, 12, 4]
theorem lget_map {α β : Type} [Inhabited α] [Inhabited β] (f : α → β) {l : List α} {k : Nat} (hk : k < l.length) : lget (l.map f) k = f (lget l k) := by
  rw [lget_eq l hk, lget_eq _ (by simpa using hk), List.getElem_map]
theorem SchOk.flen {s : T_api_Schema} (h : SchOk s) : s.f_Fields.length = 9 := by rw [← List.length_map (f := projF), h.fields]; rfl
theorem SchOk.tlen {s : T_api_Schema} (h : SchOk s) : s.f_Tables.length = 4 := by obtain ⟨b1, b2, b3, h1⟩ := h.tables; rw [← List.length_map (f := projT), h1]; rfl
theorem SchOk.alen {s : T_api_Schema} (h : SchOk s) : s.f_Actions.length = 6 := by rw [← List.length_map (f := projA), h.actions]; rfl
theorem SchOk.fld {s : T_api_Schema} (h : SchOk s) {k : Nat} (hk : k < 9) : (lget s.f_Fields k).f_ID = (k : Int) + 1 ∧ (lget s.f_Fields k).f_Bits = lget BITS k := by
  have h1 := lget_map projF (l := s.f_Fields) (k := k) (by rw [h.flen]; exact hk)
  rw [h.fields] at h1
  have h2 : lget FLDS k = ((k : Int) + 1, lget BITS k) := by
    have : k = 0 ∨ k = 1 ∨ k = 2 ∨ k = 3 ∨ k = 4 ∨ k = 5 ∨ k = 6 ∨ k = 7 ∨ k = 8 := by omega
    rcases this with rfl | rfl | rfl | rfl | rfl | rfl | rfl | rfl | rfl <;> rfl
  rw [h2] at h1
  simp only [projF, Prod.mk.injEq] at h1
  exact ⟨h1.1.symm, h1.2.symm⟩
def PARS : List (List Int) := [[], [], [16], [4], [4, 12], []]
theorem SchOk.act {s : T_api_Schema} (h : SchOk s) {k : Nat} (hk : k < 6) : (lget s.f_Actions k).f_ID = (k : Int) + 1 ∧ (lget s.f_Actions k).f_Params.map (·.f_Bits) = lget PARS k := by
  have h1 := lget_map projA (l := s.f_Actions) (k := k) (by rw [h.alen]; exact hk)
  rw [h.actions] at h1
  have h2 : lget ACTS k = ((k : Int) + 1, lget PARS k) := by
    have : k = 0 ∨ k = 1 ∨ k = 2 ∨ k = 3 ∨ k = 4 ∨ k = 5 := by omega
    rcases this with rfl | rfl | rfl | rfl | rfl | rfl <;> rfl
  rw [h2] at h1
  simp only [projA, Prod.mk.injEq] at h1
  exact ⟨h1.1.symm, h1.2.symm⟩

/-- a key of the cases: its field, its kind -/
def KeyOk (key : T_api_Key) : Prop := ∃ j : Nat, j < 9 ∧ key.f_Field = (j : Int) + 1 ∧ 1 ≤ key.f_Kind ∧ key.f_Kind ≤ 4 ∧ 4 ≤ lget BITS j ∧ lget BITS j ≤ 32 ∧ (key.f_Kind = 2 → j = 6)
/-- the bits of a key's field -/
def kb (key : T_api_Key) : Int := lget BITS (key.f_Field - 1).toNat
theorem SchOk.tab {s : T_api_Schema} (h : SchOk s) {k : Nat} (hk : k < 4) : (lget s.f_Tables k).f_ID = (k : Int) + 1 ∧
    (1 ≤ (lget s.f_Tables k).f_Keys.length ∧ (lget s.f_Tables k).f_Keys.length ≤ 3) ∧ (∀ key ∈ (lget s.f_Tables k).f_Keys, KeyOk key) ∧
    (1 ≤ (lget s.f_Tables k).f_Actions.length ∧ (lget s.f_Tables k).f_Actions.length ≤ 5) ∧ (∀ a ∈ (lget s.f_Tables k).f_Actions, 1 ≤ a ∧ a ≤ 6) := by
  obtain ⟨b1, b2, b3, ht⟩ := h.tables
  have h1 := lget_map projT (l := s.f_Tables) (k := k) (by rw [h.tlen]; exact hk)
  rw [ht] at h1
  have h2 : ∀ p : Int × List Int × List T_api_Key, p = projT (lget s.f_Tables k) → p.1 = (k : Int) + 1 → (1 ≤ p.2.2.length ∧ p.2.2.length ≤ 3) → (∀ key ∈ p.2.2, KeyOk key) →
      (1 ≤ p.2.1.length ∧ p.2.1.length ≤ 5) → (∀ a ∈ p.2.1, 1 ≤ a ∧ a ≤ 6) → (lget s.f_Tables k).f_ID = (k : Int) + 1 ∧
    (1 ≤ (lget s.f_Tables k).f_Keys.length ∧ (lget s.f_Tables k).f_Keys.length ≤ 3) ∧ (∀ key ∈ (lget s.f_Tables k).f_Keys, KeyOk key) ∧
    (1 ≤ (lget s.f_Tables k).f_Actions.length ∧ (lget s.f_Tables k).f_Actions.length ≤ 5) ∧ (∀ a ∈ (lget s.f_Tables k).f_Actions, 1 ≤ a ∧ a ≤ 6) := by
    rintro p rfl a b c d e
    exact ⟨a, b, c, d, e⟩
  have a0 : (1 ≤ ([1, 2, 4] : List Int).length ∧ ([1, 2, 4] : List Int).length ≤ 5) ∧ ∀ a ∈ ([1, 2, 4] : List Int), 1 ≤ a ∧ a ≤ 6 := by decide
  have a1 : (1 ≤ ([1, 2, 3, 4] : List Int).length ∧ ([1, 2, 3, 4] : List Int).length ≤ 5) ∧ ∀ a ∈ ([1, 2, 3, 4] : List Int), 1 ≤ a ∧ a ≤ 6 := by decide
  have a2 : (1 ≤ ([1, 2, 3, 5, 6] : List Int).length ∧ ([1, 2, 3, 5, 6] : List Int).length ≤ 5) ∧ ∀ a ∈ ([1, 2, 3, 5, 6] : List Int), 1 ≤ a ∧ a ≤ 6 := by decide
  have a3 : (1 ≤ ([1, 3, 5] : List Int).length ∧ ([1, 3, 5] : List Int).length ≤ 5) ∧ ∀ a ∈ ([1, 3, 5] : List Int), 1 ≤ a ∧ a ≤ 6 := by decide
  have kA_ok : KeyOk kA := ⟨3, by decide, rfl, by decide, by decide, by decide, by decide, by decide⟩
  have kA3_ok : KeyOk kA3 := ⟨3, by decide, rfl, by decide, by decide, by decide, by decide, by decide⟩
  have kB_ok : KeyOk kB := ⟨4, by decide, rfl, by decide, by decide, by decide, by decide, by decide⟩
  have kD_ok : KeyOk kD := ⟨6, by decide, rfl, by decide, by decide, by decide, by decide, by decide⟩
  have kM_ok : KeyOk kM := ⟨2, by decide, rfl, by decide, by decide, by decide, by decide, by decide⟩
  have kE_ok : KeyOk kE := ⟨5, by decide, rfl, by decide, by decide, by decide, by decide, by decide⟩
  have kF_ok : KeyOk kF := ⟨7, by decide, rfl, by decide, by decide, by decide, by decide, by decide⟩
  have kG_ok : KeyOk kG := ⟨8, by decide, rfl, by decide, by decide, by decide, by decide, by decide⟩
  have : k = 0 ∨ k = 1 ∨ k = 2 ∨ k = 3 := by omega
  rcases this with rfl | rfl | rfl | rfl
  · refine h2 _ h1 rfl (show 1 ≤ [kA].length ∧ [kA].length ≤ 3 by decide) ?_ a0.1 a0.2
    intro key hkey
    rcases List.mem_singleton.1 hkey with rfl
    exact kA_ok
  · refine h2 _ h1 rfl ?_ ?_ a1.1 a1.2
    · show 1 ≤ (keys2 b1).length ∧ (keys2 b1).length ≤ 3
      cases b1 <;> decide
    · intro key hkey
      replace hkey : key ∈ keys2 b1 := hkey
      cases b1 <;> simp only [keys2, List.mem_cons, List.not_mem_nil, or_false, if_true, if_false, Bool.false_eq_true] at hkey
      · subst hkey; exact kD_ok
      · rcases hkey with rfl | rfl; exact kD_ok; exact kM_ok
  · refine h2 _ h1 rfl ?_ ?_ a2.1 a2.2
    · show 1 ≤ (keys3 b2).length ∧ (keys3 b2).length ≤ 3
      cases b2 <;> decide
    · intro key hkey
      replace hkey : key ∈ keys3 b2 := hkey
      cases b2 <;> simp only [keys3, List.mem_cons, List.not_mem_nil, or_false, if_true, if_false, Bool.false_eq_true] at hkey
      · rcases hkey with rfl | rfl; exact kE_ok; exact kA3_ok
      · rcases hkey with rfl | rfl | rfl; exact kE_ok; exact kA3_ok; exact kB_ok
  · refine h2 _ h1 rfl ?_ ?_ a3.1 a3.2
    · show 1 ≤ (keys4 b3).length ∧ (keys4 b3).length ≤ 3
      cases b3 <;> decide
    · intro key hkey
      replace hkey : key ∈ keys4 b3 := hkey
      cases b3 <;> simp only [keys4, List.mem_cons, List.not_mem_nil, or_false, if_true, if_false, Bool.false_eq_true] at hkey
      · subst hkey; exact kF_ok
      · rcases hkey with rfl | rfl | rfl; exact kF_ok; exact kG_ok; exact kD_ok

theorem mbitsOf_ok {s : T_api_Schema} (h : SchOk s) {j : Nat} (hj : j < 9) : Tot (L_mcase_bitsOf s ((j : Int) + 1)) (fun r => r = lget BITS j) := by
  unfold L_mcase_bitsOf
  have hl := h.flen
  refine Tot.loop j (fun k s => s = (k : Int)) (by omega) rfl (fun k i hk hi => ?_) (fun i hi => ?_)
  · subst hi
    refine Tot.cond (fun _ => ?_) (fun h => by simp at h; omega)
    refine .idx rfl (by omega) (.cond (fun hc => ?_) (fun hc => .ret (w64_succ (by omega))))
    have := (h.fld (show k < 9 by omega)).1
    simp only [this, beq_iff_eq] at hc
    omega
  · subst hi
    have h1 : decide ((j : Int) < (s.f_Fields.length : Int)) = true := by simp; omega
    have h2 : ((lget s.f_Fields j).f_ID == (j : Int) + 1) = true := by rw [(h.fld hj).1]; simp
    rw [h1]
    simp only [cond_true]
    rw [idx_nat (by omega)]
    simp only [Option.bind_some, h2, cond_true]
    exact ⟨_, rfl, .ret (h.fld hj).2⟩

theorem ActionIn_ok {s : T_api_Schema} (h : SchOk s) {j : Nat} (hj : j < 6) : Tot (L_mcase_ActionIn s ((j : Int) + 1)) (fun r => r = lget s.f_Actions j) := by
  unfold L_mcase_ActionIn
  have hl := h.alen
  refine Tot.loop j (fun k s => s = (k : Int)) (by omega) rfl (fun k i hk hi => ?_) (fun i hi => ?_)
  · subst hi
    refine Tot.cond (fun _ => ?_) (fun h => by simp at h; omega)
    refine .idx rfl (by omega) (.cond (fun hc => ?_) (fun hc => .ret (w64_succ (by omega))))
    have := (h.act (show k < 6 by omega)).1
    simp only [this, beq_iff_eq] at hc
    omega
  · subst hi
    have h1 : decide ((j : Int) < (s.f_Actions.length : Int)) = true := by simp; omega
    have h2 : ((lget s.f_Actions j).f_ID == (j : Int) + 1) = true := by rw [(h.act hj).1]; simp
    rw [h1]
    simp only [cond_true]
    rw [idx_nat (by omega)]
    simp only [Option.bind_some, h2, cond_true]
    exact ⟨_, rfl, .ret rfl⟩

theorem Mod_tot (x : Int) (n : Int) (h1 : 1 ≤ n) (h2 : n ≤ 1000000) : Tot (L_mcase_Mod x n) (fun r => 0 ≤ r ∧ r < n) := by
  unfold L_mcase_Mod
  refine .cond (fun h => by simp at h; omega) fun _ => ?_
  have hm : ∀ y : Int, modM y n = some (y.tmod n) := fun y => by unfold modM; rw [if_neg (by omega)]
  refine .eq (hm _) ?_
  have h3 := Int.tmod_lt_of_pos x (show 0 < n by omega)
  have h4 : -n < x.tmod n := by
    have := Int.tmod_lt_of_pos (-x) (show 0 < n by omega)
    rw [Int.neg_tmod] at this; omega
  rw [w64_in (by omega) (by omega)]
  exact .eq (hm _) (.ret ⟨Int.tmod_nonneg _ (by omega), Int.tmod_lt_of_pos _ (by omega)⟩)

theorem low_bits {n : Nat} (hn : n < 64) (j : Nat) : (((1#64) <<< n) - 1#64).getLsbD j = decide (j < n) := by
  have h1 : (((1#64) <<< n) - 1#64).toNat = 2 ^ n - 1 := by
    have h2 : ((1#64) <<< n).toNat = 2 ^ n := by
      rw [BitVec.toNat_shiftLeft, BitVec.toNat_ofNat, Nat.shiftLeft_eq]
      have := Nat.pow_lt_pow_right (show 1 < 2 by omega) hn
      rw [show (1 % 2 ^ 64 : Nat) = 1 from rfl, Nat.one_mul]
      exact Nat.mod_eq_of_lt this
    have h3 : 1 ≤ 2 ^ n := Nat.one_le_two_pow
    have h4 := Nat.pow_lt_pow_right (show 1 < 2 by omega) hn
    rw [BitVec.toNat_sub, h2]
    simp only [BitVec.toNat_ofNat]
    omega
  rw [← BitVec.testBit_toNat, h1, Nat.testBit_two_pow_sub_one]

theorem Low_vb (x : T_api_Value) (n : Int) (h0 : 0 ≤ n) (h1 : n < 1000) : Tot (L_mcase_Low x n) (fun r => ∀ j, j < 128 → vb r j = (vb x j && decide ((j : Int) < n))) := by
  unfold L_mcase_Low
  obtain ⟨m, rfl⟩ := Int.eq_ofNat_of_zero_le h0
  refine .cond (fun h => .ret fun j hj => ?_) fun h => .cond (fun h' => .eq rfl (.ret fun j hj => ?_)) fun h' => .cond (fun h'' => .ret fun j hj => ?_) fun h'' => .eq rfl (.eq rfl (.ret fun j hj => ?_))
  · simp only [decide_eq_true_eq] at h
    have : decide ((j : Int) < (m : Int)) = true := by simp; omega
    rw [this, Bool.and_true]
  · simp only [decide_eq_true_eq, decide_eq_false_iff_not] at h h'
    have e : w64 ((m : Int) - 64) = ((m - 64 : Nat) : Int) := by rw [w64_in (by omega) (by omega)]; omega
    simp only [vb, e, cnt_nat (show m - 64 < 2 ^ 64 by omega), BitVec.getLsbD_and, low_bits (show m - 64 < 64 by omega)]
    split
    · have : decide ((j : Int) < (m : Int)) = true := by simp; omega
      rw [this, Bool.and_true]
    · congr 1; rw [decide_eq_decide]; omega
  · simp only [decide_eq_true_eq] at h''
    have : decide ((j : Int) < (m : Int)) = false := by simp; omega
    rw [vb_zero, this, Bool.and_false]
  · simp only [decide_eq_true_eq, decide_eq_false_iff_not] at h h' h''
    simp only [vb, cnt_nat (show m < 2 ^ 64 by omega), BitVec.getLsbD_and, low_bits (show m < 64 by omega)]
    split
    · congr 1; rw [decide_eq_decide]; omega
    · have : decide ((j : Int) < (m : Int)) = false := by simp; omega
      rw [this, Bool.and_false]; exact BitVec.getLsbD_zero

/-- the low word alone -/
theorem vb_lo (w : BitVec 64) (j : Nat) : vb { (default : T_api_Value) with f_Lo := w } j = w.getLsbD j := by
  unfold vb
  split
  · rfl
  · rw [BitVec.getLsbD_of_ge w j (by omega)]; exact BitVec.getLsbD_zero

/-- a match of the cases -/
structure MatOk (kind b : Int) (m : T_api_Match) : Prop where
  off : m.f_Present = false → m = default
  exa : kind = 1 → m.f_Present = true
  low : kind = 1 → ∀ j, j < 128 → vb m.f_Value j = true → (j : Int) < b
  mlo : kind = 3 → ∀ j, j < 128 → vb m.f_Mask j = true → (j : Int) < b
  ter : kind = 3 → ∀ j, j < 128 → vb m.f_Value j = true → vb m.f_Mask j = true

theorem MatOk_def {kind b : Int} (h : kind ≠ 1) : MatOk kind b default :=
  ⟨fun _ => rfl, fun k => absurd k h, fun k => absurd k h, fun _ j _ hv => (by rw [show (default : T_api_Match).f_Mask = default from rfl, vb_zero] at hv; cases hv),
   fun _ j _ hv => (by rw [show (default : T_api_Match).f_Value = default from rfl, vb_zero] at hv; cases hv)⟩

theorem match_tot (c : T_mcase_Codes) {s : T_api_Schema} (key : T_api_Key) (hc : CdOk c) (h : SchOk s) (hk : KeyOk key) :
    Tot (L_mcase_Codes_match c s key) (fun r => CdOk r.2 ∧ MatOk key.f_Kind (kb key) r.1) := by
  obtain ⟨j, hj, hf, k1, k4, b4, b32, hk2⟩ := hk
  have hb : kb key = lget BITS j := by unfold kb; rw [hf]; congr 1; omega
  unfold L_mcase_Codes_match
  rw [hf]
  refine (mbitsOf_ok h hj).bind fun y1 e1 => ?_
  rw [hb]
  subst e1
  generalize hB : lget BITS j = b at *
  refine .bind (Next_tot _ 256 hc (by omega)) fun y2 h2 => .bind (Next_tot _ 16 h2.1 (by omega)) fun y3 h3 => .eq rfl (.bind (Next_tot _ 16 h3.1 (by omega)) fun y4 h4 => .eq rfl ?_)
  refine .bind (Low_vb _ b (by omega) (by omega)) fun y5 h5 => ?_
  refine .cond (fun q => ?_) fun q => ?_
  · have q : key.f_Kind = 2 := by simpa using q
    refine .bind (Next_tot _ 5 h4.1 (by omega)) fun y6 h6 => .cond (fun _ => ?_) fun _ => .ret ⟨h6.1, MatOk_def (by omega)⟩
    refine .bind (Next_tot _ b h6.1 (by omega)) fun y7 h7 => .bind (Next_tot _ 5 h7.1 (by omega)) fun y8 h8 => ?_
    refine .eq (idx_int h8.2.1 (by simpa using h8.2.2.1)) ?_
    unfold L_mcase_mask
    exact .eq rfl (.eq rfl (.eq rfl (.ret ⟨h8.1, fun h => (by cases h), fun h => (by omega), fun h => by omega, fun h => (by omega), fun h => (by omega)⟩)))
  refine .cond (fun q3 => ?_) fun q3 => ?_
  · have q3 : key.f_Kind = 3 := by simpa using q3
    refine .bind (Next_tot _ 256 h4.1 (by omega)) fun y10 h10 => .bind (Next_tot _ 5 h10.1 (by omega)) fun y11 h11 => ?_
    refine .eq (idx_int h11.2.1 (by simpa using h11.2.2.1)) (.eq rfl (.bind (Low_vb _ b (by omega) (by omega)) fun y12 h12 => ?_))
    refine .cond (fun _ => ?_) fun _ => .ret ⟨h11.1, MatOk_def (by omega)⟩
    refine .eq rfl (.eq rfl (.ret ⟨h11.1, fun h => (by cases h), fun h => (by omega), fun h => by omega, fun _ i hi hv => ?_, fun _ i hi hv => ?_⟩))
    · have h13 := h12 i hi
      simp only at hv
      rw [hv] at h13
      have := h13.symm
      simp only [Bool.and_eq_true, decide_eq_true_eq] at this
      exact this.2
    · simp only at hv ⊢
      rw [vb_lo, BitVec.getLsbD_and, Bool.and_eq_true] at hv
      have hi6 : i < 64 := by
        rcases Nat.lt_or_ge i 64 with h | h
        · exact h
        · rw [BitVec.getLsbD_of_ge _ i h] at hv; cases hv.1
      unfold vb; rw [if_pos hi6]; exact hv.2
  refine .cond (fun q4 => ?_) fun q4 => ?_
  · have q4 : key.f_Kind = 4 := by simpa using q4
    refine .bind (Next_tot _ 256 h4.1 (by omega)) fun y13 h13 => .eq rfl (.bind (Next_tot _ 5 h13.1 (by omega)) fun y14 h14 => .eq rfl (.cond (fun _ => ?_) fun _ => .ret ⟨h14.1, MatOk_def (by omega)⟩))
    exact .eq rfl (.ret ⟨h14.1, fun h => (by cases h), fun h => (by omega), fun h => by omega, fun h => (by omega), fun h => (by omega)⟩)
  · have q1 : key.f_Kind = 1 := by
      simp only [beq_eq_false_iff_ne] at q q3 q4
      omega
    refine .eq rfl (.ret ⟨h4.1, fun h => (by cases h), fun _ => rfl, fun _ i hi hv => ?_, fun h => (by omega), fun h => (by omega)⟩)
    have h13 := h5 i hi
    simp only at hv
    rw [hv] at h13
    have := h13.symm
    simp only [Bool.and_eq_true, decide_eq_true_eq] at this
    exact this.2

/-- an entry of the cases -/
structure EntOk (s : T_api_Schema) (k : Nat) (e : T_api_Entry) : Prop where
  tab : e.f_Table = (k : Int) + 1
  len : e.f_Matches.length = (lget s.f_Tables k).f_Keys.length
  mat : ∀ i, i < (lget s.f_Tables k).f_Keys.length → MatOk (lget (lget s.f_Tables k).f_Keys i).f_Kind (kb (lget (lget s.f_Tables k).f_Keys i)) (lget e.f_Matches i)

theorem lget_snoc {α : Type} [Inhabited α] (l : List α) (x : α) (i : Nat) : lget (l ++ [x]) i = if i = l.length then x else lget l i := by
  unfold lget
  by_cases h : i = l.length
  · subst h; simp
  · rw [if_neg h]
    rcases Nat.lt_or_ge i l.length with h1 | h1
    · rw [List.getElem?_append_left h1]
    · rw [List.getElem?_eq_none (by simp; omega), List.getElem?_eq_none h1]

theorem Entry_tot (c : T_mcase_Codes) {s : T_api_Schema} (x : Int) (hc : CdOk c) (h : SchOk s) :
    Tot (L_mcase_Codes_Entry c s x) (fun r => CdOk r.2 ∧ ∃ k : Nat, k < 4 ∧ L_mcase_Mod x (s.f_Tables.length : Int) = some (k : Int) ∧ EntOk s k r.1) := by
  unfold L_mcase_Codes_Entry
  obtain ⟨y1, e1, h0, h1⟩ := Mod_tot x (s.f_Tables.length : Int) (by rw [h.tlen]; omega) (by rw [h.tlen]; omega)
  obtain ⟨k, rfl⟩ := Int.eq_ofNat_of_zero_le h0
  have hk : k < 4 := by have := h.tlen; omega
  obtain ⟨t1, ⟨t2, t3⟩, t4, ⟨t5, t6⟩, t7⟩ := h.tab hk
  refine .eq e1 (.idx rfl (by have := h.tlen; omega) ?_)
  refine Tot.loop (lget s.f_Tables k).f_Keys.length (fun i st => st.1 = (i : Int) ∧ st.2.1.f_Table = (k : Int) + 1 ∧ st.2.2.1.length = i ∧ CdOk st.2.2.2 ∧
    ∀ j, j < i → MatOk (lget (lget s.f_Tables k).f_Keys j).f_Kind (kb (lget (lget s.f_Tables k).f_Keys j)) (lget st.2.2.1 j)) (by omega) ⟨rfl, t1, rfl, hc, fun j hj => by omega⟩ (fun i st hi hs => ?_) (fun st hs => ?_)
  · obtain ⟨i', e, ms, cd⟩ := st; obtain ⟨e2, e3, e4, e5, e6⟩ := hs
    simp only at e2 e3 e4 e5 e6; subst e2
    refine Tot.cond (fun _ => ?_) (fun h => by simp at h; omega)
    refine .idx rfl hi (.bind (match_tot _ _ e5 h (t4 _ (by rw [lget_eq _ hi]; exact List.getElem_mem hi))) fun y2 h2 => .eq (app_small _ _ (by simp; omega) (by omega)) (.eq rfl ?_))
    refine .bind (P := fun m => m.1.f_Table = (k : Int) + 1 ∧ CdOk m.2) (.cond (fun _ => .bind (Next_tot _ 5 h2.1 (by omega)) fun y4 h4 => .eq rfl (.ret ⟨e3, h4.1⟩)) (fun _ => .ret ⟨e3, h2.1⟩)) fun m1 hm1 => ?_
    refine .ret ⟨w64_succ (by omega), hm1.1, by simp; omega, hm1.2, fun j hj => ?_⟩
    simp only [lget_snoc]
    by_cases hj2 : j = ms.length
    · rw [if_pos hj2]; rw [hj2, e4]; exact h2.2
    · rw [if_neg hj2]; exact e6 j (by omega)
  · obtain ⟨i', e, ms, cd⟩ := st; obtain ⟨e2, e3, e4, e5, e6⟩ := hs
    simp only at e2 e3 e4 e5 e6; subst e2
    refine ⟨_, by simp; rfl, ?_⟩
    refine .bind (Next_tot _ _ e5 (by omega)) fun y5 h5 => ?_
    refine .eq (idx_int h5.2.1 h5.2.2.1) (.eq rfl ?_)
    have ha : 1 ≤ lget (lget s.f_Tables k).f_Actions y5.1.toNat ∧ lget (lget s.f_Tables k).f_Actions y5.1.toNat ≤ 6 := t7 _ (by
      have hlt : y5.1.toNat < (lget s.f_Tables k).f_Actions.length := by have := h5.2.1; have := h5.2.2.1; omega
      rw [lget_eq _ hlt]; exact List.getElem_mem hlt)
    obtain ⟨a, hA⟩ := Int.eq_ofNat_of_zero_le (show 0 ≤ lget (lget s.f_Tables k).f_Actions y5.1.toNat - 1 by omega)
    have hA2 : lget (lget s.f_Tables k).f_Actions y5.1.toNat = (a : Int) + 1 := by omega
    simp only [hA2]
    refine .bind (ActionIn_ok h (show a < 6 by omega)) fun y6 h6 => ?_
    obtain ⟨p1, p2⟩ := h.act (show a < 6 by omega)
    rw [← h6] at p2
    have hp : y6.f_Params.length ≤ 10 ∧ ∀ i, i < y6.f_Params.length → 0 ≤ (lget y6.f_Params i).f_Bits ∧ (lget y6.f_Params i).f_Bits < 1000 := by
      have hq : ∀ l ∈ PARS, l.length ≤ 10 ∧ ∀ b ∈ l, 0 ≤ b ∧ b < 1000 := by decide
      have hm : lget PARS a ∈ PARS := by rw [lget_eq PARS (show a < PARS.length by simp [PARS]; omega)]; exact List.getElem_mem _
      obtain ⟨q1, q2⟩ := hq _ hm
      rw [← p2] at q1 q2
      refine ⟨by simpa using q1, fun i hi => q2 _ ?_⟩
      rw [lget_eq _ hi]
      exact List.mem_map.2 ⟨_, List.getElem_mem hi, rfl⟩
    refine Tot.loop y6.f_Params.length (fun i st => st.1 = (i : Int) ∧ st.2.1.f_Table = (k : Int) + 1 ∧ st.2.2.1.length = i ∧ CdOk st.2.2.2) (by omega) ⟨rfl, e3, rfl, h5.1⟩ (fun i st hi hs => ?_) (fun st hs => ?_)
    · obtain ⟨i', e', vs, cd'⟩ := st; obtain ⟨f2, f3, f4, f5⟩ := hs
      simp only at f2 f3 f4 f5; subst f2
      refine Tot.cond (fun _ => ?_) (fun h => by simp at h; omega)
      refine .idx rfl hi (.bind (Next_tot _ 256 f5 (by omega)) fun y7 h7 => .eq rfl (.bind (Low_vb _ _ (hp.2 i hi).1 (hp.2 i hi).2) fun y8 h8 => .eq (app_small _ _ (by have := hp.1; simp; omega) (by omega)) (.ret ⟨w64_succ (by have := hp.1; omega), f3, by simp; omega, h7.1⟩)))
    · obtain ⟨i', e', vs, cd'⟩ := st; obtain ⟨f2, f3, f4, f5⟩ := hs
      simp only at f2 f3 f4 f5; subst f2
      refine ⟨_, by simp; rfl, ?_⟩
      exact .eq rfl (.ret ⟨f5, k, hk, e1, f3, e4, e6⟩)
end Go.Proofs.Ytabodolbdalimaa
