/-
  The law ShadowBudget. Plain Lean. Conditions: none.
-/
import Derived.Test.YtodajdohokmjnaaCox
import Derived.Test.YtodajdohokmjnaaSch
namespace Go.Proofs.Ytodajdohokmjnaa
open Go Gv
set_option linter.unusedVariables false
set_option linter.unusedSimpArgs false
set_option maxRecDepth 100000

/-- what the schema of no codes is -/
def bdN := (L_mcase_New ([] : List (BitVec 8)) 0).elim default id
def bdY := (L_mcase_Codes_Schema bdN).elim default id
def bdS : T_api_Schema := bdY.1
def bdMatch (i : Nat) : T_api_Match := { (default : T_api_Match) with f_Present := true, f_Mask := { (default : T_api_Value) with f_Lo := 255#64 }, f_Value := { (default : T_api_Value) with f_Lo := BitVec.ofNat 64 i } }
def bdI (i : Nat) : T_api_Installed := { (default : T_api_Installed) with f_Entry := { (default : T_api_Entry) with f_Table := 3, f_Matches := [bdMatch i, default], f_Priority := 9, f_Action := 1 }, f_Number := (i : Int) + 1 }
def bdL (n : Nat) : List T_api_Installed := (List.range n).map bdI
def bdZ : T_api_Installed := { (default : T_api_Installed) with f_Entry := { (default : T_api_Entry) with f_Table := 3, f_Matches := [default, default], f_Priority := 1, f_Action := 1 }, f_Number := 90 }
/-- the cube of an entry -/
def bdC (i : Nat) : T_cube_Cube := { f_Value := vset default 0 { (default : T_api_Value) with f_Lo := BitVec.ofNat 64 i }, f_Mask := vset default 0 { (default : T_api_Value) with f_Lo := 255#64 } }
def bdW (n : Nat) : List T_cube_Cube := (List.range n).map bdC
def bdQ (n : Nat) : Vector T_api_Value 4 := vset default 0 { (default : T_api_Value) with f_Lo := BitVec.ofNat 64 n }

theorem bq15 : L_shadow_question bdS (bdL 15 ++ [bdZ]) 90 = some (default, bdW 15, 0) := by kernel_rfl
theorem bq16 : L_shadow_question bdS (bdL 16 ++ [bdZ]) 90 = some (default, bdW 16, 0) := by kernel_rfl

/-- bits 120 .. 127 of a point, as one byte -/
def by8 (q : Vector T_api_Value 4) : BitVec 8 := (vget q 0).f_Lo.setWidth 8
theorem by8_bit (q : Vector T_api_Value 4) {k : Nat} (hk : k < 8) : cv q (120 + k) = (by8 q).getMsbD k := by
  unfold cv by8 vb
  rw [show (120 + k) / 128 = 0 by omega, show 127 - (120 + k) % 128 = 7 - k by omega, if_pos (by omega)]
  simp [BitVec.getMsbD, hk]
  omega

theorem cv_bdC_mask {i j : Nat} (hj : j < 512) : cv (bdC i).f_Mask j = true ↔ 120 ≤ j ∧ j < 128 := by
  have h : ∀ j, j < 512 → cv (vset (default : Vector T_api_Value 4) 0 { (default : T_api_Value) with f_Lo := 255#64 }) j = (decide (120 ≤ j) && decide (j < 128)) := by
    have : (List.range 512).all (fun j => cv (vset (default : Vector T_api_Value 4) 0 { (default : T_api_Value) with f_Lo := 255#64 }) j == (decide (120 ≤ j) && decide (j < 128))) = true := by kernel_rfl
    intro j hj
    have := List.all_eq_true.1 this j (List.mem_range.2 hj)
    simpa using this
  show cv (vset (default : Vector T_api_Value 4) 0 { (default : T_api_Value) with f_Lo := 255#64 }) j = true ↔ _
  rw [h j hj]; simp

theorem vget_bdQ0 (v : T_api_Value) : vget (vset (default : Vector T_api_Value 4) 0 v) 0 = v := by
  unfold vget vset
  rw [Vector.getElem?_setIfInBounds]
  simp
theorem vget_bdQ {v : T_api_Value} {k : Nat} (hk : k ≠ 0) : vget (vset (default : Vector T_api_Value 4) 0 v) k = default := by
  unfold vget vset
  rw [Vector.getElem?_setIfInBounds, if_neg (fun h => hk h.symm)]
  show (Vector.replicate 4 (default : T_api_Value))[k]?.getD default = default
  by_cases h : k < 4
  · simp [h]
  · rw [Vector.getElem?_eq_none (by omega)]; rfl
theorem vb_def (j : Nat) : vb (default : T_api_Value) j = false := by
  unfold vb
  split
  · show (0#64).getLsbD _ = false
    simp
  · show (0#64).getLsbD _ = false
    simp
theorem cv_bdQ_hi {n : Nat} (hn : n < 256) {j : Nat} (hj : j < 512) (h : cv (bdQ n) j = true) : 120 ≤ j ∧ j < 128 := by
  unfold cv bdQ at h
  by_cases h0 : j / 128 = 0
  · rw [h0, vget_bdQ0] at h
    unfold vb at h
    split at h
    · rename_i h1
      replace h : (BitVec.ofNat 64 n).getLsbD (127 - j % 128) = true := h
      rw [BitVec.getLsbD_ofNat] at h
      have h2 : n.testBit (127 - j % 128) = true := by simp at h; exact h.2
      have h3 := Nat.ge_two_pow_of_testBit h2
      have : 127 - j % 128 < 8 := by
        false_or_by_contra
        rename_i h4
        have := Nat.pow_le_pow_right (n := 2) (by omega) (show 8 ≤ 127 - j % 128 by omega)
        omega
      omega
    · replace h : (0#64).getLsbD _ = true := h
      simp at h
  · rw [vget_bdQ h0, vb_def] at h
    cases h
theorem by8_bdQ (n : Nat) : by8 (bdQ n) = BitVec.ofNat 8 n := by
  unfold by8 bdQ
  rw [vget_bdQ0]
  show (BitVec.ofNat 64 n).setWidth 8 = _
  exact BitVec.setWidth_ofNat_of_le (by omega) n

theorem bdC_can (i : Nat) (hi : i < 256) : can (bdC i) := fun j hj h => (cv_bdC_mask hj).2 (cv_bdQ_hi hi hj h)
theorem def_mask (j : Nat) : cv (default : T_cube_Cube).f_Mask j = false := by
  show cv (default : Vector T_api_Value 4) j = false
  unfold cv vget
  have : (default : Vector T_api_Value 4)[j / 128]?.getD default = default := by
    show (Vector.replicate 4 (default : T_api_Value))[j / 128]?.getD default = default
    by_cases h : j / 128 < 4
    · simp [h]
    · rw [Vector.getElem?_eq_none (by omega)]; rfl
  rw [this]
  unfold vb
  split
  · show (0#64).getLsbD _ = false
    simp
  · show (0#64).getLsbD _ = false
    simp
theorem def_can : can (default : T_cube_Cube) := fun j _ h => by
  have : cv (default : T_cube_Cube).f_Value j = cv (default : T_cube_Cube).f_Mask j := rfl
  rw [this, def_mask] at h; cases h
theorem def_in (q : Vector T_api_Value 4) : inB default q = true := (in_iff def_can).2 fun i _ h => by rw [def_mask] at h; cases h

theorem bdC_in {i : Nat} (hi : i < 256) (q : Vector T_api_Value 4) : inB (bdC i) q = true ↔ by8 q = BitVec.ofNat 8 i := by
  rw [in_iff (bdC_can i hi)]
  have hv : ∀ k, k < 8 → cv (bdC i).f_Value (120 + k) = (BitVec.ofNat 8 i).getMsbD k := fun k hk => by
    show cv (bdQ i) (120 + k) = _
    rw [by8_bit _ hk, by8_bdQ]
  constructor
  · intro h
    refine BitVec.eq_of_getMsbD_eq fun k hk => ?_
    rw [← by8_bit q hk, h (120 + k) (by omega) ((cv_bdC_mask (by omega)).2 (by omega)), hv k hk]
  · intro h j hj hm
    obtain ⟨h1, h2⟩ := (cv_bdC_mask hj).1 hm
    obtain ⟨k, rfl⟩ : ∃ k, j = 120 + k := ⟨j - 120, by omega⟩
    rw [hv k (by omega), by8_bit q (by omega), h]

theorem lex8 : ∀ (m b : BitVec 8), m.toNat < 17 → m.toNat ≤ b.toNat → b ≠ m → ∃ i : Fin 8, m.getMsbD i = false ∧ b.getMsbD i = true ∧ ∀ j : Fin 8, j < i → m.getMsbD j = b.getMsbD j := by
  intro m b h17 hle hne
  -- the first place at which they part
  have hex : ∃ i, i < 8 ∧ m.getMsbD i ≠ b.getMsbD i := by
    false_or_by_contra
    rename_i h
    exact hne (BitVec.eq_of_getMsbD_eq fun i hi => by
      false_or_by_contra
      rename_i h2
      exact h ⟨i, hi, fun e => h2 e.symm⟩)
  obtain ⟨i, ⟨hi, hd⟩, hmin⟩ : ∃ i, (i < 8 ∧ m.getMsbD i ≠ b.getMsbD i) ∧ ∀ j, j < i → ¬ (j < 8 ∧ m.getMsbD j ≠ b.getMsbD j) := by
    have : ∀ n, (∃ i, i < n ∧ (i < 8 ∧ m.getMsbD i ≠ b.getMsbD i)) → ∃ i, (i < 8 ∧ m.getMsbD i ≠ b.getMsbD i) ∧ ∀ j, j < i → ¬ (j < 8 ∧ m.getMsbD j ≠ b.getMsbD j) := by
      intro n
      induction n with
      | zero => rintro ⟨i, h, _⟩; omega
      | succ n ih =>
        rintro ⟨i, h1, h2⟩
        by_cases h : ∃ i, i < n ∧ (i < 8 ∧ m.getMsbD i ≠ b.getMsbD i)
        · exact ih h
        · refine ⟨i, h2, fun j hj hj2 => h ⟨j, by omega, hj2⟩⟩
    obtain ⟨i, h1, h2⟩ := hex
    exact this 8 ⟨i, h1, h1, h2⟩
  have hsame : ∀ j, j < i → m.getMsbD j = b.getMsbD j := fun j hj => by
    false_or_by_contra
    rename_i h
    exact hmin j hj ⟨by omega, h⟩
  have key : ((List.range 17).all fun x => (List.range 256).all fun y => (List.range 8).all fun i => !(decide (x ≤ y)) || !((BitVec.ofNat 8 x).getMsbD i && !(BitVec.ofNat 8 y).getMsbD i) || !((List.range i).all fun j => (BitVec.ofNat 8 x).getMsbD j == (BitVec.ofNat 8 y).getMsbD j)) = true := by kernel_rfl
  have h := List.all_eq_true.1 (List.all_eq_true.1 (List.all_eq_true.1 key m.toNat (List.mem_range.2 h17)) b.toNat (List.mem_range.2 b.isLt)) i (List.mem_range.2 hi)
  simp only [BitVec.ofNat_toNat, BitVec.setWidth_eq] at h
  have hall : ((List.range i).all fun j => m.getMsbD j == b.getMsbD j) = true := List.all_eq_true.2 fun j hj => by simp [hsame j (List.mem_range.1 hj)]
  rw [hall, decide_eq_true hle] at h
  refine ⟨⟨i, hi⟩, ?_, ?_, fun j hj => hsame j hj⟩
  · show m.getMsbD i = false
    cases h1 : m.getMsbD i <;> cases h2 : b.getMsbD i <;> simp_all
  · show b.getMsbD i = true
    cases h1 : m.getMsbD i <;> cases h2 : b.getMsbD i <;> simp_all

theorem bdW_out {n : Nat} (hn : n ≤ 16) (q : Vector T_api_Value 4) : out (bdW n) q ↔ n ≤ (by8 q).toNat := by
  constructor
  · intro h
    false_or_by_contra
    rename_i h1
    refine h (bdC (by8 q).toNat) (List.mem_map.2 ⟨_, List.mem_range.2 (by omega), rfl⟩) ((bdC_in (by omega) q).2 ?_)
    simp
  · intro h x hx hi
    obtain ⟨i, hi2, rfl⟩ := List.mem_map.1 hx
    have hlt := List.mem_range.1 hi2
    rw [(bdC_in (by omega) q).1 hi] at h
    rw [BitVec.toNat_ofNat, Nat.mod_eq_of_lt (by omega)] at h
    omega

theorem bd_least {n : Nat} (hn : n ≤ 16) : leastOf (fun q => inB (default : T_cube_Cube) q = true) (out (bdW n)) (bdQ n) := by
  refine ⟨def_in _, (bdW_out hn _).2 (by rw [by8_bdQ, BitVec.toNat_ofNat, Nat.mod_eq_of_lt (by omega)]; omega), fun q _ hq => ?_⟩
  have hb := (bdW_out hn q).1 hq
  by_cases he : q = bdQ n
  · exact .inl he
  refine .inr ?_
  -- the first place at which they part
  have hex : ∃ i, i < 512 ∧ cv (bdQ n) i ≠ cv q i := by
    false_or_by_contra
    rename_i h
    exact he (cv_ext fun i hi => by
      false_or_by_contra
      rename_i h2
      exact h ⟨i, hi, fun e => h2 e.symm⟩)
  have hfirst : ∀ m, (∃ i, i < m ∧ cv (bdQ n) i ≠ cv q i) → ∃ i, i < m ∧ cv (bdQ n) i ≠ cv q i ∧ ∀ j, j < i → cv (bdQ n) j = cv q j := by
    intro m
    induction m with
    | zero => rintro ⟨i, h, _⟩; omega
    | succ m ih =>
      rintro ⟨i, h1, h2⟩
      by_cases h : ∃ i, i < m ∧ cv (bdQ n) i ≠ cv q i
      · obtain ⟨i, a, b, c⟩ := ih h; exact ⟨i, by omega, b, c⟩
      · refine ⟨i, h1, h2, fun j hj => ?_⟩
        false_or_by_contra
        rename_i h3
        exact h ⟨j, by omega, h3⟩
  obtain ⟨i, hi, hd, hs⟩ := hfirst 512 hex
  refine ⟨i, hi, ?_⟩
  cases hq0 : cv (bdQ n) i
  · refine ⟨rfl, ?_, hs⟩
    rw [hq0] at hd
    cases h : cv q i
    · rw [h] at hd; exact absurd rfl hd
    · rfl
  · exfalso
    obtain ⟨h1, h2⟩ := cv_bdQ_hi (by omega) hi hq0
    obtain ⟨k, rfl⟩ : ∃ k, i = 120 + k := ⟨i - 120, by omega⟩
    have hk : k < 8 := by omega
    rw [by8_bit _ hk, by8_bdQ] at hq0
    rw [by8_bit _ hk, by8_bdQ, by8_bit _ hk] at hd
    have hne : by8 q ≠ BitVec.ofNat 8 n := fun e => hd (by rw [e])
    obtain ⟨⟨i', hi'⟩, a1, a2, a3⟩ := lex8 (BitVec.ofNat 8 n) (by8 q) (by rw [BitVec.toNat_ofNat, Nat.mod_eq_of_lt (by omega)]; omega) (by rw [BitVec.toNat_ofNat, Nat.mod_eq_of_lt (by omega)]; exact hb) hne
    simp only at a1 a2
    rcases Nat.lt_trichotomy i' k with hl | hl | hl
    · have := hs (120 + i') (by omega)
      rw [by8_bit _ hi', by8_bdQ, by8_bit _ hi', a1, a2] at this
      cases this
    · subst hl
      rw [a1] at hq0; cases hq0
    · exact hd (a3 ⟨k, hk⟩ hl)

theorem bdW_can {n : Nat} (hn : n ≤ 16) : ∀ x ∈ bdW n, can x := fun x hx => by
  obtain ⟨i, hi, rfl⟩ := List.mem_map.1 hx
  have := List.mem_range.1 hi
  exact bdC_can i (by omega)
theorem bd_notcov {n : Nat} (hn : n ≤ 16) : ¬ cov default (bdW n) := not_cov.2 ⟨bdQ n, (bd_least hn).1, (bd_least hn).2.1⟩
theorem bd_len {n : Nat} (hn : n ≤ 16) : ¬ ((bdW n).filter (agB default)).length > 16 := by
  have h1 := List.length_filter_le (agB default) (bdW n)
  have h2 : (bdW n).length = n := by simp [bdW]
  omega

theorem bdCheck {n : Nat} (hn : n ≤ 16) (h : L_shadow_question bdS (bdL n ++ [bdZ]) 90 = some (default, bdW n, 0)) : L_shadow_Check bdS (bdL n ++ [bdZ]) 90 = some (false, 0) := by
  have : Tot (L_shadow_Check bdS (bdL n ++ [bdZ]) 90) (fun r => r = (false, 0)) := by
    unfold L_shadow_Check
    refine .eq h (.cond (fun h => by simp at h) fun _ => ?_)
    refine (Covered_tot default (bdW n) def_can (bdW_can hn) (by simp [bdW]; omega)).bind fun y hy => .ret ?_
    rw [if_neg (bd_len hn)] at hy
    obtain ⟨a, b⟩ := y
    simp only at hy ⊢
    rw [hy.1]
    cases a
    · rfl
    · exact absurd (hy.2.1 rfl) (bd_notcov hn)
  obtain ⟨r, h1, h2⟩ := this
  rw [h1, h2]
theorem bdWitness {n : Nat} (hn : n ≤ 16) (h : L_shadow_question bdS (bdL n ++ [bdZ]) 90 = some (default, bdW n, 0)) : L_shadow_Witness bdS (bdL n ++ [bdZ]) 90 = some (bdQ n, true, 0) := by
  have : Tot (L_shadow_Witness bdS (bdL n ++ [bdZ]) 90) (fun r => r = (bdQ n, true, 0)) := by
    unfold L_shadow_Witness
    refine .eq h (.cond (fun h => by simp at h) fun _ => ?_)
    refine (Witness_tot default (bdW n) def_can (bdW_can hn) (by simp [bdW]; omega)).bind fun y hy => .ret ?_
    rw [if_neg (bd_len hn)] at hy
    obtain ⟨q, e, hq⟩ := hy.2 (bd_notcov hn)
    rw [e, hq.uniq (bd_least hn)]
  obtain ⟨r, h1, h2⟩ := this
  rw [h1, h2]

theorem begun27_ok : L_law27_begun = some true := by kernel_rfl
theorem bud17 : L_law27_ShadowBudget [] 2 = some true := by kernel_rfl
theorem bud15 : L_law27_ShadowBudget [] 0 = some true := by
  have : Tot (L_law27_ShadowBudget [] 0) (fun r => r = true) := by
    unfold L_law27_ShadowBudget
    refine .eq (a := bdN) (by kernel_rfl) (.eq (a := bdY) (by kernel_rfl) (.eq (a := 0) (by kernel_rfl) (.eq (a := ((15 : Int), false, bdL 15)) (by kernel_rfl) ?_)))
    refine .eq (a := [default, default]) (by kernel_rfl) (.eq rfl (.eq rfl (.eq (a := bdL 15 ++ [bdZ]) (by kernel_rfl) ?_)))
    refine .eq (bdCheck (n := 15) (by omega) bq15) (.eq (bdWitness (n := 15) (by omega) bq15) ?_)
    exact ⟨true, by kernel_rfl, rfl⟩
  obtain ⟨r, h1, h2⟩ := this
  rw [h1, h2]
theorem bud16 : L_law27_ShadowBudget [] 1 = some true := by
  have : Tot (L_law27_ShadowBudget [] 1) (fun r => r = true) := by
    unfold L_law27_ShadowBudget
    refine .eq (a := bdN) (by kernel_rfl) (.eq (a := bdY) (by kernel_rfl) (.eq (a := 1) (by kernel_rfl) (.eq (a := ((16 : Int), false, bdL 16)) (by kernel_rfl) ?_)))
    refine .eq (a := [default, default]) (by kernel_rfl) (.eq rfl (.eq rfl (.eq (a := bdL 16 ++ [bdZ]) (by kernel_rfl) ?_)))
    refine .eq (bdCheck (n := 16) (by omega) bq16) (.eq (bdWitness (n := 16) (by omega) bq16) ?_)
    exact ⟨true, by kernel_rfl, rfl⟩
  obtain ⟨r, h1, h2⟩ := this
  rw [h1, h2]

theorem budget_ok (x0 : List (BitVec 8)) (x1 : Int) : L_law27_ShadowBudget x0 x1 = some true := by
  obtain ⟨m, hm, h0, h3⟩ := Mod_tot x1 3 (by omega) (by omega)
  have e : m = 0 ∨ m = 1 ∨ m = 2 := by omega
  have key : L_law27_ShadowBudget [] m = some true ∧ L_mcase_Mod m 3 = some m := by
    rcases e with rfl | rfl | rfl
    · exact ⟨bud15, by kernel_rfl⟩
    · exact ⟨bud16, by kernel_rfl⟩
    · exact ⟨bud17, by kernel_rfl⟩
  obtain ⟨k1, k2⟩ := key
  unfold L_law27_ShadowBudget at k1 ⊢
  rw [k2] at k1
  rw [hm]
  exact k1
end Go.Proofs.Ytodajdohokmjnaa
