/-
  The laws SessionOne and SessionHighest, in plain Lean. Conditions: none.
-/
import Derived.Test.YtodajdohokmjnaaSes
namespace Go.Proofs.Ytodajdohokmjnaa
open Go Gv
set_option linter.unusedVariables false
set_option linter.unusedSimpArgs false
set_option maxRecDepth 100000

def loV (v : Int) : T_api_Value := { (default : T_api_Value) with f_Lo := BitVec.ofInt 64 v }
theorem prim_rng {n : Nat} {x : T_session_State} (hx : StOk n x) {r : Int} (h : (sPrim x r).2 = true) : 0 ≤ (sPrim x r).1 ∧ (sPrim x r).1 < 6 := by
  obtain ⟨s, hs, e1, _⟩ := prim_some h
  rw [← e1]; exact hx.ctl s hs
theorem may_iff {n : Nat} {x : T_session_State} (hx : StOk n x) (hl : StLow x) {c r : Int} : (∃ v : Nat, v < 8 ∧ alwS x c r (loV v) = 0) ↔ sPrim x r = (c, true) := by
  constructor
  · rintro ⟨v, _, h⟩
    exact ((alw_iff hx).1 h).1
  · intro h
    have ht := sTop_low hl r
    refine ⟨(sTop x r).f_Lo.toNat, ht.2, (alw_iff hx).2 ⟨h, ?_⟩⟩
    obtain ⟨h1, h2⟩ := ht
    unfold loV
    generalize sTop x r = t at *
    obtain ⟨a, b⟩ := t
    simp only at h1 h2 ⊢
    subst h1
    rw [BitVec.ofInt_natCast, BitVec.ofNat_toNat, BitVec.setWidth_eq]
    rfl
theorem condM_begun {z : Bool} (hz : z = true) : Tot ((condM z true L_law20_begun).bind fun y => some (z && y)) (fun r => r = true) := by
  subst hz
  refine .condM (P := fun y => y = true) (fun _ => ⟨_, begun20_ok, rfl⟩) fun y hy => .ret ?_
  rw [hy rfl]; rfl

theorem SessionOne_plain (x0 : List (BitVec 8)) (x1 : List T_law20_Op) (x2 : Int) : L_law20_SessionOne x0 x1 x2 = some true := by
  suffices h : Tot (L_law20_SessionOne x0 x1 x2) (fun r => r = true) by obtain ⟨r, h1, h2⟩ := h; rw [h1, h2]
  unfold L_law20_SessionOne
  refine (New_tot x0 120 (by omega) (by omega)).bind fun y1 h1 => (Schema_tot y1 h1).bind fun y2 h2 => (play_tot h2.1 x1).bind fun x hx => (Mod_tot x2 3 (by omega) (by omega)).bind fun y4 h4 => .eq (idx_int h4.1 (by simpa using h4.2)) ?_
  obtain ⟨hx, hl⟩ := hx
  generalize lget ([1, 2, 7] : List Int) y4.toNat = r
  have b1 := hx.sl; have b2 := hx.tl
  refine Tot.loop 8 (fun k s => s.2 = (k : Int) - 1 ∧ s.1 = if (sPrim x r).2 = true ∧ (sPrim x r).1 < (k : Int) - 1 then 1 else 0) (by omega) ⟨rfl, ?_⟩ (fun k s hk hi => ?_) (fun s hi => ?_)
  · rw [if_neg]
    rintro ⟨h, h'⟩
    have := (prim_rng hx h).1
    omega
  · obtain ⟨many, c⟩ := s; obtain ⟨e1, e2⟩ := hi
    simp only at e1 e2
    refine Tot.cond (fun _ => ?_) (fun h => by simp at h; omega)
    refine Tot.loop 8 (fun j s => s.2 = (j : Int) ∧ (s.1 = true ↔ ∃ v : Nat, v < j ∧ alwS x c r (loV v) = 0)) (by omega) ⟨rfl, by simp⟩ (fun j s hj hi => ?_) (fun s hi => ?_)
    · obtain ⟨may, v⟩ := s; obtain ⟨f1, f2⟩ := hi
      simp only at f1 f2; subst f1
      refine Tot.cond (fun _ => ?_) (fun h => by simp at h; omega)
      refine .condM (P := fun y => y = alwS x c r (loV j)) (fun _ => Allow_eq x c r (loV j) (by omega) (by omega)) fun y5 h5 => .ret ⟨w64_succ (by omega), ?_⟩
      simp only [Bool.or_eq_true, beq_iff_eq]
      constructor
      · rintro (h | h)
        · obtain ⟨v, h6, h7⟩ := f2.1 h
          exact ⟨v, by omega, h7⟩
        · by_cases hm : may = true
          · obtain ⟨v, h6, h7⟩ := f2.1 hm
            exact ⟨v, by omega, h7⟩
          · exact ⟨j, by omega, by rw [← h5 (by simpa using hm)]; exact h⟩
      · rintro ⟨v, h6, h7⟩
        by_cases hm : may = true
        · exact .inl hm
        · right
          rw [h5 (by simpa using hm)]
          by_cases hv : v = j
          · rw [← hv]; exact h7
          · exact absurd (f2.2 ⟨v, by omega, h7⟩) hm
    · obtain ⟨may, v⟩ := s; obtain ⟨f1, f2⟩ := hi
      simp only at f1 f2; subst f1
      refine ⟨_, rfl, ?_⟩
      simp only
      rw [may_iff hx hl] at f2
      have hc1 : w64 (c + 1) = ((k + 1 : Nat) : Int) - 1 := by rw [w64_in (by omega) (by omega)]; omega
      refine .cond (fun h => ?_) fun h => .ret ⟨hc1, ?_⟩
      · have hp := f2.1 h
        refine (Primary_eq x r (by omega) (by omega)).bind fun y6 h6 => ?_
        subst h6
        rw [prim_ne]
        refine .cond (fun h => by rw [hp] at h; simp at h) fun _ => .ret ⟨hc1, ?_⟩
        have hm : many = 0 := by rw [e2, hp, if_neg (by simp; omega)]
        simp only
        rw [hm, hp, if_pos (by simp; omega)]
        exact w64_in (by omega) (by omega)
      · simp only
        rw [e2]
        have hne : sPrim x r ≠ (c, true) := fun e => by rw [f2.2 e] at h; cases h
        have : (((sPrim x r).2 = true ∧ (sPrim x r).1 < (k : Int) - 1) ↔ ((sPrim x r).2 = true ∧ (sPrim x r).1 < ((k + 1 : Nat) : Int) - 1)) := by
          constructor
          · rintro ⟨h7, h8⟩; exact ⟨h7, by omega⟩
          · rintro ⟨h7, h8⟩
            refine ⟨h7, ?_⟩
            by_cases h9 : (sPrim x r).1 = c
            · exact absurd (by rw [← h9, ← h7]) hne
            · omega
        simp only [this]
  · obtain ⟨many, c⟩ := s; obtain ⟨e1, e2⟩ := hi
    simp only at e1 e2; subst e1
    refine ⟨_, rfl, ?_⟩
    simp only [Sum.elim_inl]
    refine (Primary_eq x r (by omega) (by omega)).bind fun y7 h7 => ?_
    subst h7
    refine condM_begun ?_
    cases hp : (sPrim x r).2 with
    | false => rw [e2, hp]; simp
    | true =>
      have := prim_rng hx hp
      rw [e2, if_pos ⟨hp, by omega⟩]; simp

theorem top_loop {x : T_session_State} (hs : x.f_Tops.Pairwise fun a b => a.f_Role < b.f_Role) {r : Int} {v : BitVec 64} (h0 : (∀ j, j < x.f_Tops.length → (lget x.f_Tops j).f_Role ≠ r) → v = 0#64)
    (h1 : ∀ j, j < x.f_Tops.length → (lget x.f_Tops j).f_Role = r → v = (lget x.f_Tops j).f_Election.f_Lo) : v = (sTop x r).f_Lo := by
  unfold sTop
  cases hf : x.f_Tops.find? (fun t => t.f_Role == r) with
  | none =>
    refine h0 fun j hj h => ?_
    have := List.find?_eq_none.1 hf (lget x.f_Tops j) (by rw [lget_eq _ hj]; exact List.getElem_mem _)
    simp [h] at this
  | some t =>
    obtain ⟨h2, i, hi, h3, _⟩ := List.find?_eq_some_iff_getElem.1 hf
    rw [← lget_eq _ hi] at h3
    subst h3
    exact h1 i hi (by simpa using h2)

theorem role_in {y : Int} (h0 : 0 ≤ y) (h1 : y < 3) : lget ([1, 2, 7] : List Int) y.toNat ∈ ([1, 2, 7] : List Int) := by
  rw [lget_eq _ (show y.toNat < 3 by omega)]; exact List.getElem_mem _

theorem hi_iff {t : T_api_Value} {v : BitVec 64} (ht : t.f_Hi = 0#64) : (if vlt t ⟨0#64, v⟩ = true then (⟨0#64, v⟩ : T_api_Value) else t) = ⟨0#64, v⟩ ↔ v ≥ t.f_Lo := by
  obtain ⟨a, b⟩ := t
  simp only at ht ⊢
  subst ht
  have hlt : vlt ⟨0#64, b⟩ ⟨0#64, v⟩ = decide (b < v) := by simp [vlt]
  rw [hlt]
  by_cases hbv : b < v
  · rw [if_pos (by simpa using hbv)]
    simp only [true_iff]
    exact BitVec.le_of_lt hbv
  · rw [if_neg (by simpa using hbv)]
    constructor
    · intro h
      have : b = v := congrArg T_api_Value.f_Lo h
      rw [this]; exact BitVec.le_refl _
    · intro h
      have : b = v := BitVec.le_antisymm h (BitVec.not_lt.1 hbv)
      rw [this]

theorem SessionHighest_plain (x0 : List (BitVec 8)) (x1 : List T_law20_Op) (x2 x3 : Int) (x4 : BitVec 8) : L_law20_SessionHighest x0 x1 x2 x3 x4 = some true := by
  suffices h : Tot (L_law20_SessionHighest x0 x1 x2 x3 x4) (fun r => r = true) by obtain ⟨r, h1, h2⟩ := h; rw [h1, h2]
  unfold L_law20_SessionHighest
  refine (New_tot x0 120 (by omega) (by omega)).bind fun y1 h1 => (Schema_tot y1 h1).bind fun y2 h2 => (play_tot h2.1 x1).bind fun x hx => (Mod_tot x3 3 (by omega) (by omega)).bind fun y4 h4 => .eq (idx_int h4.1 (by simpa using h4.2)) ?_
  obtain ⟨hx, hl⟩ := hx
  have hr := role_in h4.1 h4.2
  generalize lget ([1, 2, 7] : List Int) y4.toNat = r at *
  have b1 := hx.sl; have b2 := hx.tl
  have lt_of : ∀ i j, i < j → j < x.f_Tops.length → (lget x.f_Tops i).f_Role < (lget x.f_Tops j).f_Role := fun i j hij hj => by
    rw [lget_eq _ hj, lget_eq _ (show i < x.f_Tops.length by omega)]
    exact List.pairwise_iff_getElem.1 hx.srt i j (by omega) hj hij
  refine Tot.loop x.f_Tops.length (fun k s => s.2 = (k : Int) ∧ ((∀ j, j < k → (lget x.f_Tops j).f_Role ≠ r) → s.1 = 0#64) ∧ (∀ j, j < k → (lget x.f_Tops j).f_Role = r → s.1 = (lget x.f_Tops j).f_Election.f_Lo)) (by omega) ⟨rfl, fun _ => rfl, fun j hj => by omega⟩ (fun k s hk hi => ?_) (fun s hi => ?_)
  · obtain ⟨top, i⟩ := s; obtain ⟨e1, e2, e3⟩ := hi
    simp only at e1 e2 e3; subst e1
    refine Tot.cond (fun _ => ?_) (fun h => by simp at h; omega)
    refine .idx rfl hk (.bind (P := fun m => ((∀ j, j < k + 1 → (lget x.f_Tops j).f_Role ≠ r) → m = 0#64) ∧ (∀ j, j < k + 1 → (lget x.f_Tops j).f_Role = r → m = (lget x.f_Tops j).f_Election.f_Lo)) (.cond (fun h => .ret ⟨fun h5 => ?_, fun j hj h5 => ?_⟩) (fun h => .ret ⟨fun h5 => e2 fun j hj => h5 j (by omega), fun j hj h5 => ?_⟩)) fun m hm => .ret ⟨w64_succ (by omega), hm⟩)
    · exact absurd (by simpa using h) (h5 k (by omega))
    · by_cases hjk : j = k
      · subst hjk; rfl
      · have := lt_of j k (by omega) hk
        simp only [beq_iff_eq] at h
        omega
    · by_cases hjk : j = k
      · subst hjk; simp [h5] at h
      · exact e3 j (by omega) h5
  obtain ⟨top, i⟩ := s; obtain ⟨e1, e2, e3⟩ := hi
  simp only at e1 e2 e3; subst e1
  have htop := top_loop hx.srt e2 e3
  refine ⟨_, by simp only [show decide ((x.f_Tops.length : Int) < (x.f_Tops.length : Int)) = false by simp, cond_false]; rfl, ?_⟩
  refine Tot.loop 6 (fun k s => s.1 = (k : Int) ∧ StOk 24 s.2 ∧ s.2.f_Tops = x.f_Tops ∧ ∀ t ∈ s.2.f_Sessions, (k : Int) ≤ t.f_Controller) (by omega) ⟨rfl, hx, rfl, fun t ht => (hx.ctl t ht).1⟩ (fun k s hk hi => ?_) (fun s hi => ?_)
  · obtain ⟨i, z⟩ := s; obtain ⟨e4, e5, e6, e7⟩ := hi
    simp only at e4 e5 e6 e7; subst e4
    refine Tot.cond (fun _ => ?_) (fun h => by simp at h; omega)
    have b3 := e5.sl; have b4 := e5.tl
    refine (Leave_eq z k (by omega) (by omega)).bind fun y5 h5 => .bind (P := fun m => StOk 24 m ∧ m.f_Tops = x.f_Tops ∧ ∀ t ∈ m.f_Sessions, ((k + 1 : Nat) : Int) ≤ t.f_Controller) (.cond (fun h => .ret ?_) (fun h => .ret ⟨e5, e6, fun t ht => ?_⟩)) fun m hm => .ret ⟨w64_succ (by omega), hm⟩
    · obtain ⟨w, q⟩ := y5
      simp only [beq_iff_eq] at h
      subst h
      refine ⟨lv_ok e5 h5.symm, ?_⟩
      unfold lvS at h5
      split at h5
      · cases h5
      split at h5
      · cases h5
      cases h5
      refine ⟨e6, fun t ht => ?_⟩
      obtain ⟨h6, h7⟩ := List.mem_filter.1 ht
      have := e7 t h6
      simp only [Bool.not_eq_true', beq_eq_false_iff_ne] at h7
      omega
    · have h8 := e7 t ht
      by_cases h9 : t.f_Controller = (k : Int)
      · exfalso
        unfold lvS at h5
        rw [if_neg (by have : ctl (k : Int) = true := ctl_iff.2 ⟨by omega, by omega⟩; simp [this]), if_neg (by have := find_key e5.nd ht; rw [h9] at this; unfold sOf; rw [this]; simp)] at h5
        rw [h5] at h
        cases h
      · omega
  obtain ⟨i, z⟩ := s; obtain ⟨e4, e5, e6, e7⟩ := hi
  simp only at e4 e5 e6 e7; subst e4
  refine ⟨_, rfl, ?_⟩
  have hnil : z.f_Sessions = [] := by
    cases hz : z.f_Sessions with
    | nil => rfl
    | cons t l =>
      have h6 := e7 t (by rw [hz]; simp)
      have h7 := (e5.ctl t (by rw [hz]; simp)).2
      omega
  have b4 := e5.tl
  simp only
  refine (Primary_eq z r (by simp [hnil]) (by omega)).bind fun y6 h6 => ?_
  have hp : sPrim z r = (0, false) := by unfold sPrim; rw [hnil]; rfl
  rw [h6, hp, hnil]
  refine .cond (fun h => by cases h) fun _ => .eq (a := x4 % 8#8) (by unfold uremM; rw [if_neg (by decide)]) ((Mod_tot x2 6 (by omega) (by omega)).bind fun y8 h8 => .eq rfl ((Arb_eq h2.1 z y8 r _ (by simp [hnil]) (by omega)).bind fun y9 h9 => .eq rfl (condM_begun ?_)))
  have hv : ((x4 % 8#8).setWidth 64 + 1#64).toNat = (x4 % 8#8).toNat + 1 := by
    have : (x4 % 8#8).toNat < 256 := (x4 % 8#8).isLt
    rw [BitVec.toNat_add, BitVec.toNat_setWidth]
    have h1 : (1#64).toNat = 1 := rfl
    rw [h1]; omega
  generalize (x4 % 8#8).setWidth 64 + 1#64 = v at *
  have hst : sTop z r = sTop x r := by unfold sTop; rw [e6]
  have htl := sTop_low hl r
  have hne : decide (({ (default : T_api_Value) with f_Lo := v } : T_api_Value) = default) = false := by
    rw [decide_eq_false_iff_not]
    intro h
    have : v = 0#64 := congrArg T_api_Value.f_Lo h
    rw [this] at hv
    simp at hv
  unfold arbS at h9
  rw [if_neg (by have : ctl y8 = true := ctl_iff.2 h8; simp [this]), if_neg (not_not_intro hr), if_neg (by unfold takenS; rw [hnil, hne]; simp)] at h9
  rw [h9]
  simp only [beq_self_eq_true, Bool.true_and, beq_iff_eq]
  rw [htop, decide_eq_decide]
  unfold hiS
  rw [hst]
  exact hi_iff htl.1
end Go.Proofs.Ytodajdohokmjnaa
