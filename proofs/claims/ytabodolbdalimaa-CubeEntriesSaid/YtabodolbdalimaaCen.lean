/-
  The law CubeEntries, in plain Lean. Conditions: none.
-/
import Derived.Test.YtabodolbdalimaaKey
import Derived.Test.YtabodolbdalimaaSlt
import Derived.Test.YtabodolbdalimaaSlf
import Derived.Test.YtabodolbdalimaaFix
namespace Go.Proofs.Ytabodolbdalimaa
open Go Gv
set_option linter.unusedVariables false
set_option linter.unusedSimpArgs false
set_option maxRecDepth 100000

theorem cTableOf_ok {s : T_api_Schema} (h : SchOk s) {k : Nat} (hk : k < 4) : Tot (L_check_TableOf s ((k : Int) + 1)) (fun r => r = (k : Int)) := by
  unfold L_check_TableOf
  refine (IndexFunc_api_Table (g := fun t => t.f_ID == (k : Int) + 1) (fun x hx => rfl) (by rw [h.tlen]; omega)).bind fun r hr => .ret ?_
  have hk2 : k < s.f_Tables.length := by rw [h.tlen]; exact hk
  rcases hr with ⟨_, hr⟩ | ⟨i, h1, h2, h3, h4⟩
  · have := hr (lget s.f_Tables k) (by rw [lget_eq _ hk2]; exact List.getElem_mem hk2)
    simp only [(h.tab hk).1, beq_self_eq_true] at this; cases this
  · have h5 := (h.tab (show i < 4 by have := h.tlen; omega)).1
    simp only [h5, beq_iff_eq] at h3; omega

theorem cFieldOf_ok {s : T_api_Schema} (h : SchOk s) {k : Nat} (hk : k < 9) : Tot (L_check_FieldOf s ((k : Int) + 1)) (fun r => r = (k : Int)) := by
  unfold L_check_FieldOf
  refine (IndexFunc_api_Field (g := fun t => t.f_ID == (k : Int) + 1) (fun x hx => rfl) (by rw [h.flen]; omega)).bind fun r hr => .ret ?_
  have hk2 : k < s.f_Fields.length := by rw [h.flen]; exact hk
  rcases hr with ⟨_, hr⟩ | ⟨i, h1, h2, h3, h4⟩
  · have := hr (lget s.f_Fields k) (by rw [lget_eq _ hk2]; exact List.getElem_mem hk2)
    simp only [(h.fld hk).1, beq_self_eq_true] at this; cases this
  · have h5 := (h.fld (show i < 9 by have := h.flen; omega)).1
    simp only [h5, beq_iff_eq] at h3; omega

theorem take_succ_lget {α : Type} [Inhabited α] (l : List α) {k : Nat} (hk : k < l.length) : l.take (k + 1) = l.take k ++ [lget l k] := by
  rw [List.take_add_one, List.getElem?_eq_getElem hk, lget_eq l hk]; rfl

theorem ids_ok {s : T_api_Schema} (h : SchOk s) : Tot (L_ref04_ids s) (fun r => vget r 0 = s.f_Fields.map (·.f_ID) ∧ vget r 4 = s.f_Tables.map (·.f_ID)) := by
  unfold L_ref04_ids
  have l1 := h.flen; have l2 := h.headers; have l3 := h.states; have l4 := h.alen; have l5 := h.tlen; have l6 := h.roles
  refine Tot.loop s.f_Fields.length (fun k st => st.1 = (k : Int) ∧ st.2.1 = (s.f_Fields.take k).map (·.f_ID)) (by omega) ⟨rfl, rfl⟩ (fun k st hk hi => ?_) (fun st hi => ?_)
  · obtain ⟨i, a, v⟩ := st; obtain ⟨e1, e2⟩ := hi; simp only at e1 e2; subst e1; subst e2
    refine Tot.cond (fun _ => ?_) (fun h => by simp at h; omega)
    exact .idx rfl hk (.eq (app_small _ _ (by simp; omega) (by omega)) (.ret ⟨w64_succ (by omega), by rw [take_succ_lget _ hk, List.map_append]; rfl⟩))
  obtain ⟨i, a, v⟩ := st; obtain ⟨e1, e2⟩ := hi; simp only at e1 e2; subst e1; subst e2
  refine ⟨_, by simp; rfl, ?_⟩
  refine Tot.loop s.f_Headers.length (fun k st => st.1 = (k : Int) ∧ st.2.1.length = k) (by omega) ⟨rfl, rfl⟩ (fun k st hk hi => ?_) (fun st hi => ?_)
  · obtain ⟨i, a, v⟩ := st; obtain ⟨e1, e2⟩ := hi; simp only at e1 e2; subst e1
    refine Tot.cond (fun _ => ?_) (fun h => by simp at h; omega)
    exact .idx rfl hk (.eq (app_small _ _ (by simp; omega) (by omega)) (.ret ⟨w64_succ (by omega), by simp; omega⟩))
  obtain ⟨i, a2, v⟩ := st; obtain ⟨e1, e2⟩ := hi; simp only at e1 e2; subst e1
  refine ⟨_, by simp; rfl, ?_⟩
  refine Tot.loop s.f_States.length (fun k st => st.1 = (k : Int) ∧ st.2.1.length = k) (by omega) ⟨rfl, rfl⟩ (fun k st hk hi => ?_) (fun st hi => ?_)
  · obtain ⟨i, a, v⟩ := st; obtain ⟨e1, e2⟩ := hi; simp only at e1 e2; subst e1
    refine Tot.cond (fun _ => ?_) (fun h => by simp at h; omega)
    exact .idx rfl hk (.eq (app_small _ _ (by simp; omega) (by omega)) (.ret ⟨w64_succ (by omega), by simp; omega⟩))
  obtain ⟨i, a3, v⟩ := st; obtain ⟨e1, e3⟩ := hi; simp only at e1 e3; subst e1
  refine ⟨_, by simp; rfl, ?_⟩
  refine Tot.loop s.f_Actions.length (fun k st => st.1 = (k : Int) ∧ st.2.1.length = k) (by omega) ⟨rfl, rfl⟩ (fun k st hk hi => ?_) (fun st hi => ?_)
  · obtain ⟨i, a, v⟩ := st; obtain ⟨e1, e2⟩ := hi; simp only at e1 e2; subst e1
    refine Tot.cond (fun _ => ?_) (fun h => by simp at h; omega)
    exact .idx rfl hk (.eq (app_small _ _ (by simp; omega) (by omega)) (.ret ⟨w64_succ (by omega), by simp; omega⟩))
  obtain ⟨i, a4, v⟩ := st; obtain ⟨e1, e4⟩ := hi; simp only at e1 e4; subst e1
  refine ⟨_, by simp; rfl, ?_⟩
  refine Tot.loop s.f_Tables.length (fun k st => st.1 = (k : Int) ∧ st.2.1 = (s.f_Tables.take k).map (·.f_ID)) (by omega) ⟨rfl, rfl⟩ (fun k st hk hi => ?_) (fun st hi => ?_)
  · obtain ⟨i, a, v⟩ := st; obtain ⟨e1, e2⟩ := hi; simp only at e1 e2; subst e1; subst e2
    refine Tot.cond (fun _ => ?_) (fun h => by simp at h; omega)
    exact .idx rfl hk (.eq (app_small _ _ (by simp; omega) (by omega)) (.ret ⟨w64_succ (by omega), by rw [take_succ_lget _ hk, List.map_append]; rfl⟩))
  obtain ⟨i, a5, v⟩ := st; obtain ⟨e1, e5⟩ := hi; simp only at e1 e5; subst e1; subst e5
  refine ⟨_, by simp; rfl, ?_⟩
  refine Tot.loop s.f_Roles.length (fun k st => st.1 = (k : Int) ∧ st.2.1.length = k) (by omega) ⟨rfl, rfl⟩ (fun k st hk hi => ?_) (fun st hi => ?_)
  · obtain ⟨i, a, v⟩ := st; obtain ⟨e1, e2⟩ := hi; simp only at e1 e2; subst e1
    refine Tot.cond (fun _ => ?_) (fun h => by simp at h; omega)
    exact .idx rfl hk (.eq (app_small _ _ (by simp; omega) (by omega)) (.ret ⟨w64_succ (by omega), by simp; omega⟩))
  obtain ⟨i, a6, v⟩ := st; obtain ⟨e1, e6⟩ := hi; simp only at e1 e6; subst e1
  refine ⟨_, by simp; rfl, ?_⟩
  refine .eq rfl (.ret ⟨?_, ?_⟩)
  · simp only [List.take_length]
    rw [vget_vset _ _ (by omega), if_neg (by omega), vget_vset _ _ (by omega), if_neg (by omega), vget_vset _ _ (by omega), if_neg (by omega), vget_vset _ _ (by omega), if_neg (by omega), vget_vset _ _ (by omega), if_neg (by omega), vget_vset _ _ (by omega), if_pos rfl]
  · simp only [List.take_length]
    rw [vget_vset _ _ (by omega), if_neg (by omega), vget_vset _ _ (by omega), if_pos rfl]

theorem index_ok (l : List Int) {k : Nat} (hk : k < l.length) (hl : l.length < 2 ^ 30) (h : ∀ j, j < l.length → lget l j = (j : Int) + 1) : Tot (L_ref04_index l ((k : Int) + 1)) (fun r => r = (k : Int)) := by
  unfold L_ref04_index
  refine Tot.loop k (fun j s => s = (j : Int)) (by omega) rfl (fun j i hj hi => ?_) (fun i hi => ?_)
  · subst hi
    refine Tot.cond (fun _ => ?_) (fun h => by simp at h; omega)
    refine .idx rfl (by omega) (.cond (fun hc => ?_) (fun hc => .ret (w64_succ (by omega))))
    rw [h j (by omega), beq_iff_eq] at hc; omega
  · subst hi
    have h1 : decide ((k : Int) < (l.length : Int)) = true := by simp; omega
    have h2 : (lget l k == (k : Int) + 1) = true := by rw [h k hk]; simp
    rw [h1]
    simp only [cond_true]
    rw [idx_nat (by omega)]
    simp only [Option.bind_some, h2, cond_true]
    exact ⟨_, rfl, .ret rfl⟩

theorem rTableOf_ok {s : T_api_Schema} (h : SchOk s) {k : Nat} (hk : k < 4) : Tot (L_ref04_TableOf s ((k : Int) + 1)) (fun r => r = (k : Int)) := by
  unfold L_ref04_TableOf
  refine (ids_ok h).bind fun y hy => ?_
  have hl := h.tlen
  rw [hy.2]
  refine (index_ok _ (by simp; omega) (by simp; omega) fun j hj => ?_).bind fun r hr => .ret hr
  rw [lget_map _ (by simpa using hj)]; exact (h.tab (by simp at hj; omega)).1

theorem rFieldOf_ok {s : T_api_Schema} (h : SchOk s) {k : Nat} (hk : k < 9) : Tot (L_ref04_FieldOf s ((k : Int) + 1)) (fun r => r = (k : Int)) := by
  unfold L_ref04_FieldOf
  refine (ids_ok h).bind fun y hy => ?_
  have hl := h.flen
  rw [hy.1]
  refine (index_ok _ (by simp; omega) (by simp; omega) fun j hj => ?_).bind fun r hr => .ret hr
  rw [lget_map _ (by simpa using hj)]; exact (h.fld (by simp at hj; omega)).1

theorem kb_of {key : T_api_Key} {j : Nat} (h : key.f_Field = (j : Int) + 1) : kb key = lget BITS j := by unfold kb; rw [h]; congr 1; omega

theorem KeyBits_ok {s : T_api_Schema} (h : SchOk s) {t : T_api_Table} {i : Nat} (hi : i < t.f_Keys.length) (hk : KeyOk (lget t.f_Keys i)) : Tot (L_ref04_KeyBits s t (i : Int)) (fun r => r = kb (lget t.f_Keys i)) := by
  obtain ⟨j, hj, hf, _⟩ := hk
  unfold L_ref04_KeyBits L_ref04_Bits
  refine .idx rfl hi ?_
  rw [kb_of hf, hf]
  refine .bind (P := fun r => r = lget BITS j) ((rFieldOf_ok h hj).bind fun y hy => .idx hy (by rw [h.flen]; exact hj) (.ret (h.fld hj).2)) fun y hy => .ret hy

def lead (n k : Int) (j : Nat) : Bool := decide ((j : Int) < n) && decide (n - max 0 (min k n) ≤ (j : Int))

theorem Leading_eq (n k : Int) (h0 : 0 ≤ n) (h1 : n ≤ 128) : Tot (L_value_Leading n k) (fun r => ∀ j, j < 128 → vb r j = lead n k j) := by
  unfold L_value_Leading L_value_within
  have e : min (max 0 n) 128 = n := by omega
  rw [e]
  have e2 : w64 (n - min (max 0 k) n) = n - min (max 0 k) n := w64_in (by omega) (by omega)
  refine .eq rfl ((Ones_eq n).bind fun a ha => ?_)
  rw [e2]
  refine (Ones_eq _).bind fun b hb => (xor_tot a b).bind fun r hr => .ret fun j hj => ?_
  rw [hr j hj, ha j hj, hb j hj]
  unfold lead
  by_cases p : (j : Int) < n
  · rw [decide_eq_true p]
    by_cases q : (j : Int) < n - min (max 0 k) n
    · rw [decide_eq_true q, decide_eq_false (by omega)]; rfl
    · rw [decide_eq_false q, decide_eq_true (by omega)]; rfl
  · rw [decide_eq_false p, decide_eq_false (by omega)]; rfl

theorem refOnes_all (n : Int) (h0 : 0 ≤ n) (h1 : n ≤ 128) : Tot (L_ref01_Ones n) (fun r => ∀ j, j < 128 → vb r j = decide ((j : Int) < n)) := by
  unfold L_ref01_Ones
  obtain ⟨m, rfl⟩ := Int.eq_ofNat_of_zero_le h0
  have hcl : L_ref01_clamp (m : Int) = some (m : Int) := by unfold L_ref01_clamp; rw [show max 0 (min (m : Int) 128) = m by omega]
  refine Tot.loop m (fun k s => s.1 = k ∧ ∀ j, j < 128 → vget s.2 j = decide (j < k)) (by omega)
    ⟨rfl, fun j hj => by simp [vget_default]⟩ (fun k s hk hi => ?_) (fun s hi => ?_)
  · obtain ⟨i, v⟩ := s; obtain ⟨h1, h2⟩ := hi
    simp only at h1 h2; subst h1
    refine .eq hcl ?_
    refine Tot.cond (fun _ => ?_) (fun h => by simp at h; omega)
    refine .idx rfl (by omega) (.ret ⟨w64_succ (by omega), fun j hj => ?_⟩)
    simp only [vget_vset _ _ (show k < 128 by omega)]
    by_cases hj1 : j = k
    · rw [if_pos hj1]; symm; simp; omega
    · rw [if_neg hj1, h2 j hj, decide_eq_decide]; omega
  · obtain ⟨i, v⟩ := s; obtain ⟨h1, h2⟩ := hi
    simp only at h1 h2; subst h1
    have hc : decide ((m : Int) < (m : Int)) = false := by simp
    rw [hcl]
    simp only [Option.bind_some, hc, cond_false]
    refine ⟨_, rfl, ?_⟩
    refine (Make_eq v).bind fun r hr => .ret fun j hj => ?_
    rw [hr j hj, h2 j hj, decide_eq_decide]; omega

theorem refLeading_eq (n k : Int) (h0 : 0 ≤ n) (h1 : n ≤ 128) : Tot (L_ref01_Leading n k) (fun r => ∀ j, j < 128 → vb r j = lead n k j) := by
  unfold L_ref01_Leading
  obtain ⟨m, rfl⟩ := Int.eq_ofNat_of_zero_le h0
  have hcl : L_ref01_clamp (m : Int) = some (m : Int) := by unfold L_ref01_clamp; rw [show max 0 (min (m : Int) 128) = m by omega]
  refine .eq hcl ?_
  obtain ⟨a, ha⟩ := Int.eq_ofNat_of_zero_le (show 0 ≤ (m : Int) - max 0 (min k m) by omega)
  have ea : w64 ((m : Int) - max 0 (min k m)) = (a : Int) := by rw [w64_in (by omega) (by omega), ha]
  rw [ea]
  refine Tot.loop (m - a) (fun i s => s.1 = ((a + i : Nat) : Int) ∧ ∀ j, j < 128 → vget s.2 j = (decide (a ≤ j) && decide (j < a + i))) (by omega)
    ⟨rfl, fun j hj => ?_⟩ (fun i s hk hi => ?_) (fun s hi => ?_)
  · rw [vget_default]
    symm
    by_cases q : a ≤ j
    · rw [decide_eq_true q, decide_eq_false (by omega)]; rfl
    · rw [decide_eq_false q]; rfl
  · obtain ⟨i', v⟩ := s; obtain ⟨h1, h2⟩ := hi
    simp only at h1 h2; subst h1
    refine Tot.cond (fun _ => ?_) (fun h => by simp at h; omega)
    refine .idx rfl (show a + i < 128 by omega) (.ret ⟨w64_succ (by omega), fun j hj => ?_⟩)
    simp only [vget_vset _ _ (show a + i < 128 by omega)]
    by_cases hj1 : j = a + i
    · rw [if_pos hj1]; symm; simp; omega
    · rw [if_neg hj1, h2 j hj]; congr 1; rw [decide_eq_decide]; omega
  · obtain ⟨i', v⟩ := s; obtain ⟨h1, h2⟩ := hi
    simp only at h1 h2; subst h1
    have hc : decide (((a + (m - a) : Nat) : Int) < (m : Int)) = false := by simp; omega
    rw [hc]
    refine ⟨_, rfl, (Make_eq v).bind fun r hr => .ret fun j hj => ?_⟩
    rw [hr j hj, h2 j hj]
    unfold lead
    rw [Bool.and_comm]
    congr 1
    · rw [decide_eq_decide]; omega
    · rw [decide_eq_decide]; omega

/-- the bits that a match fixes -/
def fk (key : T_api_Key) (m : T_api_Match) (j : Nat) : Bool := m.f_Present && (if key.f_Kind = 1 then decide ((j : Int) < kb key) else if key.f_Kind = 2 then lead (kb key) m.f_Prefix j else vb m.f_Mask j)

theorem KeyOk.kb {key : T_api_Key} (h : KeyOk key) : 4 ≤ Go.Proofs.Ytabodolbdalimaa.kb key ∧ Go.Proofs.Ytabodolbdalimaa.kb key ≤ 32 := by
  obtain ⟨j, hj, hf, _, _, h1, h2, _⟩ := h
  rw [kb_of hf]; exact ⟨h1, h2⟩

theorem fixed_eq {key : T_api_Key} (hk : KeyOk key) (m : T_api_Match) : Tot (L_cube_fixed m key.f_Kind (kb key)) (fun r => ∀ j, j < 128 → vb r j = fk key m j) := by
  have hb := hk.kb
  unfold L_cube_fixed fk
  refine .cond (fun h => .ret fun j hj => ?_) fun h => .cond (fun h1 => (Ones_eq _).bind fun y hy => .ret fun j hj => ?_) fun h1 => .cond (fun h2 => (Leading_eq _ _ (by omega) (by omega)).bind fun y hy => .ret fun j hj => ?_) fun h2 => .ret fun j hj => ?_
  · rw [vb_zero]; simp only [Bool.not_eq_true'] at h; rw [h]; rfl
  all_goals (simp only [Bool.not_eq_false'] at h; rw [h, Bool.true_and])
  · rw [if_pos (by simpa using h1)]; exact hy j hj
  · rw [if_neg (by simpa using h1), if_pos (by simpa using h2)]; exact hy j hj
  · rw [if_neg (by simpa using h1), if_neg (by simpa using h2)]

theorem cOf_tot {s : T_api_Schema} (h : SchOk s) {k : Nat} (hk : k < 4) {e : T_api_Entry} (he : EntOk s k e) : Tot (L_cube_Of s e) (fun r =>
    (r.2 = false ∧ r.1 = default ∧ ∃ i, i < (lget s.f_Tables k).f_Keys.length ∧ (lget (lget s.f_Tables k).f_Keys i).f_Kind = 4) ∨
    (r.2 = true ∧ (∀ i, i < (lget s.f_Tables k).f_Keys.length → (lget (lget s.f_Tables k).f_Keys i).f_Kind ≠ 4) ∧ ∀ c j, c < 4 → j < 128 →
      vb (vget r.1.f_Mask c) j = (decide (c < (lget s.f_Tables k).f_Keys.length) && fk (lget (lget s.f_Tables k).f_Keys c) (lget e.f_Matches c) j) ∧
      vb (vget r.1.f_Value c) j = (decide (c < (lget s.f_Tables k).f_Keys.length) && (vb (lget e.f_Matches c).f_Value j && fk (lget (lget s.f_Tables k).f_Keys c) (lget e.f_Matches c) j)))) := by
  unfold L_cube_Of
  obtain ⟨t1, ⟨t2, t3⟩, t4, _⟩ := h.tab hk
  rw [he.tab]
  refine (cTableOf_ok h hk).bind fun y1 e1 => ?_
  subst e1
  refine .cond (fun h => by simp at h; omega) fun _ => .idx rfl (by rw [h.tlen]; exact hk) ?_
  have hm := he.len
  generalize hK : (lget s.f_Tables k).f_Keys = K at *
  refine Tot.loop K.length (fun i st => st.1 = (i : Int) ∧ (∀ c, c < i → (lget K c).f_Kind ≠ 4) ∧ ∀ c j, c < 4 → j < 128 →
      vb (vget st.2.f_Mask c) j = (decide (c < i) && fk (lget K c) (lget e.f_Matches c) j) ∧
      vb (vget st.2.f_Value c) j = (decide (c < i) && (vb (lget e.f_Matches c).f_Value j && fk (lget K c) (lget e.f_Matches c) j))) (by omega)
    ⟨rfl, fun c hc => by omega, fun c j hc hj => ?_⟩ (fun i st hi hs => ?_) (fun st hs => ?_)
  · rw [show (default : T_cube_Cube).f_Mask = default from rfl, show (default : T_cube_Cube).f_Value = default from rfl, vget_default, vb_zero]; simp
  · obtain ⟨i', x⟩ := st; obtain ⟨e2, e3, e4⟩ := hs
    simp only at e2 e3 e4; subst e2
    refine Tot.cond (fun _ => ?_) (fun h => by simp at h; omega)
    have hkey : KeyOk (lget K i) := t4 _ (by rw [lget_eq _ hi]; exact List.getElem_mem hi)
    have hkey2 := hkey
    obtain ⟨j, hj, hf, _⟩ := hkey2
    refine .idx rfl hi ?_
    rw [hf]
    refine (cFieldOf_ok h hj).bind fun y2 e2 => ?_
    subst e2
    refine .eq rfl (.eq rfl (.cond (fun hz => ?_) fun hz => ?_))
    · refine .ret (.ret (.inl ⟨rfl, rfl, i, hi, ?_⟩))
      simp only [Bool.or_eq_true, beq_iff_eq, decide_eq_true_eq] at hz
      omega
    · simp only [Bool.or_eq_false_iff, beq_eq_false_iff_ne, decide_eq_false_iff_not] at hz
      refine .idx rfl (by omega) (.idx rfl (by rw [h.flen]; exact hj) ?_)
      rw [(h.fld hj).2, ← kb_of hf]
      have hi4 : i < 4 := by omega
      refine (fixed_eq hkey _).bind fun y3 h3 => .idx rfl hi4 (.idx rfl (by omega) (.idx rfl hi4 (.eq rfl ((and_tot _ _).bind fun y4 h4 => .idx rfl hi4 (.eq rfl (.ret ⟨w64_succ (by omega), fun c hc => ?_, fun c j hc hj => ?_⟩))))))
      · by_cases hci : c = i
        · subst hci; exact hz.1.1.1
        · exact e3 c (by omega)
      · simp only [vget_vset _ _ hi4]
        by_cases hci : c = i
        · subst hci
          rw [if_pos rfl, if_pos rfl]
          have h4' := h4 j hj
          simp only [vget_vset _ _ hi4, if_true] at h4'
          rw [h3 j hj, h4', h3 j hj, decide_eq_true (show c < c + 1 by omega)]
          exact ⟨rfl, rfl⟩
        · rw [if_neg hci, if_neg hci, (e4 c j hc hj).1, (e4 c j hc hj).2]
          have : decide (c < i + 1) = decide (c < i) := by rw [decide_eq_decide]; omega
          rw [this]; exact ⟨rfl, rfl⟩
  · obtain ⟨i', x⟩ := st; obtain ⟨e2, e3, e4⟩ := hs
    simp only at e2 e3 e4; subst e2
    have hc : decide ((K.length : Int) < (K.length : Int)) = false := by simp
    rw [hc]
    refine ⟨_, rfl, ?_⟩
    exact .ret (.inr ⟨rfl, e3, e4⟩)
end Go.Proofs.Ytabodolbdalimaa
