/-
  What the schemas of the laws' cases look like: package matchguardcase, in plain Lean. Conditions: none.
-/
import Derived.Test.YtodajdohokmjnaaPlA
import Derived.Test.YtodajdohokmjnaaDl
namespace Go.Proofs.Ytodajdohokmjnaa
open Go Gv
set_option linter.unusedVariables false
set_option linter.unusedSimpArgs false
set_option maxRecDepth 100000

theorem app_small {α : Type} {b : Nat} (xs ys : List α) (h : xs.length + ys.length ≤ 1000000) (hb : b ≤ 100000) : appM b xs ys = some (xs ++ ys) := by
  unfold appM
  rw [if_pos]
  unfold maxLen
  refine ⟨Nat.le_trans (Nat.mul_le_mul h hb) (by omega), by omega⟩

/-- codes that are not many -/
def CdOk (c : T_mcase_Codes) : Prop := 0 ≤ c.f_at ∧ c.f_l.length ≤ 1000

theorem New_tot (l : List (BitVec 8)) (n : Int) (h0 : 0 ≤ n) (h1 : n ≤ 1000) : Tot (L_mcase_New l n) CdOk := by
  unfold L_mcase_New
  refine .eq (a := (l.drop 0).take ((min (l.length : Int) n).toNat - 0)) ?_ (.ret ⟨Int.le_refl 0, ?_⟩)
  · unfold sliceM; rw [if_pos ⟨by omega, by omega, by omega⟩]; rfl
  · simp only [List.length_take, List.length_drop]; omega

theorem Next_tot (c : T_mcase_Codes) (n : Int) (hc : CdOk c) (hn : 1 ≤ n) : Tot (L_mcase_Codes_Next c n) (fun r => CdOk r.2 ∧ 0 ≤ r.1 ∧ r.1 < n ∧ r.1 < 256) := by
  unfold L_mcase_Codes_Next L_mcase_Codes_Left
  obtain ⟨l, a⟩ := c
  obtain ⟨h0, h1⟩ := hc
  simp only at h0 h1
  obtain ⟨k, rfl⟩ := Int.eq_ofNat_of_zero_le h0
  refine .eq rfl (.cond (fun _ => .ret ⟨⟨h0, h1⟩, by omega, by omega, by omega⟩) fun h => ?_)
  simp only [Bool.or_eq_false_iff, Bool.not_eq_false', decide_eq_true_eq, decide_eq_false_iff_not] at h
  have e1 : w64 ((k : Int) + 1) = ((k + 1 : Nat) : Int) := w64_succ (by omega)
  simp only [e1]
  have e2 : w64 (((k + 1 : Nat) : Int) - 1) = (k : Int) := by rw [w64_in (by omega) (by omega)]; omega
  rw [e2]
  refine .idx rfl (by omega) (.eq (by unfold modM; rw [if_neg (by omega)]) (.ret ⟨⟨by simp only; omega, h1⟩, ?_, ?_, ?_⟩))
  · exact Int.tmod_nonneg _ (by omega)
  · exact Int.tmod_lt_of_pos _ (by omega)
  · simp only
    have h3 : (lget l k).toNat < 256 := (lget l k).isLt
    obtain ⟨m, rfl⟩ := Int.eq_ofNat_of_zero_le (show 0 ≤ n by omega)
    have h4 : (((lget l k).toNat : Int)).tmod m = (((lget l k).toNat % m : Nat) : Int) := (Int.ofNat_tmod _ _).symm
    have h5 := Nat.mod_le (lget l k).toNat m
    omega

theorem Bool_tot (c : T_mcase_Codes) (hc : CdOk c) : Tot (L_mcase_Codes_Bool c) (fun r => CdOk r.2) := by
  unfold L_mcase_Codes_Bool
  exact .bind (Next_tot c 2 hc (by omega)) fun y h => .ret h.1

theorem states_tot (c : T_mcase_Codes) (hc : CdOk c) : Tot (L_mcase_Codes_states c) (fun r => CdOk r.2 ∧ r.1.length = 3) := by
  unfold L_mcase_Codes_states
  refine .bind (Next_tot c 4 hc (by omega)) fun y1 h1 => ?_
  refine .eq (idx_int h1.2.1 (by simpa using h1.2.2.1)) (.eq rfl (.eq rfl (.bind (Bool_tot _ h1.1) fun y2 h2 => ?_)))
  refine .bind (P := fun m => CdOk m.1) (.cond (fun _ => ?_) (fun _ => .ret h2)) fun m1 hm1 => ?_
  · refine .bind (Next_tot _ 2 h2 (by omega)) fun y6 h6 => .eq rfl (.bind (Next_tot _ 4 h6.1 (by omega)) fun y7 h7 => ?_)
    exact .eq (idx_int h7.2.1 (by simpa using h7.2.2.1)) (.eq rfl (.eq (app_small _ _ (by simp) (by omega)) (.ret h7.1)))
  · refine .bind (Next_tot _ 4 hm1 (by omega)) fun y3 h3 => .eq (idx_int h3.2.1 (by simpa using h3.2.2.1)) (.eq rfl (.eq rfl ?_))
    refine .bind (Next_tot _ 3 h3.1 (by omega)) fun y4 h4 => ?_
    refine .bind (P := fun m => CdOk m.1) (.cond (fun _ => ?_) (fun _ => .ret h4.1)) fun m2 hm2 => .ret ⟨hm2, rfl⟩
    exact .bind (Next_tot _ 3 h4.1 (by omega)) fun y5 h5 => .eq rfl (.ret h5.1)

def projA (a : T_api_Action) : Int × List Int := (a.f_ID, a.f_Params.map (·.f_Bits))
def ACTS : List (Int × List Int) := [(1, []), (2, []), (3, [16]), (4, [4]), (5, [4, 12]), (6, [])]

theorem map_lset {α β : Type} [Inhabited α] (f : α → β) (l : List α) (k : Nat) (x : α) (h : f x = f (lget l k)) : (lset l k x).map f = l.map f := by
  unfold lset
  apply List.ext_getElem
  · simp
  · intro i h1 h2
    simp only [List.length_map, List.length_set] at h1
    simp only [List.getElem_map, List.getElem_set]
    split
    · rename_i e; subst e; rw [h, lget_eq l h1]
    · rfl

theorem map_lset' {α β : Type} [Inhabited α] (f : α → β) {l : List α} {k : Nat} {x : α} {r : List β} (h : f x = f (lget l k)) (hl : l.map f = r) : (lset l k x).map f = r := (map_lset f l k x h).trans hl

theorem actions_tot (c : T_mcase_Codes) (hc : CdOk c) : Tot (L_mcase_Codes_actions c) (fun r => CdOk r.2 ∧ r.1.map projA = ACTS) := by
  unfold L_mcase_Codes_actions
  refine .eq rfl (.eq rfl (.eq rfl (.eq rfl (.eq rfl (.eq rfl (.eq rfl (.eq rfl (.eq rfl (.eq rfl (.eq rfl (.eq rfl (.eq rfl ?_))))))))))))
  refine .bind (Next_tot _ 2 hc (by omega)) fun y1 h1 => .eq rfl (.bind (Next_tot _ 256 h1.1 (by omega)) fun y2 h2 => .eq rfl (.eq rfl (.eq rfl ?_)))
  refine .bind (Bool_tot _ h2.1) fun y3 h3 => ?_
  refine .bind (P := fun m => m.map projA = ACTS) (.cond (fun _ => ?_) (fun _ => .ret rfl)) fun m1 hm1 => ?_
  · exact .idx (k := 2) rfl (by simp) (.eq rfl (.ret (map_lset' projA rfl rfl)))
  · refine .bind (Bool_tot _ h3) fun y4 h4 => .bind (P := fun m => m.map projA = ACTS) (.cond (fun _ => ?_) (fun _ => .ret hm1)) fun m2 hm2 => .ret ⟨h4, hm2⟩
    have hl : m1.length = 6 := by rw [← List.length_map (f := projA), hm1]; rfl
    exact .idx (k := 4) rfl (by omega) (.eq rfl (.ret (map_lset' projA rfl hm1)))

def kA : T_api_Key := { f_Name := ByteArray.mk #[97], f_Field := 4, f_Kind := 1 }
def kD : T_api_Key := { f_Name := ByteArray.mk #[100], f_Field := 7, f_Kind := 2 }
def kM : T_api_Key := { f_Name := ByteArray.mk #[109], f_Field := 3, f_Kind := 1 }
def kE : T_api_Key := { f_Name := ByteArray.mk #[101], f_Field := 6, f_Kind := 3 }
def kA3 : T_api_Key := { f_Name := ByteArray.mk #[97], f_Field := 4, f_Kind := 3 }
def kB : T_api_Key := { f_Name := ByteArray.mk #[98], f_Field := 5, f_Kind := 1 }
def kF : T_api_Key := { f_Name := ByteArray.mk #[102], f_Field := 8, f_Kind := 4 }
def kG : T_api_Key := { f_Name := ByteArray.mk #[103], f_Field := 9, f_Kind := 1 }
def projT (t : T_api_Table) : Int × List Int × List T_api_Key := (t.f_ID, t.f_Actions, t.f_Keys)
def keys2 (b : Bool) : List T_api_Key := if b then [kD, kM] else [kD]
def keys3 (b : Bool) : List T_api_Key := if b then [kE, kA3, kB] else [kE, kA3]
def keys4 (b : Bool) : List T_api_Key := if b then [kF, kG, kD] else [kF]
def TABS (b1 b2 b3 : Bool) : List (Int × List Int × List T_api_Key) :=
  [(1, [1, 2, 4], [kA]), (2, [1, 2, 3, 4], keys2 b1), (3, [1, 2, 3, 5, 6], keys3 b2), (4, [1, 3, 5], keys4 b3)]

theorem tables_tot (c : T_mcase_Codes) (hc : CdOk c) : Tot (L_mcase_Codes_tables c) (fun r => CdOk r.2 ∧ ∃ b1 b2 b3, r.1.map projT = TABS b1 b2 b3) := by
  unfold L_mcase_Codes_tables
  refine .eq rfl (.bind (Next_tot _ 2 hc (by omega)) fun y1 h1 => .bind (Next_tot _ 5 h1.1 (by omega)) fun y2 h2 => .eq rfl (.eq rfl ?_))
  refine .bind (Next_tot _ 6 h2.1 (by omega)) fun y3 h3 => .bind (Bool_tot _ h3.1) fun y4 h4 => ?_
  refine .bind (P := fun m => (m.1.f_ID = 2 ∧ m.1.f_Actions = [1, 2, 3, 4]) ∧ ∃ b, m.2 = keys2 b) (.cond (fun _ => ?_) (fun _ => .ret ⟨⟨rfl, rfl⟩, false, rfl⟩)) fun m1 hm1 => ?_
  · exact .eq rfl (.eq (app_small _ _ (by simp) (by omega)) (.ret ⟨⟨rfl, rfl⟩, true, rfl⟩))
  refine .eq rfl (.eq rfl (.bind (Next_tot _ 6 h4 (by omega)) fun y5 h5 => .bind (Bool_tot _ h5.1) fun y6 h6 => ?_))
  refine .bind (P := fun m => (m.1.f_ID = 3 ∧ m.1.f_Actions = [1, 2, 3, 5, 6]) ∧ ∃ b, m.2 = keys3 b) (.cond (fun _ => ?_) (fun _ => .ret ⟨⟨rfl, rfl⟩, false, rfl⟩)) fun m2 hm2 => ?_
  · exact .eq rfl (.eq (app_small _ _ (by simp) (by omega)) (.ret ⟨⟨rfl, rfl⟩, true, rfl⟩))
  refine .eq rfl (.bind (Next_tot _ 5 h6 (by omega)) fun y7 h7 => .bind (Bool_tot _ h7.1) fun y8 h8 => ?_)
  refine .bind (P := fun m => (m.1.f_ID = 4 ∧ m.1.f_Actions = [1, 3, 5]) ∧ ∃ b, m.2 = keys4 b) (.cond (fun _ => ?_) (fun _ => .ret ⟨⟨rfl, rfl⟩, false, rfl⟩)) fun m3 hm3 => ?_
  · exact .eq rfl (.eq rfl (.eq (app_small _ _ (by simp) (by omega)) (.ret ⟨⟨rfl, rfl⟩, true, rfl⟩)))
  refine .eq rfl (.eq rfl (.eq rfl (.eq rfl (.eq rfl ?_))))
  obtain ⟨⟨a1, a2⟩, b1, a3⟩ := hm1
  obtain ⟨⟨c1, c2⟩, b2, c3⟩ := hm2
  obtain ⟨⟨d1, d2⟩, b3, d3⟩ := hm3
  refine Tot.loop 4 (fun k s => s.1 = (k : Int) ∧ s.2.1.map projT = TABS b1 b2 b3 ∧ CdOk s.2.2) (by omega) ⟨rfl, ?_, h8⟩ (fun k s hk hi => ?_) (fun s hi => ?_)
  · simp only [List.map_cons, List.map_nil, projT, a1, a2, a3, c1, c2, c3, d1, d2, d3, TABS]; rfl
  · obtain ⟨i, ts, cd⟩ := s; obtain ⟨e1, e2, e3⟩ := hi
    simp only at e1 e2 e3; subst e1
    refine Tot.cond (fun _ => ?_) (fun h => by simp at h; omega)
    have hl : ts.length = 4 := by rw [← List.length_map (f := projT), e2]; rfl
    refine .idx rfl (by simpa using hk) (.bind (Next_tot _ 3 e3 (by omega)) fun y9 h9 => .eq (idx_int h9.2.1 ?_) (.idx rfl (by simp only; omega) (.eq rfl (.ret ⟨w64_succ (by omega), ?_, h9.1⟩))))
    · have h10 := h9.2.2.1
      have : k = 0 ∨ k = 1 ∨ k = 2 ∨ k = 3 := by omega
      rcases this with rfl | rfl | rfl | rfl <;> exact h10
    · exact map_lset' projT rfl e2
  · obtain ⟨i, ts, cd⟩ := s; obtain ⟨e1, e2, e3⟩ := hi
    simp only at e1 e2 e3; subst e1
    refine ⟨_, rfl, ?_⟩
    exact .ret ⟨e3, b1, b2, b3, e2⟩

theorem mk_bool (n : Nat) (h : n ≤ 1000) : mkM (α := Bool) 1 (n : Int) = some (List.replicate n default) := by
  unfold mkM; rw [if_pos ⟨by omega, by omega, by omega⟩]; simp

theorem roles_tot (c : T_mcase_Codes) (ts : List T_api_Table) (hc : CdOk c) (hl : ts.length ≤ 1000) (hk : ∀ t ∈ ts, t.f_Keys.length ≤ 1000) : Tot (L_mcase_Codes_roles c ts) (fun r => CdOk r.2 ∧ r.1.map (·.f_ID) = [1, 2, 7]) := by
  unfold L_mcase_Codes_roles
  refine .bind (Next_tot _ 3 hc (by omega)) fun y1 h1 => .bind (Next_tot _ 6 h1.1 (by omega)) fun y2 h2 => .bind (Next_tot _ 6 h2.1 (by omega)) fun y3 h3 => .bind (Next_tot _ 4 h3.1 (by omega)) fun y4 h4 => ?_
  refine Tot.loop ts.length (fun k s => s.1 = (k : Int) ∧ CdOk s.2.2.2.1 ∧ s.2.2.1.length ≤ k ∧ s.2.2.2.2.2.1.length ≤ k ∧ s.2.2.2.2.2.2.2.length ≤ k ∧ s.2.1.f_ID = 7 ∧ s.2.2.2.2.1.f_ID = 2 ∧ s.2.2.2.2.2.2.1.f_ID = 1) (by omega) ⟨rfl, h4.1, by simp, by simp, by simp, rfl, rfl, rfl⟩ (fun k s hkk hi => ?_) (fun s hi => ?_)
  · obtain ⟨i, r1, g1, cd, r2, g2, r3, g3⟩ := s; obtain ⟨e1, e2, e3, e4, e5, i1, i2, i3⟩ := hi
    simp only at e1 e2 e3 e4 e5 i1 i2 i3; subst e1
    refine Tot.cond (fun _ => ?_) (fun h => by simp at h; omega)
    have hkk2 : (lget ts k).f_Keys.length ≤ 1000 := hk _ (by rw [lget_eq ts hkk]; exact List.getElem_mem hkk)
    refine .idx rfl hkk (.eq (mk_bool _ hkk2) (.eq (mk_bool _ hkk2) ?_))
    refine Tot.loop (lget ts k).f_Keys.length (fun j s => s.1 = (j : Int) ∧ s.2.1.length = (lget ts k).f_Keys.length ∧ s.2.2.1.length = (lget ts k).f_Keys.length ∧ CdOk s.2.2.2) (by omega) ⟨rfl, by simp, by simp, e2⟩ (fun j s hj hi => ?_) (fun s hi => ?_)
    · obtain ⟨i, b1, b2, cd2⟩ := s; obtain ⟨f1, f2, f3, f4⟩ := hi
      simp only at f1 f2 f3 f4; subst f1
      refine Tot.cond (fun _ => ?_) (fun h => by simp at h; omega)
      exact .bind (Next_tot _ 4 f4 (by omega)) fun y7 h7 => .idx rfl (by simp only; omega) (.idx rfl (by simp only; omega) (.ret ⟨w64_succ (by omega), by simp [lset, f2], by simp [lset, f3], h7.1⟩))
    · obtain ⟨i, b1, b2, cd2⟩ := s; obtain ⟨f1, f2, f3, f4⟩ := hi
      simp only at f1 f2 f3 f4; subst f1
      refine ⟨_, by simp; rfl, ?_⟩
      refine .eq rfl (.eq (app_small _ _ (by simp; omega) (by omega)) (.bind (Next_tot _ 4 f4 (by omega)) fun y9 h9 => ?_))
      refine .bind (P := fun m => CdOk m.1 ∧ m.2.2.length ≤ k + 1 ∧ m.2.1.f_ID = 2) (.cond (fun _ => ?_) (fun _ => .ret ⟨h9.1, by simp only; omega, i2⟩)) fun m1 hm1 => ?_
      · exact .bind (Next_tot _ 4 h9.1 (by omega)) fun y14 h14 => .bind (Bool_tot _ h14.1) fun y15 h15 => .eq rfl (.eq (app_small _ _ (by simp; omega) (by omega)) (.ret ⟨h15, by simp; omega, i2⟩))
      refine .bind (Bool_tot _ hm1.1) fun y10 h10 => ?_
      refine .bind (P := fun m => CdOk m.1 ∧ m.2.2.length ≤ k + 1 ∧ m.2.1.f_ID = 7) (.cond (fun _ => ?_) (fun _ => .ret ⟨h10, by simp only; omega, i1⟩)) fun m2 hm2 => ?_
      · exact .bind (Bool_tot _ h10) fun y11 h11 => .bind (Bool_tot _ h11) fun y12 h12 => .eq rfl (.eq (app_small _ _ (by simp; omega) (by omega)) (.ret ⟨h12, by simp; omega, i1⟩))
      exact .ret ⟨w64_succ (by omega), hm2.1, hm2.2.1, hm1.2.1, by simp; omega, hm2.2.2, hm1.2.2, i3⟩
  · obtain ⟨i, r1, g1, cd, r2, g2, r3, g3⟩ := s; obtain ⟨e1, e2, e3, e4, e5, i1, i2, i3⟩ := hi
    simp only at e1 e2 e3 e4 e5 i1 i2 i3; subst e1
    refine ⟨_, by simp; rfl, ?_⟩
    exact .eq rfl (.eq rfl (.ret ⟨e2, by simp only [List.map_cons, List.map_nil, i1, i2, i3]⟩))

def FLDS : List (Int × Int) := [(1, 16), (2, 16), (3, 8), (4, 4), (5, 4), (6, 8), (7, 32), (8, 12), (9, 4)]
def projF (f : T_api_Field) : Int × Int := (f.f_ID, f.f_Bits)

/-- a schema of the laws' cases -/
structure SchOk (s : T_api_Schema) : Prop where
  fields : s.f_Fields.map projF = FLDS
  headers : s.f_Headers.length = 3
  states : s.f_States.length = 3
  actions : s.f_Actions.map projA = ACTS
  tables : ∃ b1 b2 b3, s.f_Tables.map projT = TABS b1 b2 b3
  roles : s.f_Roles.map (·.f_ID) = [1, 2, 7]

theorem SchOk.rlen {s : T_api_Schema} (h : SchOk s) : s.f_Roles.length = 3 := by rw [← List.length_map (f := (·.f_ID)), h.roles]; rfl

theorem SchOk.flen {s : T_api_Schema} (h : SchOk s) : s.f_Fields.length = 9 := by rw [← List.length_map (f := projF), h.fields]; rfl
theorem SchOk.tlen {s : T_api_Schema} (h : SchOk s) : s.f_Tables.length = 4 := by obtain ⟨b1, b2, b3, h1⟩ := h.tables; rw [← List.length_map (f := projT), h1]; rfl
theorem SchOk.alen {s : T_api_Schema} (h : SchOk s) : s.f_Actions.length = 6 := by rw [← List.length_map (f := projA), h.actions]; rfl

theorem Schema_tot (c : T_mcase_Codes) (hc : CdOk c) : Tot (L_mcase_Codes_Schema c) (fun r => SchOk r.1 ∧ CdOk r.2) := by
  unfold L_mcase_Codes_Schema
  refine .bind (Next_tot _ 8 hc (by omega)) fun y1 h1 => .bind (Next_tot _ 30 h1.1 (by omega)) fun y2 h2 => ?_
  refine .eq rfl (.eq rfl (.eq rfl (.eq rfl (.eq rfl (.eq rfl (.eq rfl (.eq rfl (.eq rfl (.eq rfl (.eq rfl (.eq rfl ?_)))))))))))
  refine .bind (states_tot _ h2.1) fun y3 h3 => .bind (actions_tot _ h3.1) fun y4 h4 => .bind (tables_tot _ h4.1) fun y5 h5 => .eq rfl (.eq rfl ?_)
  obtain ⟨h5c, b1, b2, b3, h5⟩ := h5
  have hl : y5.1.length = 4 := by rw [← List.length_map (f := projT), h5]; rfl
  have hkeys : ∀ t ∈ y5.1, t.f_Keys.length ≤ 1000 := fun t ht => by
    have h6 : projT t ∈ TABS b1 b2 b3 := h5 ▸ List.mem_map_of_mem ht
    have h7 : ∀ p ∈ TABS b1 b2 b3, p.2.2.length ≤ 1000 := by
      intro p hp
      simp only [TABS, List.mem_cons, List.not_mem_nil, or_false] at hp
      rcases hp with rfl | rfl | rfl | rfl
      · simp
      · cases b1 <;> simp [keys2]
      · cases b2 <;> simp [keys3]
      · cases b3 <;> simp [keys4]
    exact h7 _ h6
  refine .bind (roles_tot _ _ h5c (by simp only; omega) hkeys) fun y6 h6 => .eq rfl (.bind (Bool_tot _ h6.1) fun y7 h7 => ?_)
  let Inv (s : T_api_Schema) : Prop := s.f_Fields.map projF = FLDS ∧ s.f_Headers.length = 3 ∧ s.f_States.length = 3 ∧ s.f_Actions.map projA = ACTS ∧ s.f_Tables = y5.1 ∧ s.f_Roles.map (·.f_ID) = [1, 2, 7]
  have hinv : ∀ (st : List T_api_Stage) (rf : List T_api_Ref) (s : T_api_Schema), Inv s → Inv { s with f_Stages := st, f_Refs := rf } := fun st rf s h => h
  refine .bind (P := fun _ => True) (.cond (fun _ => .eq (app_small _ _ (by simp) (by omega)) (.ret trivial)) (fun _ => .ret trivial)) fun m1 _ => ?_
  refine .bind (Bool_tot _ h7) fun y8 h8 => ?_
  refine .bind (P := fun m => Inv m.1 ∧ m.2.length ≤ 10) (.cond (fun _ => .eq rfl (.eq (app_small _ _ (by simp) (by omega)) (.ret ⟨⟨rfl, rfl, h3.2, h4.2, rfl, h6.2⟩, by simp⟩))) (fun _ => .ret ⟨⟨rfl, rfl, h3.2, h4.2, rfl, h6.2⟩, by simp⟩)) fun m2 hm2 => ?_
  refine .bind (Bool_tot _ h8) fun y9 h9 => ?_
  refine .condM (P := fun _ => True) (fun _ => ⟨2, idx_nat (k := 2) (by rw [hm2.1.2.2.2.2.1]; omega), trivial⟩) fun k1 _ => ?_
  refine .bind (P := fun m => Inv m.1 ∧ m.2.length ≤ 11) (.cond (fun _ => .eq rfl (.eq (app_small _ _ (by have := hm2.2; simp; omega) (by omega)) (.ret ⟨hm2.1, by have := hm2.2; simp; omega⟩))) (fun _ => .ret ⟨hm2.1, by have := hm2.2; simp only; omega⟩)) fun m3 hm3 => ?_
  refine .bind (Bool_tot _ h9) fun y10 h10 => ?_
  refine .condM (P := fun _ => True) (fun _ => ⟨3, idx_nat (k := 3) (by rw [hm3.1.2.2.2.2.1]; omega), trivial⟩) fun k2 _ => ?_
  refine .bind (P := fun m => Inv m.1 ∧ m.2.length ≤ 13) (.cond (fun _ => .eq rfl (.eq rfl (.eq (app_small _ _ (by have := hm3.2; simp; omega) (by omega)) (.ret ⟨hm3.1, by have := hm3.2; simp; omega⟩)))) (fun _ => .ret ⟨hm3.1, by have := hm3.2; simp only; omega⟩)) fun m4 hm4 => ?_
  obtain ⟨⟨i1, i2, i3, i4, i5, i6⟩, _⟩ := hm4
  exact .eq rfl (.ret ⟨⟨i1, i2, i3, i4, ⟨b1, b2, b3, by simp only [i5]; exact h5⟩, i6⟩, h10⟩)

theorem Mod_tot (x : Int) (n : Int) (h1 : 1 ≤ n) (h2 : n ≤ 1000000) : Tot (L_mcase_Mod x n) (fun r => 0 ≤ r ∧ r < n) := by
  unfold L_mcase_Mod
  refine .cond (fun h => by simp at h; omega) fun _ => ?_
  have hm : ∀ y : Int, modM y n = some (y.tmod n) := fun y => by unfold modM; rw [if_neg (by omega)]
  refine .eq (hm _) ?_
  have h3 := Int.tmod_lt_of_pos x (show 0 < n by omega)
  have h4 : -n < x.tmod n := by
    have := Int.tmod_lt_of_pos (-x) (show 0 < n by omega)
    rw [Int.neg_tmod] at this; omega
  rw [w64_in (by omega) (by omega)]
  exact .eq (hm _) (.ret ⟨Int.tmod_nonneg _ (by omega), Int.tmod_lt_of_pos _ (by omega)⟩)
end Go.Proofs.Ytodajdohokmjnaa
