/-
  The numbers that a schema uses: what the reference collects of them. Conditions: none.
-/
import Derived.Test.YtodajdohokmjnaaSch
namespace Go.Proofs.Ytodajdohokmjnaa
open Go Gv
set_option linter.unusedVariables false
set_option linter.unusedSimpArgs false
set_option maxRecDepth 100000

structure IdsOf (s : T_api_Schema) (r : Vector (List Int) 6) : Prop where
  fields : vget r 0 = s.f_Fields.map (·.f_ID)
  headers : vget r 1 = s.f_Headers.map (·.f_ID)
  states : vget r 2 = s.f_States.map (·.f_ID)
  actions : vget r 3 = s.f_Actions.map (·.f_ID)
  tables : vget r 4 = s.f_Tables.map (·.f_ID)
  roles : vget r 5 = s.f_Roles.map (·.f_ID)

theorem ids_ok {s : T_api_Schema} (h : SchOk s) : Tot (L_ref04_ids s) (IdsOf s) := by
  unfold L_ref04_ids
  have l1 := h.flen; have l2 := h.headers; have l3 := h.states; have l4 := h.alen; have l5 := h.tlen; have l6 := h.rlen
  refine Tot.loop s.f_Fields.length (fun k st => st.1 = (k : Int) ∧ st.2.1 = (s.f_Fields.take k).map (·.f_ID)) (by omega) ⟨rfl, rfl⟩ (fun k st hk hi => ?_) (fun st hi => ?_)
  · obtain ⟨i, a, v⟩ := st; obtain ⟨e1, e2⟩ := hi; simp only at e1 e2; subst e1; subst e2
    refine Tot.cond (fun _ => ?_) (fun h => by simp at h; omega)
    exact .idx rfl hk (.eq (app_small _ _ (by simp; omega) (by omega)) (.ret ⟨w64_succ (by omega), by rw [take_succ_lget _ hk, List.map_append]; rfl⟩))
  obtain ⟨i, a0, v⟩ := st; obtain ⟨e1, e2⟩ := hi; simp only at e1 e2; subst e1; subst e2
  refine ⟨_, by simp only [show decide ((s.f_Fields.length : Int) < (s.f_Fields.length : Int)) = false by simp, cond_false]; rfl, ?_⟩
  refine Tot.loop s.f_Headers.length (fun k st => st.1 = (k : Int) ∧ st.2.1 = (s.f_Headers.take k).map (·.f_ID)) (by omega) ⟨rfl, rfl⟩ (fun k st hk hi => ?_) (fun st hi => ?_)
  · obtain ⟨i, a, v⟩ := st; obtain ⟨e1, e2⟩ := hi; simp only at e1 e2; subst e1; subst e2
    refine Tot.cond (fun _ => ?_) (fun h => by simp at h; omega)
    exact .idx rfl hk (.eq (app_small _ _ (by simp; omega) (by omega)) (.ret ⟨w64_succ (by omega), by rw [take_succ_lget _ hk, List.map_append]; rfl⟩))
  obtain ⟨i, a1, v⟩ := st; obtain ⟨e1, e2⟩ := hi; simp only at e1 e2; subst e1; subst e2
  refine ⟨_, by simp only [show decide ((s.f_Headers.length : Int) < (s.f_Headers.length : Int)) = false by simp, cond_false]; rfl, ?_⟩
  refine Tot.loop s.f_States.length (fun k st => st.1 = (k : Int) ∧ st.2.1 = (s.f_States.take k).map (·.f_ID)) (by omega) ⟨rfl, rfl⟩ (fun k st hk hi => ?_) (fun st hi => ?_)
  · obtain ⟨i, a, v⟩ := st; obtain ⟨e1, e2⟩ := hi; simp only at e1 e2; subst e1; subst e2
    refine Tot.cond (fun _ => ?_) (fun h => by simp at h; omega)
    exact .idx rfl hk (.eq (app_small _ _ (by simp; omega) (by omega)) (.ret ⟨w64_succ (by omega), by rw [take_succ_lget _ hk, List.map_append]; rfl⟩))
  obtain ⟨i, a2, v⟩ := st; obtain ⟨e1, e2⟩ := hi; simp only at e1 e2; subst e1; subst e2
  refine ⟨_, by simp only [show decide ((s.f_States.length : Int) < (s.f_States.length : Int)) = false by simp, cond_false]; rfl, ?_⟩
  refine Tot.loop s.f_Actions.length (fun k st => st.1 = (k : Int) ∧ st.2.1 = (s.f_Actions.take k).map (·.f_ID)) (by omega) ⟨rfl, rfl⟩ (fun k st hk hi => ?_) (fun st hi => ?_)
  · obtain ⟨i, a, v⟩ := st; obtain ⟨e1, e2⟩ := hi; simp only at e1 e2; subst e1; subst e2
    refine Tot.cond (fun _ => ?_) (fun h => by simp at h; omega)
    exact .idx rfl hk (.eq (app_small _ _ (by simp; omega) (by omega)) (.ret ⟨w64_succ (by omega), by rw [take_succ_lget _ hk, List.map_append]; rfl⟩))
  obtain ⟨i, a3, v⟩ := st; obtain ⟨e1, e2⟩ := hi; simp only at e1 e2; subst e1; subst e2
  refine ⟨_, by simp only [show decide ((s.f_Actions.length : Int) < (s.f_Actions.length : Int)) = false by simp, cond_false]; rfl, ?_⟩
  refine Tot.loop s.f_Tables.length (fun k st => st.1 = (k : Int) ∧ st.2.1 = (s.f_Tables.take k).map (·.f_ID)) (by omega) ⟨rfl, rfl⟩ (fun k st hk hi => ?_) (fun st hi => ?_)
  · obtain ⟨i, a, v⟩ := st; obtain ⟨e1, e2⟩ := hi; simp only at e1 e2; subst e1; subst e2
    refine Tot.cond (fun _ => ?_) (fun h => by simp at h; omega)
    exact .idx rfl hk (.eq (app_small _ _ (by simp; omega) (by omega)) (.ret ⟨w64_succ (by omega), by rw [take_succ_lget _ hk, List.map_append]; rfl⟩))
  obtain ⟨i, a4, v⟩ := st; obtain ⟨e1, e2⟩ := hi; simp only at e1 e2; subst e1; subst e2
  refine ⟨_, by simp only [show decide ((s.f_Tables.length : Int) < (s.f_Tables.length : Int)) = false by simp, cond_false]; rfl, ?_⟩
  refine Tot.loop s.f_Roles.length (fun k st => st.1 = (k : Int) ∧ st.2.1 = (s.f_Roles.take k).map (·.f_ID)) (by omega) ⟨rfl, rfl⟩ (fun k st hk hi => ?_) (fun st hi => ?_)
  · obtain ⟨i, a, v⟩ := st; obtain ⟨e1, e2⟩ := hi; simp only at e1 e2; subst e1; subst e2
    refine Tot.cond (fun _ => ?_) (fun h => by simp at h; omega)
    exact .idx rfl hk (.eq (app_small _ _ (by simp; omega) (by omega)) (.ret ⟨w64_succ (by omega), by rw [take_succ_lget _ hk, List.map_append]; rfl⟩))
  obtain ⟨i, a5, v⟩ := st; obtain ⟨e1, e2⟩ := hi; simp only at e1 e2; subst e1; subst e2
  refine ⟨_, by simp only [show decide ((s.f_Roles.length : Int) < (s.f_Roles.length : Int)) = false by simp, cond_false]; rfl, ?_⟩
  refine .eq rfl (.ret ⟨?_, ?_, ?_, ?_, ?_, ?_⟩)
  · simp only [List.take_length]
    rw [vget_vset _ _ (by omega), if_neg (by omega), vget_vset _ _ (by omega), if_neg (by omega), vget_vset _ _ (by omega), if_neg (by omega), vget_vset _ _ (by omega), if_neg (by omega), vget_vset _ _ (by omega), if_neg (by omega), vget_vset _ _ (by omega), if_pos rfl]
  · simp only [List.take_length]
    rw [vget_vset _ _ (by omega), if_neg (by omega), vget_vset _ _ (by omega), if_neg (by omega), vget_vset _ _ (by omega), if_neg (by omega), vget_vset _ _ (by omega), if_neg (by omega), vget_vset _ _ (by omega), if_pos rfl]
  · simp only [List.take_length]
    rw [vget_vset _ _ (by omega), if_neg (by omega), vget_vset _ _ (by omega), if_neg (by omega), vget_vset _ _ (by omega), if_neg (by omega), vget_vset _ _ (by omega), if_pos rfl]
  · simp only [List.take_length]
    rw [vget_vset _ _ (by omega), if_neg (by omega), vget_vset _ _ (by omega), if_neg (by omega), vget_vset _ _ (by omega), if_pos rfl]
  · simp only [List.take_length]
    rw [vget_vset _ _ (by omega), if_neg (by omega), vget_vset _ _ (by omega), if_pos rfl]
  · simp only [List.take_length]
    rw [vget_vset _ _ (by omega), if_pos rfl]

theorem idx_of (l : List Int) (x : Int) (hl : l.length < 2 ^ 30) : Tot (L_ref04_index l x) (fun r => (r = -1 ∧ x ∉ l) ∨ ∃ k : Nat, k < l.length ∧ r = (k : Int) ∧ lget l k = x) := by
  unfold L_ref04_index
  refine find_loop l (fun y => y == x) (by omega) (fun k hk hp => ?_) (fun k hk hq hp => ?_) (fun hq => ?_)
  · simp only [show decide ((k : Int) < (l.length : Int)) = true by simp; omega, cond_true, idx_nat hk, Option.bind_some, hp, cond_false]
  · refine ⟨_, by simp only [show decide ((k : Int) < (l.length : Int)) = true by simp; omega, cond_true, idx_nat hk, Option.bind_some, hp]; rfl, ?_⟩
    exact .ret (.inr ⟨k, hk, rfl, by simpa using hp⟩)
  · refine ⟨_, by simp only [show decide ((l.length : Int) < (l.length : Int)) = false by simp, cond_false]; rfl, ?_⟩
    refine .ret (.inl ⟨rfl, fun hx => ?_⟩)
    have := List.find?_eq_none.1 hq x hx
    simp at this
end Go.Proofs.Ytodajdohokmjnaa
