/-
  The law SessionAllows, in plain Lean. Conditions: none.
-/
import Derived.Test.YtodajdohokmjnaaSes
namespace Go.Proofs.Ytodajdohokmjnaa
open Go Gv
set_option linter.unusedVariables false
set_option linter.unusedSimpArgs false
set_option maxRecDepth 100000

def mS (s : T_session_Session) : T_ref20_Session := { f_Controller := s.f_Controller, f_Role := s.f_Role, f_Election := s.f_Election }
def mT (t : T_session_Top) : T_ref20_Top := { f_Role := t.f_Role, f_Election := t.f_Election }
def mir (x : T_session_State) : T_ref20_State := { f_Sessions := x.f_Sessions.map mS, f_Tops := x.f_Tops.map mT }

theorem take_snoc {α β : Type} [Inhabited α] (f : α → β) (l : List α) {k : Nat} (hk : k < l.length) : (l.take k).map f ++ [f (lget l k)] = (l.take (k + 1)).map f := by
  rw [List.take_add_one, List.getElem?_eq_getElem hk, List.map_append, lget_eq l hk]; rfl

theorem rTop_eq (x : T_session_State) (r : Int) (hl : x.f_Tops.length ≤ 1000) : Tot (L_ref20_top (mir x) r) (fun y => y = sTop x r) := by
  unfold L_ref20_top
  have hf : (mir x).f_Tops.find? (fun t => t.f_Role == r) = (x.f_Tops.find? (fun t => t.f_Role == r)).map mT := List.find?_map
  have hl3 : (mir x).f_Tops.length ≤ 1000 := by show (x.f_Tops.map mT).length ≤ 1000; rw [List.length_map]; exact hl
  generalize (mir x).f_Tops = l at *
  refine find_loop l (fun s => s.f_Role == r) (by omega) (fun k hk hp => ?_) (fun k hk hq hp => ?_) (fun hq => ?_)
  · simp only [show decide ((k : Int) < (l.length : Int)) = true by simp; omega, cond_true, idx_nat hk, Option.bind_some, hp, cond_false]
  · refine ⟨_, by simp only [show decide ((k : Int) < (l.length : Int)) = true by simp; omega, cond_true, idx_nat hk, Option.bind_some, hp]; rfl, ?_⟩
    refine .ret ?_
    rw [hf] at hq
    unfold sTop
    cases h : x.f_Tops.find? (fun t => t.f_Role == r) with
    | none => rw [h] at hq; cases hq
    | some t =>
      rw [h] at hq
      have e : lget l k = mT t := (Option.some.inj hq).symm
      show (lget l k).f_Election = t.f_Election
      rw [e]; rfl
  · refine ⟨_, by simp only [show decide ((l.length : Int) < (l.length : Int)) = false by simp, cond_false]; rfl, ?_⟩
    refine .ret ?_
    rw [hf] at hq
    unfold sTop
    cases h : x.f_Tops.find? (fun t => t.f_Role == r) with
    | none => rfl
    | some t => rw [h] at hq; cases hq

theorem rOf_eq (x : T_session_State) (c : Int) (hl : x.f_Sessions.length ≤ 1000) : Tot (L_ref20_of (mir x) c) (fun y => y = ofR ((sOf x c).map mS)) := by
  unfold L_ref20_of
  have hf : (mir x).f_Sessions.find? (fun t => t.f_Controller == c) = (sOf x c).map mS := List.find?_map
  have hl3 : (mir x).f_Sessions.length ≤ 1000 := by show (x.f_Sessions.map mS).length ≤ 1000; rw [List.length_map]; exact hl
  generalize (mir x).f_Sessions = l at *
  refine find_loop l (fun s => s.f_Controller == c) (by omega) (fun k hk hp => ?_) (fun k hk hq hp => ?_) (fun hq => ?_)
  · simp only [show decide ((k : Int) < (l.length : Int)) = true by simp; omega, cond_true, idx_nat hk, Option.bind_some, hp, cond_false]
  · refine ⟨_, by simp only [show decide ((k : Int) < (l.length : Int)) = true by simp; omega, cond_true, idx_nat hk, Option.bind_some, hp]; rfl, ?_⟩
    refine .ret ?_
    rw [← hf, hq]; rfl
  · refine ⟨_, by simp only [show decide ((l.length : Int) < (l.length : Int)) = false by simp, cond_false]; rfl, ?_⟩
    refine .ret ?_
    rw [← hf, hq]; rfl

theorem rPrim_eq (x : T_session_State) (r : Int) (hl : x.f_Sessions.length ≤ 1000) (hl2 : x.f_Tops.length ≤ 1000) : Tot (L_ref20_Primary (mir x) r) (fun y => y = sPrim x r) := by
  unfold L_ref20_Primary
  have ht := rTop_eq x r hl2
  have hf : (mir x).f_Sessions.find? (fun s => s.f_Role == r && decide (s.f_Election = sTop x r)) = (x.f_Sessions.find? fun s => s.f_Role == r && decide (s.f_Election = sTop x r)).map mS := List.find?_map
  have hl3 : (mir x).f_Sessions.length ≤ 1000 := by show (x.f_Sessions.map mS).length ≤ 1000; rw [List.length_map]; exact hl
  generalize hm : (mir x).f_Sessions = l at *
  obtain ⟨y, h1, h2⟩ := ht
  subst h2
  have hstep : ∀ (s : T_ref20_Session) {ε : Type} (g : Bool → Option ε), ((condM (s.f_Role == r) true (L_ref20_top (mir x) r)).bind fun y1 => g (s.f_Role == r && decide (s.f_Election = y1))) = g (s.f_Role == r && decide (s.f_Election = sTop x r)) := fun s ε g => by
    unfold condM
    cases hr : s.f_Role == r
    · rfl
    · rw [if_pos rfl, h1]; rfl
  refine find_loop l (fun s => s.f_Role == r && decide (s.f_Election = sTop x r)) (by omega) (fun k hk hp => ?_) (fun k hk hq hp => ?_) (fun hq => ?_)
  · simp only [show decide ((k : Int) < (l.length : Int)) = true by simp; omega, cond_true, idx_nat hk, Option.bind_some]
    refine (hstep (lget l k) (fun z => cond z (some (Sum.inr (Sum.inr ((lget l k).f_Controller, true, (k : Int), true, z)))) (some (Sum.inl (w64 ((k : Int) + 1)))))).trans ?_
    simp only [hp, cond_false]
  · refine ⟨((lget l k).f_Controller, true, (k : Int), true, true) |> Sum.inr, ?_, ?_⟩
    · simp only [show decide ((k : Int) < (l.length : Int)) = true by simp; omega, cond_true, idx_nat hk, Option.bind_some]
      refine (hstep (lget l k) (fun z => cond z (some (Sum.inr (Sum.inr ((lget l k).f_Controller, true, (k : Int), true, z)))) (some (Sum.inl (w64 ((k : Int) + 1)))))).trans ?_
      simp only [hp, cond_true]
    · refine .ret ?_
      rw [hf] at hq
      unfold sPrim
      cases h : x.f_Sessions.find? fun s => s.f_Role == r && decide (s.f_Election = sTop x r) with
      | none => rw [h] at hq; cases hq
      | some t =>
        rw [h] at hq
        have e : lget l k = mS t := (Option.some.inj hq).symm
        show ((lget l k).f_Controller, true) = (t.f_Controller, true)
        rw [e]; rfl
  · refine ⟨_, by simp only [show decide ((l.length : Int) < (l.length : Int)) = false by simp, cond_false]; rfl, ?_⟩
    refine .ret ?_
    rw [hf] at hq
    unfold sPrim
    cases h : x.f_Sessions.find? fun s => s.f_Role == r && decide (s.f_Election = sTop x r) with
    | none => rfl
    | some t => rw [h] at hq; cases hq

end Go.Proofs.Ytodajdohokmjnaa
