/-
  The law SessionAllows, in plain Lean. Conditions: none.
-/
import Derived.Test.YtodajdohokmjnaaSes
namespace Go.Proofs.Ytodajdohokmjnaa
open Go Gv
set_option linter.unusedVariables false
set_option linter.unusedSimpArgs false
set_option maxRecDepth 100000

def mS (s : T_session_Session) : T_ref20_Session := { f_Controller := s.f_Controller, f_Role := s.f_Role, f_Election := s.f_Election }
def mT (t : T_session_Top) : T_ref20_Top := { f_Role := t.f_Role, f_Election := t.f_Election }
def mir (x : T_session_State) : T_ref20_State := { f_Sessions := x.f_Sessions.map mS, f_Tops := x.f_Tops.map mT }

theorem take_snoc {α β : Type} [Inhabited α] (f : α → β) (l : List α) {k : Nat} (hk : k < l.length) : (l.take k).map f ++ [f (lget l k)] = (l.take (k + 1)).map f := by
  rw [List.take_add_one, List.getElem?_eq_getElem hk, List.map_append, lget_eq l hk]; rfl

theorem mirror_eq (x : T_session_State) (hl : x.f_Sessions.length ≤ 1000) (hl2 : x.f_Tops.length ≤ 1000) : Tot (L_law20_mirror x) (fun y => y = mir x) := by
  unfold L_law20_mirror
  refine Tot.loop x.f_Sessions.length (fun k s => s.1 = (k : Int) ∧ s.2.1 = (x.f_Sessions.take k).map mS ∧ s.2.2.f_Tops = []) (by omega) ⟨rfl, rfl, rfl⟩ (fun k s hk hi => ?_) (fun s hi => ?_)
  · obtain ⟨i, l, z⟩ := s; obtain ⟨e1, e2, e3⟩ := hi
    simp only at e1 e2 e3; subst e1
    refine Tot.cond (fun _ => ?_) (fun h => by simp at h; omega)
    exact .idx rfl hk (.eq rfl (.eq (app_small _ _ (by rw [e2]; simp; omega) (by omega)) (.ret ⟨w64_succ (by omega), by simp only; rw [e2, ← take_snoc mS _ hk]; rfl, e3⟩)))
  obtain ⟨i, l, z⟩ := s; obtain ⟨e1, e2, e3⟩ := hi
  simp only at e1 e2 e3; subst e1
  refine ⟨_, by simp only [show decide ((x.f_Sessions.length : Int) < (x.f_Sessions.length : Int)) = false by simp, cond_false]; rfl, ?_⟩
  refine Tot.loop x.f_Tops.length (fun k s => s.1 = (k : Int) ∧ s.2.1 = (x.f_Tops.take k).map mT) (by omega) ⟨rfl, rfl⟩ (fun k s hk hi => ?_) (fun s hi => ?_)
  · obtain ⟨i, l2, z2⟩ := s; obtain ⟨f1, f2⟩ := hi
    simp only at f1 f2; subst f1
    refine Tot.cond (fun _ => ?_) (fun h => by simp at h; omega)
    exact .idx rfl hk (.eq rfl (.eq (app_small _ _ (by rw [f2]; simp; omega) (by omega)) (.ret ⟨w64_succ (by omega), by simp only; rw [f2, ← take_snoc mT _ hk]; rfl⟩)))
  obtain ⟨i, l2, z2⟩ := s; obtain ⟨f1, f2⟩ := hi
  simp only at f1 f2; subst f1
  refine ⟨_, by simp only [show decide ((x.f_Tops.length : Int) < (x.f_Tops.length : Int)) = false by simp, cond_false]; rfl, ?_⟩
  refine .eq rfl (.ret ?_)
  simp only [e2, f2, List.take_length]
  rfl

theorem rTop_eq (x : T_session_State) (r : Int) (hl : x.f_Tops.length ≤ 1000) : Tot (L_ref20_top (mir x) r) (fun y => y = sTop x r) := by
  unfold L_ref20_top
  have hf : (mir x).f_Tops.find? (fun t => t.f_Role == r) = (x.f_Tops.find? (fun t => t.f_Role == r)).map mT := List.find?_map
  have hl3 : (mir x).f_Tops.length ≤ 1000 := by show (x.f_Tops.map mT).length ≤ 1000; rw [List.length_map]; exact hl
  generalize (mir x).f_Tops = l at *
  refine find_loop l (fun s => s.f_Role == r) (by omega) (fun k hk hp => ?_) (fun k hk hq hp => ?_) (fun hq => ?_)
  · simp only [show decide ((k : Int) < (l.length : Int)) = true by simp; omega, cond_true, idx_nat hk, Option.bind_some, hp, cond_false]
  · refine ⟨_, by simp only [show decide ((k : Int) < (l.length : Int)) = true by simp; omega, cond_true, idx_nat hk, Option.bind_some, hp]; rfl, ?_⟩
    refine .ret ?_
    rw [hf] at hq
    unfold sTop
    cases h : x.f_Tops.find? (fun t => t.f_Role == r) with
    | none => rw [h] at hq; cases hq
    | some t =>
      rw [h] at hq
      have e : lget l k = mT t := (Option.some.inj hq).symm
      show (lget l k).f_Election = t.f_Election
      rw [e]; rfl
  · refine ⟨_, by simp only [show decide ((l.length : Int) < (l.length : Int)) = false by simp, cond_false]; rfl, ?_⟩
    refine .ret ?_
    rw [hf] at hq
    unfold sTop
    cases h : x.f_Tops.find? (fun t => t.f_Role == r) with
    | none => rfl
    | some t => rw [h] at hq; cases hq

theorem rOf_eq (x : T_session_State) (c : Int) (hl : x.f_Sessions.length ≤ 1000) : Tot (L_ref20_of (mir x) c) (fun y => y = ofR ((sOf x c).map mS)) := by
  unfold L_ref20_of
  have hf : (mir x).f_Sessions.find? (fun t => t.f_Controller == c) = (sOf x c).map mS := List.find?_map
  have hl3 : (mir x).f_Sessions.length ≤ 1000 := by show (x.f_Sessions.map mS).length ≤ 1000; rw [List.length_map]; exact hl
  generalize (mir x).f_Sessions = l at *
  refine find_loop l (fun s => s.f_Controller == c) (by omega) (fun k hk hp => ?_) (fun k hk hq hp => ?_) (fun hq => ?_)
  · simp only [show decide ((k : Int) < (l.length : Int)) = true by simp; omega, cond_true, idx_nat hk, Option.bind_some, hp, cond_false]
  · refine ⟨_, by simp only [show decide ((k : Int) < (l.length : Int)) = true by simp; omega, cond_true, idx_nat hk, Option.bind_some, hp]; rfl, ?_⟩
    refine .ret ?_
    rw [← hf, hq]; rfl
  · refine ⟨_, by simp only [show decide ((l.length : Int) < (l.length : Int)) = false by simp, cond_false]; rfl, ?_⟩
    refine .ret ?_
    rw [← hf, hq]; rfl

theorem rPrim_eq (x : T_session_State) (r : Int) (hl : x.f_Sessions.length ≤ 1000) (hl2 : x.f_Tops.length ≤ 1000) : Tot (L_ref20_Primary (mir x) r) (fun y => y = sPrim x r) := by
  unfold L_ref20_Primary
  have ht := rTop_eq x r hl2
  have hf : (mir x).f_Sessions.find? (fun s => s.f_Role == r && decide (s.f_Election = sTop x r)) = (x.f_Sessions.find? fun s => s.f_Role == r && decide (s.f_Election = sTop x r)).map mS := List.find?_map
  have hl3 : (mir x).f_Sessions.length ≤ 1000 := by show (x.f_Sessions.map mS).length ≤ 1000; rw [List.length_map]; exact hl
  generalize hm : (mir x).f_Sessions = l at *
  obtain ⟨y, h1, h2⟩ := ht
  subst h2
  have hstep : ∀ (s : T_ref20_Session) {ε : Type} (g : Bool → Option ε), ((condM (s.f_Role == r) true (L_ref20_top (mir x) r)).bind fun y1 => g (s.f_Role == r && decide (s.f_Election = y1))) = g (s.f_Role == r && decide (s.f_Election = sTop x r)) := fun s ε g => by
    unfold condM
    cases hr : s.f_Role == r
    · rfl
    · rw [if_pos rfl, h1]; rfl
  refine find_loop l (fun s => s.f_Role == r && decide (s.f_Election = sTop x r)) (by omega) (fun k hk hp => ?_) (fun k hk hq hp => ?_) (fun hq => ?_)
  · simp only [show decide ((k : Int) < (l.length : Int)) = true by simp; omega, cond_true, idx_nat hk, Option.bind_some]
    refine (hstep (lget l k) (fun z => cond z (some (Sum.inr (Sum.inr ((lget l k).f_Controller, true, (k : Int), true, z)))) (some (Sum.inl (w64 ((k : Int) + 1)))))).trans ?_
    simp only [hp, cond_false]
  · refine ⟨((lget l k).f_Controller, true, (k : Int), true, true) |> Sum.inr, ?_, ?_⟩
    · simp only [show decide ((k : Int) < (l.length : Int)) = true by simp; omega, cond_true, idx_nat hk, Option.bind_some]
      refine (hstep (lget l k) (fun z => cond z (some (Sum.inr (Sum.inr ((lget l k).f_Controller, true, (k : Int), true, z)))) (some (Sum.inl (w64 ((k : Int) + 1)))))).trans ?_
      simp only [hp, cond_true]
    · refine .ret ?_
      rw [hf] at hq
      unfold sPrim
      cases h : x.f_Sessions.find? fun s => s.f_Role == r && decide (s.f_Election = sTop x r) with
      | none => rw [h] at hq; cases hq
      | some t =>
        rw [h] at hq
        have e : lget l k = mS t := (Option.some.inj hq).symm
        show ((lget l k).f_Controller, true) = (t.f_Controller, true)
        rw [e]; rfl
  · refine ⟨_, by simp only [show decide ((l.length : Int) < (l.length : Int)) = false by simp, cond_false]; rfl, ?_⟩
    refine .ret ?_
    rw [hf] at hq
    unfold sPrim
    cases h : x.f_Sessions.find? fun s => s.f_Role == r && decide (s.f_Election = sTop x r) with
    | none => rfl
    | some t => rw [h] at hq; cases hq

theorem rCheck_eq {n : Nat} {x : T_session_State} (hx : StOk n x) (c r : Int) (hl : x.f_Sessions.length ≤ 1000) : Tot (L_ref20_Check (mir x) c r) (fun y => y = chkS x c r) := by
  unfold L_ref20_Check
  have hctl : (decide (c < 0) || decide (c ≥ 6)) = !ctl c := by
    rw [Bool.eq_iff_iff]; simp [ctl]
  rw [hctl]
  refine .cond (fun h => .ret ?_) fun h => ?_
  · have hc : ctl c = false := by simpa using h
    unfold chkS
    cases hs : sOf x c with
    | none => simp [hc]
    | some s =>
      exfalso
      have h1 := List.mem_of_find?_eq_some hs
      have h2 := List.find?_some hs
      simp only [beq_iff_eq] at h2
      have h3 := hx.ctl s h1
      rw [h2] at h3
      rw [ctl_iff.2 h3] at hc
      cases hc
  have hc : ctl c = true := by simpa using h
  refine (rOf_eq x c hl).bind fun y1 h1 => ?_
  subst h1
  unfold chkS
  cases hs : sOf x c with
  | none => exact .cond (fun _ => .ret (by simp [hc])) (fun h => by cases h)
  | some s =>
    refine .cond (fun h => .ret ?_) (fun h => .ret ?_)
    · have : s.f_Role ≠ r := by simpa [ofR, mS] using h
      simp [this, hc]
    · have : s.f_Role = r := by simpa [ofR, mS] using h
      simp [this]

theorem rAllow_eq {n : Nat} {x : T_session_State} (hx : StOk n x) (c r : Int) (e : T_api_Value) (hl : x.f_Sessions.length ≤ 1000) (hl2 : x.f_Tops.length ≤ 1000) : Tot (L_ref20_Allow (mir x) c r e) (fun y => y = alwS x c r e) := by
  unfold L_ref20_Allow alwS
  refine (rCheck_eq hx c r hl).bind fun y1 h1 => ?_
  subst h1
  refine .cond (fun h => .ret ?_) fun h => ?_
  · rw [if_pos (by simpa using h)]
  rw [if_neg (by simpa using h)]
  refine (rOf_eq x c hl).bind fun y2 h2 => ?_
  have he : (ofR ((sOf x c).map mS)).1.f_Election = (ofR (sOf x c)).1.f_Election := by cases sOf x c <;> rfl
  subst h2
  rw [he]
  refine .cond (fun h => .ret ?_) fun h => ?_
  · rw [if_pos (by simpa using h)]
  rw [if_neg (by simpa using h)]
  refine (rPrim_eq x r hl hl2).bind fun y3 h3 => ?_
  subst h3
  rw [prim_ne]
  refine .cond (fun h => .ret ?_) fun h => .ret ?_
  · rw [if_pos (by simpa using h)]
  · rw [if_neg (by simpa using h)]

theorem SessionAllows_plain (x0 : List (BitVec 8)) (x1 : List T_law20_Op) (x2 x3 : Int) (x4 : T_api_Value) : L_law20_SessionAllows x0 x1 x2 x3 x4 = some true := by
  suffices h : Tot (L_law20_SessionAllows x0 x1 x2 x3 x4) (fun r => r = true) by obtain ⟨r, h1, h2⟩ := h; rw [h1, h2]
  unfold L_law20_SessionAllows
  refine (New_tot x0 120 (by omega) (by omega)).bind fun y1 h1 => (Schema_tot y1 h1).bind fun y2 h2 => (play_tot h2.1 x1).bind fun x hx => ?_
  obtain ⟨hx, _⟩ := hx
  have b1 := hx.sl; have b2 := hx.tl
  refine (mirror_eq x (by omega) (by omega)).bind fun y4 h4 => ?_
  subst h4
  refine Tot.loop 6 (fun k s => s = (k : Int)) (by omega) rfl (fun k s hk hi => ?_) (fun s hi => ?_)
  · subst hi
    refine Tot.cond (fun _ => ?_) (fun h => by simp at h; omega)
    refine .idx rfl (by simpa using hk) ?_
    generalize lget [x2, 0, 1, 2, 3, 4] k = c
    refine Tot.loop 4 (fun k s => s = (k : Int)) (by omega) rfl (fun k2 s hk2 hi => ?_) (fun s hi => ?_)
    · subst hi
      refine Tot.cond (fun _ => ?_) (fun h => by simp at h; omega)
      refine .idx rfl (by simpa using hk2) (.eq (a := x4.f_Lo % 6#64) (by unfold uremM; rw [if_neg (by decide)]) (.eq rfl ?_))
      generalize lget [x3, 1, 2, 7] k2 = r
      refine Tot.loop 4 (fun k s => s = (k : Int)) (by omega) rfl (fun k3 s hk3 hi => ?_) (fun s hi => ?_)
      · subst hi
        refine Tot.cond (fun _ => ?_) (fun h => by simp at h; omega)
        refine .idx rfl (by simpa using hk3) ((Allow_eq x c r _ (by omega) (by omega)).bind fun y6 h6 => (rAllow_eq hx c r _ (by omega) (by omega)).bind fun y7 h7 => ?_)
        have e67 : (y6 != y7) = false := by rw [h6, h7]; simp
        rw [e67]
        refine .condM (P := fun y => y = chkS x c r) (fun _ => Check_eq x c r (by omega)) fun y8 h8 => .condM (P := fun y => y = chkS x c r) (fun _ => rCheck_eq hx c r (by omega)) fun y9 h9 => ?_
        have e89 : (false || (y8 != y9)) = false := by rw [h8 rfl, h9 rfl]; simp
        rw [e89]
        exact .cond (fun h => by cases h) fun _ => .ret (w64_succ (by omega))
      · subst hi
        refine ⟨_, rfl, ?_⟩
        simp only [Sum.elim_inl]
        refine (Primary_eq x r (by omega) (by omega)).bind fun y10 h10 => (rPrim_eq x r (by omega) (by omega)).bind fun y11 h11 => ?_
        have e : ((y10.1 != y11.1) || (y10.2 != y11.2)) = false := by rw [h10, h11]; simp
        rw [e]
        exact .cond (fun h => by cases h) fun _ => .ret (w64_succ (by omega))
    · subst hi
      refine ⟨_, rfl, ?_⟩
      exact .ret (w64_succ (by omega))
  · subst hi
    refine ⟨_, rfl, ?_⟩
    exact .eq begun20_ok (.ret rfl)
end Go.Proofs.Ytodajdohokmjnaa
