/-
  What instances of package slices compute: searching, deleting, copying. Printed by gen_sl.py. Conditions: none.
-/
import Derived.Test.YtodajdohokmjnaaPlA
import Derived.Test.YtodajdohokmjnaaDl
namespace Go.Proofs.Ytodajdohokmjnaa
open Go Gv
set_option linter.unusedVariables false
set_option linter.unusedSimpArgs false

theorem IndexFunc_cube_Cube {xs : List T_cube_Cube} {f : T_cube_Cube → Option Bool} {g : T_cube_Cube → Bool} (hf : ∀ x ∈ xs, f x = some (g x)) (hl : xs.length < 2 ^ 62) :
    Tot (L_slices_IndexFunc_cube_Cube xs f) (fun r => (r = -1 ∧ ∀ x ∈ xs, g x = false) ∨ ∃ i : Nat, i < xs.length ∧ r = i ∧ g (lget xs i) = true ∧ ∀ j, j < i → g (lget xs j) = false) := by
  unfold L_slices_IndexFunc_cube_Cube
  refine Tot.loop xs.length (fun k s => s = (k : Int) ∧ ∀ j, j < k → g (lget xs j) = false) (by omega) ⟨rfl, fun j hj => by omega⟩ (fun k s hk hi => ?_) (fun s hi => ?_)
  · obtain ⟨e1, e2⟩ := hi; subst e1
    refine Tot.cond (fun _ => ?_) (fun h => by simp at h; omega)
    refine .idx rfl hk (.eq (hf _ (by rw [lget_eq xs hk]; exact List.getElem_mem hk)) (.cond (fun h => .ret ?_) (fun h => .ret ⟨w64_succ (by omega), fun j hj => ?_⟩)))
    · exact .ret (.inr ⟨k, hk, rfl, h, e2⟩)
    · by_cases hjk : j = k
      · subst hjk; exact h
      · exact e2 j (by omega)
  · obtain ⟨e1, e2⟩ := hi; subst e1
    refine ⟨_, by simp; rfl, ?_⟩
    refine .ret (.inl ⟨rfl, fun x hx => ?_⟩)
    obtain ⟨j, hj, rfl⟩ := List.mem_iff_getElem.1 hx
    rw [← lget_eq xs hj]; exact e2 j hj

theorem ContainsFunc_cube_Cube {xs : List T_cube_Cube} {f : T_cube_Cube → Option Bool} {g : T_cube_Cube → Bool} (hf : ∀ x ∈ xs, f x = some (g x)) (hl : xs.length < 2 ^ 62) :
    Tot (L_slices_ContainsFunc_cube_Cube xs f) (fun r => r = xs.any g) := by
  unfold L_slices_ContainsFunc_cube_Cube
  refine (IndexFunc_cube_Cube hf hl).bind fun r hr => .ret ?_
  rcases hr with ⟨h1, h2⟩ | ⟨i, h1, h2, h3, h4⟩
  · subst h1
    symm
    rw [List.any_eq_false.2 (fun x hx => by rw [h2 x hx]; simp)]
    rfl
  · subst h2
    symm
    rw [List.any_eq_true.2 ⟨lget xs i, by rw [lget_eq xs h1]; exact List.getElem_mem h1, h3⟩]
    simp

theorem DeleteFunc_cube_Cube {xs : List T_cube_Cube} {f : T_cube_Cube → Option Bool} {g : T_cube_Cube → Bool} (hf : ∀ x ∈ xs, f x = some (g x)) (hl : xs.length < 2 ^ 62) :
    Tot (Lp0_slices_DeleteFunc_cube_Cube xs f) (fun r => r = xs.filter (fun x => !g x)) := by
  unfold Lp0_slices_DeleteFunc_cube_Cube
  refine (IndexFunc_cube_Cube hf hl).bind fun r hr => ?_
  rcases hr with ⟨h1, h2⟩ | ⟨i0, h1, h2, h3, h4⟩
  · subst h1
    exact .cond (fun _ => .ret (List.filter_eq_self.2 fun x hx => by rw [h2 x hx]; rfl).symm) (fun h => by simp at h)
  · subst h2
    refine .cond (fun h => absurd h (by simp <;> omega)) (fun _ => ?_)
    refine Tot.loop (xs.length - (i0 + 1)) (fun k s => s.2.1 = ((i0 + 1 + k : Nat) : Int) ∧ s.2.2.length = xs.length ∧ ∃ i : Nat, s.1 = i ∧ i < i0 + 1 + k ∧ s.2.2.take i = (xs.take (i0 + 1 + k)).filter (fun x => !g x) ∧ s.2.2.drop (i0 + 1 + k) = xs.drop (i0 + 1 + k)) (by omega)
      ⟨w64_succ (by omega), rfl, i0, rfl, by omega, ?_, rfl⟩ (fun k s hk hi => ?_) (fun s hi => ?_)
    · show xs.take i0 = _
      rw [Nat.add_zero, List.take_add_one, List.getElem?_eq_getElem h1, List.filter_append]
      rw [lget_eq xs h1] at h3
      simp only [Option.toList_some, List.filter_cons, h3, Bool.not_true, Bool.false_eq_true, if_false, List.filter_nil, List.append_nil]
      symm
      refine List.filter_eq_self.2 fun x hx => ?_
      obtain ⟨j, hj, rfl⟩ := List.mem_iff_getElem.1 hx
      have hj' : j < i0 := by rw [List.length_take] at hj; omega
      rw [List.getElem_take, ← lget_eq xs (by omega), h4 j hj']; rfl
    · obtain ⟨si, sj, ys⟩ := s; obtain ⟨e1, e2, i, e3, e4, e5, e6⟩ := hi
      simp only at e1 e2 e3 e5 e6
      subst e1; subst e3
      have hj : i0 + 1 + k < xs.length := by omega
      have hv : lget ys (i0 + 1 + k) = lget xs (i0 + 1 + k) := by
        unfold lget
        have := congrArg (fun l => l[0]?) e6
        simp only [List.getElem?_drop, Nat.add_zero] at this
        rw [this]
      refine Tot.cond (fun _ => ?_) (fun h => by simp only [decide_eq_false_iff_not] at h; omega)
      refine .idx rfl (show i0 + 1 + k < ys.length by omega) ?_
      show Tot ((f (lget ys (i0 + 1 + k))).bind _) _
      rw [hv]
      refine .eq (hf _ (by rw [lget_eq xs hj]; exact List.getElem_mem hj)) ?_
      have hnext : w64 ((i0 + 1 + k : Nat) + 1 : Int) = ((i0 + 1 + (k + 1) : Nat) : Int) := by rw [w64_succ (by omega)]; rfl
      have htk : xs.take (i0 + 1 + (k + 1)) = xs.take (i0 + 1 + k) ++ [lget xs (i0 + 1 + k)] := by
        rw [← Nat.add_assoc, List.take_add_one, List.getElem?_eq_getElem hj, lget_eq xs hj]; rfl
      refine .bind (P := fun m : Int × List T_cube_Cube => m.2.length = xs.length ∧ ∃ i : Nat, m.1 = i ∧ i < i0 + 1 + (k + 1) ∧ m.2.take i = (xs.take (i0 + 1 + (k + 1))).filter (fun x => !g x) ∧ m.2.drop (i0 + 1 + (k + 1)) = xs.drop (i0 + 1 + (k + 1))) (.cond (fun h => ?_) (fun h => .ret ?_)) fun m hm => .ret ⟨hnext, hm⟩
      · refine .idx rfl (show i < ys.length by omega) (.ret ⟨by simp [lset]; exact e2, i + 1, w64_succ (by omega), by omega, ?_, ?_⟩)
        · rw [htk, List.filter_append, ← e5, lset, List.take_add_one, List.take_set, List.set_eq_of_length_le (by rw [List.length_take]; omega), List.getElem?_set_self (show i < ys.length by omega)]
          simp only [List.filter_cons, List.filter_nil, h, if_true, Option.toList_some]
        · have : (ys.drop (i0 + 1 + k)).drop 1 = (xs.drop (i0 + 1 + k)).drop 1 := by rw [e6]
          rw [List.drop_drop, List.drop_drop] at this
          rw [lset, List.drop_set_of_lt (by omega)]
          exact this
      · refine ⟨e2, i, rfl, by omega, ?_, ?_⟩
        · rw [htk, List.filter_append, ← e5]
          simp only [List.filter_cons, List.filter_nil, h, Bool.false_eq_true, if_false, List.append_nil]
        · have : (ys.drop (i0 + 1 + k)).drop 1 = (xs.drop (i0 + 1 + k)).drop 1 := by rw [e6]
          rw [List.drop_drop, List.drop_drop] at this
          exact this
    · obtain ⟨si, sj, ys⟩ := s; obtain ⟨e1, e2, i, e3, e4, e5, e6⟩ := hi
      simp only at e1 e2 e3 e5 e6
      subst e1; subst e3
      refine ⟨_, by simp only [e2, show ¬ (((i0 + 1 + (xs.length - (i0 + 1)) : Nat) : Int) < (xs.length : Int)) by omega, decide_false, cond_false]; rfl, ?_⟩
      have hil : i ≤ ys.length := by omega
      refine .eq (a := (i, ys.length)) (show cutM ys.length (i : Int) (ys.length : Int) = some (i, ys.length) by unfold cutM; rw [if_pos (by omega)]; simp) (.eq rfl (.idx rfl (by simp [lclear]; omega) (.eq rfl (.ret ?_))))
      rw [show i0 + 1 + (xs.length - (i0 + 1)) = xs.length by omega, List.take_length] at e5
      rw [← e5]
      show (lclear ys i (ys.length - i)).take i = _
      unfold lclear
      rw [List.append_assoc, List.take_append_of_le_length (by rw [List.length_take]; omega), List.take_take, Nat.min_self]

theorem Clone_cube_Cube {xs : List T_cube_Cube} (hl : xs.length < 2 ^ 30) : L_slices_Clone_cube_Cube xs = some xs := by
  unfold L_slices_Clone_cube_Cube
  rw [show appM 128 [] xs = some xs from by unfold appM maxLen; rw [if_pos (by simp only [List.length_nil]; omega)]; rfl]
  rfl
end Go.Proofs.Ytodajdohokmjnaa
