/-
  What instances of package slices compute: searching, deleting, copying. Printed by gen_sl.py. Conditions: none.
-/
import Derived.Test.YtodajdohokmjnaaPlA
import Derived.Test.YtodajdohokmjnaaDl
namespace Go.Proofs.Ytodajdohokmjnaa
open Go Gv
set_option linter.unusedVariables false
set_option linter.unusedSimpArgs false

theorem IndexFunc_api_Role {xs : List T_api_Role} {f : T_api_Role → Option Bool} {g : T_api_Role → Bool} (hf : ∀ x ∈ xs, f x = some (g x)) (hl : xs.length < 2 ^ 62) :
    Tot (L_slices_IndexFunc_api_Role xs f) (fun r => (r = -1 ∧ ∀ x ∈ xs, g x = false) ∨ ∃ i : Nat, i < xs.length ∧ r = i ∧ g (lget xs i) = true ∧ ∀ j, j < i → g (lget xs j) = false) := by
  unfold L_slices_IndexFunc_api_Role
  refine Tot.loop xs.length (fun k s => s = (k : Int) ∧ ∀ j, j < k → g (lget xs j) = false) (by omega) ⟨rfl, fun j hj => by omega⟩ (fun k s hk hi => ?_) (fun s hi => ?_)
  · obtain ⟨e1, e2⟩ := hi; subst e1
    refine Tot.cond (fun _ => ?_) (fun h => by simp at h; omega)
    refine .idx rfl hk (.eq (hf _ (by rw [lget_eq xs hk]; exact List.getElem_mem hk)) (.cond (fun h => .ret ?_) (fun h => .ret ⟨w64_succ (by omega), fun j hj => ?_⟩)))
    · exact .ret (.inr ⟨k, hk, rfl, h, e2⟩)
    · by_cases hjk : j = k
      · subst hjk; exact h
      · exact e2 j (by omega)
  · obtain ⟨e1, e2⟩ := hi; subst e1
    refine ⟨_, by simp; rfl, ?_⟩
    refine .ret (.inl ⟨rfl, fun x hx => ?_⟩)
    obtain ⟨j, hj, rfl⟩ := List.mem_iff_getElem.1 hx
    rw [← lget_eq xs hj]; exact e2 j hj
end Go.Proofs.Ytodajdohokmjnaa
