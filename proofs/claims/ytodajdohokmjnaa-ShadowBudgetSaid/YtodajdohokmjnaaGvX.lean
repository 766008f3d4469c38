/-
  The library of the decompiler, part X: slices as arguments of a law. Conditions: none.
-/
import Derived.Test.YtodajdohokmjnaaGvW
import Derived.DataReads
namespace Gv
open Go Go.ChangeShapes Go.WideShapes Go.RowKit
set_option linter.unusedVariables false
set_option linter.unusedSimpArgs false

theorem rowAt_le {P : Program} {fits : TypeId → Bool} {d : Nat} {e : TypeId} {count off n : Nat} (h : rowAt P fits d e count off n = true) : off ≤ count * P.cellsOf e := by
  cases d with
  | zero => cases h
  | succ d =>
    unfold rowAt at h
    simp only at h
    split at h
    · cases h
    · rename_i hs
      have hp : 0 < P.cellsOf e := Nat.pos_of_ne_zero hs
      have hdm := Nat.div_add_mod off (P.cellsOf e)
      rw [Bool.or_eq_true] at h
      rcases h with h | h
      · simp only [Bool.and_eq_true, beq_iff_eq, decide_eq_true_eq] at h
        have : P.cellsOf e * (off / P.cellsOf e) ≤ P.cellsOf e * count := Nat.mul_le_mul_left _ (by omega)
        rw [Nat.mul_comm count]; omega
      · simp only [Bool.and_eq_true, decide_eq_true_eq] at h
        have hm := Nat.mod_lt off hp
        have : P.cellsOf e * (off / P.cellsOf e + 1) ≤ P.cellsOf e * count := Nat.mul_le_mul_left _ (by omega)
        rw [Nat.mul_add] at this
        rw [Nat.mul_comm count]; omega
theorem liesAt_le {P : Program} : ∀ {d : Nat} {e : TypeId} {count off : Nat} {u : TypeId} {n : Nat}, liesAt P d e count off u n = true → off ≤ count * P.cellsOf e
  | 0, _, _, _, _, _, h => by cases h
  | d + 1, e, count, off, u, n, h => by
    unfold liesAt at h
    rw [Bool.or_eq_true] at h
    rcases h with h | h
    · exact rowAt_le h
    · split at h
      · exact liesAt_le h
      · cases h

/-- an argument of this type is of data of this kind -/
structure ArgT (P : Program) (t : TypeId) (α : Type) [Rp α] : Prop where
  top : ∀ {H : Type} {enc : TypeId × Value → H} {W : World} {n b : Nat} {v : Value} {x : DataW H × List MemPlace}, DataW.trod enc P W 0 (fun _ => true) true n t v.cells.toList = some x → Value.okWide P W .any b t v → ∃ a : α, (VP.of a).holds [] W v

variable {P : Program} {t e : TypeId}

theorem ArgT.of {α : Type} [Rp α] (h : Arg P t α) : ArgT P t α where
  top h1 h2 := let ⟨a, h3⟩ := h.read h1; ⟨a, h.form h2, h3⟩

theorem ArgT.sli {α : Type} [Rp α] (hu : P.underlying t = some (.slice e)) (he : Arg P e α) (hz : Nat.beq (Rp.size α) 0 = false) : ArgT P t (List α) where
  top {H enc W n b v x} h hok := by
    have hone : v.oneCell' = true := by
      unfold Value.okWide Cell.okWide at hok
      simp only [hu] at hok
      unfold Cell.ok at hok
      rw [hu] at hok
      cases v <;> first | rfl | simp at hok
    have hs0 : Rp.size α ≠ 0 := fun h => by rw [h] at hz; cases hz
    rcases DataW.trod_slice hu h with ⟨h1, _⟩ | ⟨a, len, cap, elems, rest, m, _, h1, _, _, hlc, hcm, hel, hels, hrest, _⟩
    · have := toList_one hone h1
      subst this
      exact ⟨[], of_list.2 (.inl ⟨rfl, rfl⟩)⟩
    · have := toList_one hone h1
      subst this
      unfold Value.okWide Cell.okWide at hok
      simp only [hu] at hok
      unfold Cell.ok at hok
      rw [hu] at hok
      obtain ⟨_, _, _, hspot, row, cells, hsh, hlie⟩ := hok
      obtain ⟨ab, ao, asp⟩ := a
      simp only at hspot
      subst hspot
      unfold World.shape? at hsh
      cases hob : W.heap[ab]? with
      | none => rw [hob] at hsh; cases hsh
      | some ob =>
        rw [hob] at hsh
        cases ob <;> simp at hsh
        rename_i cs0 T fz
        obtain ⟨hT, hsz⟩ := hsh
        have hoff : ao ≤ cs0.size := by
          have h5 : ao ≤ _ := liesAt_le hlie
          have h6 := Nat.div_mul_le_self cells (P.cellsOf row)
          omega
        have hsize := he.cells
        -- element by element
        have hrep : ∀ i, i < len → ∃ a : α, Rp.rep [] W ((cs0.toList.drop (ao + i * Rp.size α)).take (Rp.size α)) a ∧ ao + (i + 1) * Rp.size α ≤ cs0.size := fun i hi => by
          have h5 := hels i hi
          rw [List.getElem?_eq_getElem (by omega)] at h5
          obtain ⟨cs', h6, h7⟩ := Option.bind_eq_some_iff.1 h5
          obtain ⟨_, hl, hc⟩ := World.cells?_some h6
          rw [hsize] at hl hc h6
          have hcell : ∀ j, j < Rp.size α → cs0[ao + i * Rp.size α + j]? = cs'[j]? := fun j hj => by
            rw [← hc j hj, addr_add, addr_add]
            unfold World.cell?
            simp [hob]
          have heq : (cs0.toList.drop (ao + i * Rp.size α)).take (Rp.size α) = cs' := by
            apply List.ext_getElem?
            intro j
            rw [List.getElem?_take]
            by_cases hj : j < Rp.size α
            · rw [if_pos hj, List.getElem?_drop, Array.getElem?_toList]; exact hcell j hj
            · rw [if_neg hj]; symm; exact List.getElem?_eq_none (by omega)
          obtain ⟨a, ha⟩ := he.read h7
          refine ⟨a, by rw [heq]; exact ha, ?_⟩
          have h8 := hcell (Rp.size α - 1) (by omega)
          rw [List.getElem?_eq_getElem (show Rp.size α - 1 < cs'.length by omega)] at h8
          have := (Array.getElem?_eq_some_iff.1 h8).1
          rw [Nat.add_mul]; omega
        have hex : ∃ xs : List α, xs.length = len ∧ ∀ i (h : i < xs.length), Rp.rep [] W ((cs0.toList.drop (ao + i * Rp.size α)).take (Rp.size α)) xs[i] := by
          refine ⟨List.ofFn fun i : Fin len => (hrep i.1 i.2).choose, by simp, fun i hi => ?_⟩
          have hi' : i < len := by simpa using hi
          rw [List.getElem_ofFn]
          exact (hrep i hi').choose_spec.1
        obtain ⟨xs, hxl, hxr⟩ := hex
        have hbound : ao + xs.length * Rp.size α ≤ cs0.size := by
          rw [hxl]
          rcases Nat.eq_zero_or_pos len with h0 | h0
          · rw [h0]; omega
          · have := (hrep (len - 1) (by omega)).choose_spec.2
            rw [show len - 1 + 1 = len by omega] at this
            exact this
        refine ⟨xs, of_list.2 (.inr ⟨ab, ao, cap, cs0, T, fz, by rw [hxl], by simp, hob, by omega, by omega, hbound, ?_, fun i hi => ?_⟩)⟩
        · rw [List.length_take, List.length_drop]; simp; omega
        · have hle : (i + 1) * Rp.size α ≤ xs.length * Rp.size α := Nat.mul_le_mul_right _ hi
          rw [Nat.succ_mul] at hle
          rw [take_drop_in _ _ _ _ _ hle]
          exact hxr i hi

theorem args_consT {H : Type} {enc : TypeId × Value → H} {W : World} {ts : List TypeId} {vs : List Value} {ds : List (DataW H)} {ps : List MemPlace} {α : Type} [Rp α] {b : Nat} (ha : ArgT P t α)
    (h : DataW.TrodAll enc P W 0 (fun _ => true) true (t :: ts) vs ds ps) (hok : ∀ (j : Nat) u v, (t :: ts)[j]? = some u → vs[j]? = some v → Value.okWide P W .any b u v) :
    ∃ (a : α) (v : Value) (vs' : List Value) (ds' : List (DataW H)) (ps' : List MemPlace) (d : DataW H), vs = v :: vs' ∧ ds = d :: ds' ∧ (VP.of a).holds [] W v ∧ DataW.TrodAll enc P W 0 (fun _ => true) true ts vs' ds' ps' ∧
      (∀ (j : Nat) u w, ts[j]? = some u → vs'[j]? = some w → Value.okWide P W .any b u w) := by
  obtain ⟨v, vs1, d, ds1, p, q, rfl, rfl, rfl, ⟨n, h1⟩, h2⟩ := trodAll_cons h
  obtain ⟨a, h3⟩ := ha.top h1 (hok 0 t v rfl rfl)
  exact ⟨a, v, vs1, ds1, q, d, rfl, rfl, h3, h2, fun j u w hj hw => hok (j + 1) u w (by simpa using hj) (by simpa using hw)⟩
end Gv
