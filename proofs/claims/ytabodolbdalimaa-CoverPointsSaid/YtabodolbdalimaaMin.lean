/-
  The law CubeMinus, in plain Lean. Conditions: none.
-/
import Derived.Test.YtabodolbdalimaaMes
namespace Go.Proofs.Ytabodolbdalimaa
open Go Gv
set_option linter.unusedVariables false
set_option linter.unusedSimpArgs false
set_option maxRecDepth 100000

/-- two lists, element by element -/
def All2 {α β : Type} (R : α → β → Prop) (xs : List α) (ys : List β) : Prop := xs.length = ys.length ∧ ∀ t (h : t < xs.length) (h' : t < ys.length), R xs[t] ys[t]
theorem All2.nil {α β : Type} {R : α → β → Prop} : All2 R [] [] := ⟨rfl, fun t h => by cases h⟩
theorem All2.snoc {α β : Type} {R : α → β → Prop} {xs : List α} {ys : List β} {x : α} {y : β} (h : All2 R xs ys) (hr : R x y) : All2 R (xs ++ [x]) (ys ++ [y]) := by
  obtain ⟨h1, h2⟩ := h
  refine ⟨by simp [h1], fun t ht ht' => ?_⟩
  by_cases hlt : t < xs.length
  · rw [List.getElem_append_left hlt, List.getElem_append_left (by omega)]
    exact h2 t hlt (by omega)
  · have e : t = xs.length := by simp at ht; omega
    subst e
    simp only [List.getElem_append_right (Nat.le_refl _), Nat.sub_self, List.getElem_cons_zero]
    rw [List.getElem_append_right (by omega)]
    simpa [h1] using hr

/-- the bits that a part fixes beyond a -/
def fx (a b : T_cube_Cube) (i : Nat) : Bool := cv b.f_Mask i && !cv a.f_Mask i
def fxs (a b : T_cube_Cube) (k : Nat) : List Nat := (List.range k).filter (fx a b)
theorem fxs_succ {a b : T_cube_Cube} {k : Nat} : fxs a b (k + 1) = if fx a b k = true then fxs a b k ++ [k] else fxs a b k := by
  unfold fxs
  rw [List.range_succ, List.filter_append]
  by_cases h : fx a b k = true
  · rw [if_pos h]; simp [h]
  · rw [if_neg h]; simp [h]
theorem fxs_lt {a b : T_cube_Cube} {k i : Nat} (h : i ∈ fxs a b k) : i < k ∧ fx a b i = true := by
  have := List.mem_filter.1 h
  exact ⟨List.mem_range.1 this.1, this.2⟩
theorem fxs_sorted {a b : T_cube_Cube} (k : Nat) : (fxs a b k).Pairwise (· < ·) := List.Pairwise.filter _ List.pairwise_lt_range

/-- the part of a at bit i -/
def part (a b : T_cube_Cube) (i : Nat) (c : T_cube_Cube) : Prop :=
  (∀ j, j < 512 → cv c.f_Mask j = (cv a.f_Mask j || (decide (j ≤ i) && cv b.f_Mask j))) ∧
  (∀ j, j < 512 → cv c.f_Value j = (cv a.f_Value j || (decide (j < i) && (fx a b j && cv b.f_Value j)) || (decide (j = i) && !cv b.f_Value i)))

set_option maxHeartbeats 2000000 in
theorem Minus_parts (a b : T_cube_Cube) (ha : can a) : Tot (L_cube_Minus a b) (fun out => (agree a b → All2 (part a b) (fxs a b 512) out) ∧ (¬ agree a b → out = [a])) := by
  unfold L_cube_Minus
  refine (Meet_eq a b).bind fun y1 h1 => .cond (fun h => .ret ?_) (fun h => ?_)
  · have hna : ¬ agree a b := fun hab => by rw [h1.1.2 hab] at h; cases h
    exact ⟨fun h => absurd h hna, fun _ => rfl⟩
  · have hag : agree a b := h1.1.1 (by simpa using h)
    refine (combined_eq (g := fun a b => a && !b) without_eq _ _).bind fun y2 h2 => ?_
    refine Tot.loop 512 (fun k s => s.1 = k ∧ (∀ i, i < 512 → cv s.2.2.f_Mask i = (cv a.f_Mask i || (decide (i < k) && cv b.f_Mask i))) ∧
      (∀ i, i < 512 → cv s.2.2.f_Value i = (cv a.f_Value i || (decide (i < k) && (fx a b i && cv b.f_Value i)))) ∧ All2 (part a b) (fxs a b k) s.2.1) (by omega)
      ⟨rfl, fun i hi => by simp, fun i hi => by simp, .nil⟩ (fun k s hk hi => ?_) (fun s hi => ?_)
    · obtain ⟨i, out, c⟩ := s; obtain ⟨e1, e3, e4, e5⟩ := hi
      simp only at e1 e3 e4 e5; subst e1
      have hlen : out.length ≤ k := by
        rw [← e5.1]
        have := List.length_filter_le (fx a b) (List.range k)
        rw [List.length_range] at this
        exact this
      refine Tot.cond (fun _ => ?_) (fun h => by simp at h; omega)
      refine (has_eq _ _ hk).bind fun y3 hy3 => ?_
      have hfk : y3 = fx a b k := by rw [hy3, h2 k hk]; rfl
      refine .bind (P := fun m1 => (∀ i, i < 512 → cv m1.2.f_Mask i = (cv a.f_Mask i || (decide (i < k + 1) && cv b.f_Mask i))) ∧
        (∀ i, i < 512 → cv m1.2.f_Value i = (cv a.f_Value i || (decide (i < k + 1) && (fx a b i && cv b.f_Value i)))) ∧ All2 (part a b) (fxs a b (k + 1)) m1.1) (.cond (fun hc => ?_) (fun hc => .ret ?_)) fun m1 hm1 => .ret ⟨w64_succ (by omega), hm1⟩
      · have hf : fx a b k = true := by rw [← hfk, hc]
        have hbm : cv b.f_Mask k = true := by unfold fx at hf; simp at hf; exact hf.1
        have ham : cv a.f_Mask k = false := by unfold fx at hf; simp at hf; exact hf.2
        have hcm : cv c.f_Mask k = false := by rw [e3 k hk, ham]; simp
        have hav : cv a.f_Value k = false := by
          cases h : cv a.f_Value k
          · rfl
          · rw [ha k hk h] at ham; cases ham
        have hcv : cv c.f_Value k = false := by rw [e4 k hk, hav]; simp
        refine (has_eq _ _ hk).bind fun y4 hy4 => (Fix_eq _ _ hk _).bind fun y5 hy5 => ?_
        have hy5 := hy5.2 hcm
        refine .eq (a := out ++ [y5]) (by unfold appM; rw [if_pos]; unfold maxLen; simp; omega) ((has_eq _ _ hk).bind fun y7 hy7 => (Fix_eq _ _ hk _).bind fun y8 hy8 => .ret ?_)
        have hy8 := hy8.2 hcm
        refine ⟨fun i hi => ?_, fun i hi => ?_, ?_⟩
        · rw [hy8.1 i hi, e3 i hi]
          by_cases hik : i = k
          · subst hik; simp [hbm]
          · have : (i < k + 1) ↔ i < k := by omega
            simp [hik, this]
        · rw [hy8.2 i hi, e4 i hi]
          by_cases hik : i = k
          · subst hik; simp [hav, hf, hy7]
          · have : (i < k + 1) ↔ i < k := by omega
            simp [hik, this]
        · rw [fxs_succ, if_pos hf]
          refine e5.snoc ⟨fun j hj => ?_, fun j hj => ?_⟩
          · rw [hy5.1 j hj, e3 j hj]
            by_cases hjk : j = k
            · subst hjk; simp [hbm]
            · have : (j ≤ k) ↔ j < k := by omega
              simp [hjk, this]
          · rw [hy5.2 j hj, e4 j hj]
            by_cases hjk : j = k
            · subst hjk; simp [hav, hy4]
            · simp [hjk]
      · have hf : fx a b k = false := by rw [← hfk, hc]
        refine ⟨fun i hi => ?_, fun i hi => ?_, ?_⟩
        · rw [e3 i hi]
          by_cases hik : i = k
          · subst hik
            unfold fx at hf
            cases h5 : cv b.f_Mask i <;> cases h6 : cv a.f_Mask i <;> simp [h5, h6] at hf ⊢
          · have : (i < k + 1) ↔ i < k := by omega
            simp [this]
        · rw [e4 i hi]
          by_cases hik : i = k
          · subst hik; simp [hf]
          · have : (i < k + 1) ↔ i < k := by omega
            simp [this]
        · rw [fxs_succ, if_neg (by simp [hf])]; exact e5
    · obtain ⟨i, out, c⟩ := s; obtain ⟨e1, e3, e4, e5⟩ := hi
      simp only at e1 e3 e4 e5; subst e1
      exact ⟨_, rfl, .ret ⟨fun _ => e5, fun hn => absurd hag hn⟩⟩

/-- the reference's part -/
def rpart (p r : Vector (BitVec 8) 512) (i : Nat) (v : Vector (BitVec 8) 512) : Prop :=
  ∀ j, j < 512 → vget v j = if j = i then 1#8 - vget r i else if j < i ∧ vget p j = 2#8 ∧ vget r j ≠ 2#8 then vget r j else vget p j
def rfx (p r : Vector (BitVec 8) 512) (i : Nat) : Bool := (vget p i == 2#8) && (vget r i != 2#8)

set_option maxHeartbeats 2000000 in
theorem refMinus_parts (p r : Vector (BitVec 8) 512) : Tot (L_ref25_Minus p r) (fun out =>
    ((∀ i, i < 512 → vget p i = 2#8 ∨ vget r i = 2#8 ∨ vget p i = vget r i) → All2 (rpart p r) ((List.range 512).filter (rfx p r)) out) ∧
    (¬ (∀ i, i < 512 → vget p i = 2#8 ∨ vget r i = 2#8 ∨ vget p i = vget r i) → out = [p])) := by
  unfold L_ref25_Minus
  refine (refMeet_eq p r).bind fun y1 h1 => .cond (fun h => .ret ?_) (fun h => ?_)
  · have hna : ¬ ∀ i, i < 512 → vget p i = 2#8 ∨ vget r i = 2#8 ∨ vget p i = vget r i := fun hab => by rw [h1.1.2 hab] at h; cases h
    exact ⟨fun h => absurd h hna, fun _ => rfl⟩
  · have hag := h1.1.1 (by simpa using h)
    refine Tot.loop 512 (fun k s => s.1 = k ∧ (∀ j, j < 512 → vget s.2.2 j = if j < k ∧ vget p j = 2#8 ∧ vget r j ≠ 2#8 then vget r j else vget p j) ∧
      All2 (rpart p r) ((List.range k).filter (rfx p r)) s.2.1) (by omega) ⟨rfl, fun j hj => by simp, .nil⟩ (fun k s hk hi => ?_) (fun s hi => ?_)
    · obtain ⟨i, out, v⟩ := s; obtain ⟨e1, e2, e3⟩ := hi
      simp only at e1 e2 e3; subst e1
      have hlen : out.length ≤ k := by
        rw [← e3.1]
        have := List.length_filter_le (rfx p r) (List.range k)
        simpa using this
      refine Tot.cond (fun _ => ?_) (fun h => by simp at h; omega)
      refine .idx rfl hk ?_
      have hvk : vget v k = vget p k := by rw [e2 k hk]; simp
      refine .condM (P := fun q => q = k) (fun _ => ⟨k, idx_nat hk, rfl⟩) fun k2 hk2 => ?_
      refine .bind (P := fun m1 => (∀ j, j < 512 → vget m1.2 j = if j < k + 1 ∧ vget p j = 2#8 ∧ vget r j ≠ 2#8 then vget r j else vget p j) ∧
        All2 (rpart p r) ((List.range (k + 1)).filter (rfx p r)) m1.1) (.cond (fun hc => ?_) (fun hc => .ret ?_)) fun m1 hm1 => .ret ⟨w64_succ (by omega), hm1⟩
      · simp only [Bool.and_eq_true, beq_iff_eq, bne_iff_ne] at hc
        have hk2' : k2 = k := hk2 (by simpa using hc.1)
        subst hk2'
        have hf : rfx p r k2 = true := by unfold rfx; rw [hvk] at hc; simp [hc]
        refine .idx rfl hk (.idx rfl hk (.eq (a := out ++ [_]) (by unfold appM; rw [if_pos]; unfold maxLen; simp; omega) (.idx rfl hk (.idx rfl hk (.ret ⟨fun j hj => ?_, ?_⟩)))))
        · rw [vget_vset _ _ hk]
          by_cases hjk : j = k2
          · subst hjk
            rw [hvk] at hc
            rw [if_pos rfl, if_pos ⟨by omega, hc⟩]
          · rw [if_neg hjk, e2 j hj]
            have : (j < k2 + 1) ↔ j < k2 := by omega
            simp [this]
        · rw [List.range_succ, List.filter_append]
          have e : [k2].filter (rfx p r) = [k2] := by simp [hf]
          rw [e]
          refine e3.snoc fun j hj => ?_
          rw [vget_vset _ _ hk]
          by_cases hjk : j = k2
          · subst hjk; simp
          · rw [if_neg hjk, if_neg hjk, e2 j hj]
      · have hf : rfx p r k = false := by
          unfold rfx
          rw [hvk] at hc hk2
          by_cases h2 : (vget p k == 2#8) = true
          · have := hk2 h2
            rw [this] at hc
            exact hc
          · simp at h2; simp [h2]
        refine ⟨fun j hj => ?_, ?_⟩
        · rw [e2 j hj]
          by_cases hjk : j = k
          · subst hjk
            unfold rfx at hf
            simp only [Bool.and_eq_false_iff, beq_eq_false_iff_ne, bne_eq_false_iff_eq] at hf
            have : ¬ (vget p j = 2#8 ∧ vget r j ≠ 2#8) := fun h => by
              rcases hf with hf | hf
              · exact hf h.1
              · exact h.2 hf
            simp [this]
          · have : (j < k + 1) ↔ j < k := by omega
            simp [this]
        · rw [List.range_succ, List.filter_append]
          have e : [k].filter (rfx p r) = [] := by simp [hf]
          rw [e, List.append_nil]; exact e3
    · obtain ⟨i, out, c⟩ := s; obtain ⟨e1, e2, e3⟩ := hi
      simp only at e1 e2 e3; subst e1
      exact ⟨_, rfl, .ret ⟨fun _ => e3, fun hn => absurd hag hn⟩⟩

theorem part_can {a b c : T_cube_Cube} {i : Nat} (ha : can a) (hb : can b) (hf : fx a b i = true) (h : part a b i c) : can c := fun j hj hv => by
  rw [h.2 j hj] at hv
  rw [h.1 j hj]
  simp only [Bool.or_eq_true, Bool.and_eq_true, decide_eq_true_eq] at hv ⊢
  rcases hv with (hv | ⟨h1, h2, h3⟩) | ⟨h1, h2⟩
  · exact .inl (ha j hj hv)
  · exact .inr ⟨by omega, hb j hj h3⟩
  · subst h1
    unfold fx at hf; simp at hf
    exact .inr ⟨by omega, hf.1⟩

theorem part_cell {a b c : T_cube_Cube} {i : Nat} {p r v w : Vector (BitVec 8) 512} (ha : can a) (hb : can b) (hi : i < 512) (hf : fx a b i = true) (h : part a b i c)
    (hp : ∀ j, j < 512 → vget p j = cell a.f_Value a.f_Mask j) (hr : ∀ j, j < 512 → vget r j = cell b.f_Value b.f_Mask j) (hv : rpart p r i v) (hw : ∀ j, j < 512 → vget w j = cell c.f_Value c.f_Mask j) : w = v := by
  refine vget_ext fun j hj => ?_
  rw [hw j hj, hv j hj]
  have hfi := hf
  unfold fx at hfi; simp at hfi
  have hb2 : vget r i = if cv b.f_Value i then 1#8 else 0#8 := by rw [hr i hi]; unfold cell; rw [hfi.1]; simp
  by_cases hji : j = i
  · subst hji
    rw [if_pos rfl, hb2]
    unfold cell
    rw [h.1 j hj, h.2 j hj, hfi.1]
    have hav : cv a.f_Value j = false := by
      cases h : cv a.f_Value j
      · rfl
      · rw [ha j hj h] at hfi; cases hfi.2
    cases cv b.f_Value j <;> simp [hav]
  · rw [if_neg hji]
    have hpj := hp j hj
    have hrj := hr j hj
    unfold cell at hpj hrj ⊢
    rw [h.1 j hj, h.2 j hj, hpj, hrj]
    have hle : (j ≤ i) ↔ j < i := by omega
    unfold fx
    cases h1 : cv a.f_Mask j
    · have h3 : cv a.f_Value j = false := by
        cases h : cv a.f_Value j
        · rfl
        · rw [ha j hj h] at h1; cases h1
      cases h2 : cv b.f_Mask j
      · simp [h3, hji, hle]
      · by_cases hlt : j < i
        · cases h4 : cv b.f_Value j <;> simp [h3, hji, hle, hlt]
        · simp [h3, hji, hle, hlt]
    · cases h3 : cv a.f_Value j <;> simp [hji]

theorem fx_cells {a b : T_cube_Cube} {p r : Vector (BitVec 8) 512} (hp : ∀ j, j < 512 → vget p j = cell a.f_Value a.f_Mask j) (hr : ∀ j, j < 512 → vget r j = cell b.f_Value b.f_Mask j) :
    (List.range 512).filter (rfx p r) = fxs a b 512 := by
  unfold fxs
  refine List.filter_congr fun i hi => ?_
  have hi := List.mem_range.1 hi
  unfold rfx fx
  rw [hp i hi, hr i hi]
  have h1 : (cell a.f_Value a.f_Mask i == 2#8) = !cv a.f_Mask i := cell_eq_two
  have h2 : (cell b.f_Value b.f_Mask i != 2#8) = cv b.f_Mask i := by
    have : (cell b.f_Value b.f_Mask i == 2#8) = !cv b.f_Mask i := cell_eq_two
    unfold bne; rw [this]; simp
  rw [h1, h2, Bool.and_comm]

theorem part_apart {a b c : T_cube_Cube} {i : Nat} (hi : i < 512) (ha : can a) (hf : fx a b i = true) (h : part a b i c) : ¬ agree c b := fun hag => by
  have hf' := hf
  unfold fx at hf'; simp at hf'
  have h1 := hag i hi (by rw [h.1 i hi, hf'.1]; simp) hf'.1
  have hav : cv a.f_Value i = false := by
    cases h : cv a.f_Value i
    · rfl
    · rw [ha i hi h] at hf'; cases hf'.2
  rw [h.2 i hi, hav] at h1
  cases h2 : cv b.f_Value i <;> simp [h2] at h1

theorem parts_apart {a b c d : T_cube_Cube} {i j : Nat} (hi : i < 512) (ha : can a) (hji : j < i) (hf : fx a b j = true) (h : part a b i c) (h' : part a b j d) : ¬ agree c d := fun hag => by
  have hf' := hf
  unfold fx at hf'; simp at hf'
  have hj : j < 512 := by omega
  have hav : cv a.f_Value j = false := by
    cases h : cv a.f_Value j
    · rfl
    · rw [ha j hj h] at hf'; cases hf'.2
  have h1 := hag j hj (by rw [h.1 j hj, hf'.1]; simp; omega) (by rw [h'.1 j hj, hf'.1]; simp)
  rw [h.2 j hj, h'.2 j hj, hav] at h1
  have : ¬ j = i := by omega
  cases h2 : cv b.f_Value j <;> simp [h2, hf, hji, this] at h1

set_option maxHeartbeats 2000000 in
theorem minus_ok (x0 x1 x2 x3 : Vector T_api_Value 4) : L_law25_CubeMinus x0 x1 x2 x3 = some true := by
  suffices h : Tot (L_law25_CubeMinus x0 x1 x2 x3) (fun r => r = true) by
    obtain ⟨r, h1, h2⟩ := h
    rw [h1, h2]
  unfold L_law25_CubeMinus
  refine (canonical_can _).bind fun a ha => (canonical_can _).bind fun b hb => (near_can _ _).bind fun b2 hb2 => ?_
  generalize hlis : [b, b2, (default : T_cube_Cube)] = lis
  have hcan : ∀ x ∈ lis, can x := by subst hlis; intro x hx; simp at hx; rcases hx with rfl | rfl | rfl <;> first | assumption | exact can_default
  have hll : lis.length = 3 := by subst hlis; rfl
  refine Tot.loop 3 (fun k s => s = k) (by omega) rfl (fun k s hk hi => ?_) (fun s hi => ?_)
  · subst hi
    refine Tot.cond (fun _ => ?_) (fun h => by simp [hll] at h; omega)
    refine .idx rfl (by omega) ?_
    have hx := can_get hcan (k := k) (by omega)
    generalize lget lis k = x at hx
    refine (Minus_parts a x ha).bind fun l hl => (bits_eq a).bind fun p hp => (bits_eq x).bind fun r hr => (refMinus_parts p r).bind fun m hm => ?_
    have hag : agree a x ↔ ∀ i, i < 512 → vget p i = 2#8 ∨ vget r i = 2#8 ∨ vget p i = vget r i := (agree_cells hp hr).symm
    -- what both lists hold
    have key : l.length = m.length ∧ l.length ≤ 512 ∧ ∀ t (h : t < l.length) (h' : t < m.length), can l[t] ∧ ¬ agree l[t] x ∧ (∀ w, (∀ j, j < 512 → vget w j = cell l[t].f_Value l[t].f_Mask j) → w = m[t]) ∧ ∀ u (hu : u < t), ¬ agree l[t] (l[u]'(by omega)) := by
      by_cases hA : agree a x
      · have h1 := hl.1 hA
        have h2 := hm.1 (hag.1 hA)
        rw [fx_cells hp hr] at h2
        have hle : (fxs a x 512).length ≤ 512 := by
          have := List.length_filter_le (fx a x) (List.range 512)
          simpa [fxs] using this
        refine ⟨by rw [← h1.1, h2.1], by rw [← h1.1]; exact hle, fun t ht ht' => ?_⟩
        have htf : t < (fxs a x 512).length := by rw [h1.1]; exact ht
        have hmem := fxs_lt (List.getElem_mem htf)
        have g1 := h1.2 t htf ht
        have g2 := h2.2 t htf ht'
        refine ⟨part_can ha hx hmem.2 g1, part_apart hmem.1 ha hmem.2 g1, fun w hw => part_cell ha hx hmem.1 hmem.2 g1 hp hr g2 hw, fun u hu => ?_⟩
        have huf : u < (fxs a x 512).length := by omega
        have hlt := List.pairwise_iff_getElem.1 (fxs_sorted (a := a) (b := x) 512) u t huf htf hu
        exact parts_apart hmem.1 ha hlt (fxs_lt (List.getElem_mem huf)).2 g1 (h1.2 u huf (by omega))
      · have h1 := hl.2 hA
        have h2 := hm.2 (fun h => hA (hag.2 h))
        subst h1 h2
        refine ⟨rfl, by simp, fun t ht ht' => ?_⟩
        have : t = 0 := by simp at ht; omega
        subst this
        refine ⟨ha, hA, fun w hw => vget_ext fun j hj => ?_, fun u hu => by omega⟩
        rw [hw j hj]; exact (hp j hj).symm
    obtain ⟨hlen, hle, key⟩ := key
    refine .cond (fun h => by simp [hlen] at h) (fun _ => ?_)
    refine Tot.loop l.length (fun k s => s = k) (by omega) rfl (fun t s ht hi => ?_) (fun s hi => ?_)
    · subst hi
      obtain ⟨k1, k2, k3, k4⟩ := key t ht (by omega)
      refine Tot.cond (fun _ => ?_) (fun h => by simp at h; omega)
      refine .idx rfl ht ((bits_eq _).bind fun y8 hy8 => .idx rfl (by omega) ?_)
      have hy : y8 = lget m t := by rw [lget_eq m (by omega)]; rw [lget_eq l ht] at hy8; exact k3 y8 hy8
      rw [lget_eq l ht] at hy8 ⊢
      subst hy
      refine .condM (P := fun c => c = l[t]) (fun _ => canonical_id k1) fun y9 hy9 => ?_
      have hy9 := hy9 (by simp)
      subst hy9
      refine .cond (fun h => by simp at h) (fun _ => (Meet_eq _ _).bind fun y10 h10 => .cond (fun h => absurd (h10.1.1 h) k2) (fun _ => ?_))
      have hmin : min (t : Int) 3 = ((min t 3 : Nat) : Int) := by omega
      refine .eq (a := l.take (min t 3)) (by unfold sliceM; rw [if_pos (by rw [hmin]; omega), hmin]; simp) ?_
      have hlt : (l.take (min t 3)).length = min t 3 := by rw [List.length_take]; omega
      refine Tot.loop (min t 3) (fun k s => s = k) (by omega) rfl (fun u s hu hi => ?_) (fun s hi => ?_)
      · subst hi
        refine Tot.cond (fun _ => ?_) (fun h => by simp only [hlt, decide_eq_false_iff_not] at h; omega)
        refine .idx rfl (by omega) ((Meet_eq _ _).bind fun y12 h12 => .cond (fun h => ?_) (fun _ => .ret (w64_succ (by omega))))
        rw [lget_eq _ (by omega), List.getElem_take] at h12
        exact absurd (h12.1.1 h) (k4 u (by omega))
      · subst hi
        refine ⟨_, by simp only [hlt, Int.lt_irrefl, decide_false, cond_false]; rfl, ?_⟩
        exact .ret (w64_succ (by omega))
    · subst hi
      refine ⟨_, by simp; rfl, ?_⟩
      exact .ret (w64_succ (by omega))
  · subst hi
    refine ⟨_, by simp [hll]; rfl, ?_⟩
    exact .eq begun_ok (.ret rfl)
end Go.Proofs.Ytabodolbdalimaa
