/-
  Cubes bit by bit: what the functions of the cube package compute. Conditions: none.
-/
import Derived.Test.YtabodolbdalimaaVam
namespace Go.Proofs.Ytabodolbdalimaa
open Go Gv
set_option linter.unusedVariables false
set_option linter.unusedSimpArgs false
set_option maxRecDepth 100000

theorem combined_eq {f : T_api_Value → T_api_Value → Option T_api_Value} {g : Bool → Bool → Bool} (hf : ∀ x y, Tot (f x y) (fun r => ∀ j, j < 128 → vb r j = g (vb x j) (vb y j))) (a b : Vector T_api_Value 4) :
    Tot (L_cube_combined a b f) (fun r => ∀ i, i < 512 → cv r i = g (cv a i) (cv b i)) := by
  unfold L_cube_combined
  refine Tot.loop 4 (fun k s => s.1 = k ∧ ∀ j, j < 4 → ∀ i, i < 128 → vb (vget s.2 j) i = if j < k then g (vb (vget a j) i) (vb (vget b j) i) else vb (vget a j) i) (by omega)
    ⟨rfl, fun j hj i hi => by simp⟩ (fun k s hk hi => ?_) (fun s hi => ?_)
  · obtain ⟨i, v⟩ := s; obtain ⟨h1, h2⟩ := hi
    simp only at h1 h2; subst h1
    refine Tot.cond (fun _ => ?_) (fun h => by simp at h; omega)
    refine .idx rfl hk (.idx rfl hk ((hf _ _).bind fun y hy => .idx rfl hk (.ret ⟨w64_succ (by omega), fun j hj i hi => ?_⟩)))
    simp only [vget_vset _ _ hk]
    by_cases hj1 : j = k
    · subst hj1; rw [if_pos rfl, if_pos (by omega), hy i hi, h2 j hj i hi, if_neg (by omega)]
    · rw [if_neg hj1, h2 j hj i hi]
      have h4 : (j < k + 1) ↔ j < k := by omega
      simp [h4]
  · obtain ⟨i, v⟩ := s; obtain ⟨h1, h2⟩ := hi
    simp only at h1 h2; subst h1
    refine ⟨_, rfl, .ret fun m hm => ?_⟩
    unfold cv
    rw [h2 _ (by omega) _ (by omega), if_pos (by omega)]

theorem and_tot (x y : T_api_Value) : Tot (L_value_And x y) (fun r => ∀ j, j < 128 → vb r j = (vb x j && vb y j)) := ⟨_, and_eq x y, fun j _ => vb_band x y j⟩
theorem or_tot (x y : T_api_Value) : Tot (L_value_Or x y) (fun r => ∀ j, j < 128 → vb r j = (vb x j || vb y j)) := ⟨_, or_eq x y, fun j _ => vb_bor x y j⟩
theorem xor_tot (x y : T_api_Value) : Tot (L_value_Xor x y) (fun r => ∀ j, j < 128 → vb r j = (vb x j ^^ vb y j)) := ⟨_, xor_eq x y, fun j _ => vb_bxor x y j⟩

theorem Ones_eq (n : Int) : Tot (L_value_Ones n) (fun r => ∀ j, j < 128 → vb r j = decide ((j : Int) < n)) := by
  unfold L_value_Ones L_value_within
  refine .eq rfl (.eq rfl ?_)
  have hm : w64 (128 - min (max 0 n) 128) = ((128 - min (max 0 n) 128).toNat : Int) := by rw [w64_in (by omega) (by omega)]; omega
  rw [hm]
  refine (Right_eq _ _ (by omega)).bind fun r hr => .ret fun j hj => ?_
  rw [hr j hj]
  have hall : ∀ i, vb { f_Hi := 18446744073709551615#64, f_Lo := 18446744073709551615#64 } i = decide (i < 128) := by
    intro i
    have ho : (18446744073709551615#64) = BitVec.allOnes 64 := by rfl
    unfold vb
    simp only [ho, BitVec.getLsbD_allOnes]
    by_cases h : i < 64
    · simp [h]; omega
    · simp [h]; omega
  rw [hall, decide_eq_decide]; omega

theorem Not_eq (x : T_api_Value) : Tot (L_value_Not x 128) (fun r => ∀ j, j < 128 → vb r j = !vb x j) := by
  unfold L_value_Not
  refine (Ones_eq 128).bind fun a ha => .eq (and_eq _ _) (.ret fun j hj => ?_)
  rw [vb_band, ha j hj]
  have : ((j : Int) < 128) := by omega
  unfold vb
  by_cases h : j < 64
  · simp [h, this]
  · simp [h, this]; omega

theorem without_eq (x y : T_api_Value) : Tot (L_cube_without x y) (fun r => ∀ j, j < 128 → vb r j = (vb x j && !vb y j)) := by
  unfold L_cube_without
  refine (Not_eq y).bind fun a ha => .eq (and_eq _ _) (.ret fun j hj => ?_)
  rw [vb_band, ha j hj]

/-- a canonical cube: bits are asked for only where the mask has them -/
def can (c : T_cube_Cube) : Prop := ∀ i, i < 512 → cv c.f_Value i = true → cv c.f_Mask i = true

theorem Low_tot (x : T_api_Value) (n : Int) : Tot (L_mcase_Low x n) (fun _ => True) := by
  unfold L_mcase_Low
  refine .cond (fun _ => .ret trivial) fun _ => .cond (fun _ => .eq rfl (.ret trivial)) fun _ => .cond (fun _ => .ret trivial) fun _ => .eq rfl (.ret trivial)

theorem cv_default (i : Nat) : cv default i = false := by unfold cv; rw [vget_default]; exact vb_zero _

theorem eq_zero_iff {w : Vector T_api_Value 4} : w = default ↔ ∀ i, i < 512 → cv w i = false :=
  ⟨fun h i _ => by rw [h]; exact cv_default i, fun h => cv_ext fun i hi => by rw [h i hi, cv_default]⟩

/-- the cubes do not differ at a bit that both fix -/
def agree (x y : T_cube_Cube) : Prop := ∀ i, i < 512 → cv x.f_Mask i = true → cv y.f_Mask i = true → cv x.f_Value i = cv y.f_Value i

theorem Meet_eq (x y : T_cube_Cube) : Tot (L_cube_Meet x y) (fun r => (r.2 = true ↔ agree x y) ∧ (r.2 = false → r.1 = default) ∧
    (r.2 = true → (∀ i, i < 512 → cv r.1.f_Value i = (cv x.f_Value i || cv y.f_Value i)) ∧ ∀ i, i < 512 → cv r.1.f_Mask i = (cv x.f_Mask i || cv y.f_Mask i))) := by
  unfold L_cube_Meet
  refine (combined_eq and_tot _ _).bind fun y1 h1 => (combined_eq xor_tot _ _).bind fun y2 h2 => (combined_eq and_tot _ _).bind fun y3 h3 => ?_
  have key : y3 = default ↔ agree x y := by
    rw [eq_zero_iff]
    constructor
    · intro h i hi hx hy
      have := h i hi
      rw [h3 i hi, h1 i hi, h2 i hi, hx, hy] at this
      simpa using this
    · intro h i hi
      rw [h3 i hi, h1 i hi, h2 i hi]
      cases hx : cv x.f_Mask i
      · simp
      · cases hy : cv y.f_Mask i
        · simp
        · simp [h i hi hx hy]
  refine .cond (fun h => .ret ?_) (fun h => ?_)
  · have : ¬ agree x y := fun ha => by rw [key.2 ha] at h; simp at h
    simp [this]
  · have ha : agree x y := key.1 (by simpa using h)
    exact (combined_eq or_tot _ _).bind fun y4 h4 => (combined_eq or_tot _ _).bind fun y5 h5 => .ret (by simp [ha]; exact ⟨h4, h5⟩)

/-- the point lies in the cube -/
def inB (c : T_cube_Cube) (q : Vector T_api_Value 4) : Bool := decide (∀ i : Fin 512, (cv q i.1 && cv c.f_Mask i.1) = cv c.f_Value i.1)
theorem inB_iff {c : T_cube_Cube} {q : Vector T_api_Value 4} : inB c q = true ↔ ∀ i, i < 512 → (cv q i && cv c.f_Mask i) = cv c.f_Value i := by
  unfold inB
  rw [decide_eq_true_iff]
  exact ⟨fun h i hi => h ⟨i, hi⟩, fun h i => h i.1 i.2⟩
theorem inB_congr {c d : T_cube_Cube} {q : Vector T_api_Value 4} (hm : ∀ i, i < 512 → cv c.f_Mask i = cv d.f_Mask i) (hv : ∀ i, i < 512 → cv c.f_Value i = cv d.f_Value i) : inB c q = inB d q := by
  rw [Bool.eq_iff_iff, inB_iff, inB_iff]
  exact ⟨fun h i hi => by rw [← hm i hi, ← hv i hi]; exact h i hi, fun h i hi => by rw [hm i hi, hv i hi]; exact h i hi⟩

theorem Contains_eq (c : T_cube_Cube) (q : Vector T_api_Value 4) : Tot (L_cube_Contains c q) (fun r => r = inB c q) := by
  unfold L_cube_Contains
  refine (combined_eq and_tot _ _).bind fun y1 h1 => .ret ?_
  rw [Bool.eq_iff_iff, inB_iff, decide_eq_true_iff]
  constructor
  · intro h i hi
    rw [← h, h1 i hi]
  · intro h
    exact cv_ext fun i hi => by rw [h1 i hi, h i hi]

/-- a bit more is fixed -/
theorem fix_in {c d : T_cube_Cube} {q : Vector T_api_Value 4} {k : Nat} {b : Bool} (hk : k < 512) (h1 : cv c.f_Mask k = false) (h2 : cv c.f_Value k = false)
    (hm : ∀ m, m < 512 → cv d.f_Mask m = (cv c.f_Mask m || decide (m = k))) (hv : ∀ m, m < 512 → cv d.f_Value m = (cv c.f_Value m || (b && decide (m = k)))) : inB d q = (inB c q && (cv q k == b)) := by
  rw [Bool.eq_iff_iff, Bool.and_eq_true, inB_iff, inB_iff, beq_iff_eq]
  constructor
  · intro h
    refine ⟨fun i hi => ?_, ?_⟩
    · by_cases hik : i = k
      · subst hik; simp [h1, h2]
      · have := h i hi
        rw [hm i hi, hv i hi] at this
        simpa [hik] using this
    · have := h k hk
      rw [hm k hk, hv k hk] at this
      simpa [h1, h2] using this
  · rintro ⟨h, hq⟩ i hi
    rw [hm i hi, hv i hi]
    by_cases hik : i = k
    · subst hik; simp [h2, hq]
    · simpa [hik] using h i hi

theorem Minus_count (a b : T_cube_Cube) (ha : can a) (hb : can b) (q : Vector T_api_Value 4) (m : T_cube_Cube) (hmv : ∀ i, i < 512 → cv m.f_Value i = (cv a.f_Value i || cv b.f_Value i)) (hmm : ∀ i, i < 512 → cv m.f_Mask i = (cv a.f_Mask i || cv b.f_Mask i)) :
    Tot (L_cube_Minus a b) (fun out => out.length ≤ 512 ∧ (agree a b → out.countP (inB · q) + (inB m q).toNat = (inB a q).toNat) ∧ (¬ agree a b → out.countP (inB · q) = (inB a q).toNat)) := by
  unfold L_cube_Minus
  refine (Meet_eq a b).bind fun y1 h1 => .cond (fun h => .ret ?_) (fun h => ?_)
  · have hna : ¬ agree a b := fun hab => by rw [h1.1.2 hab] at h; cases h
    refine ⟨by simp, fun h => absurd h hna, fun _ => ?_⟩
    simp [List.countP_cons, List.countP_nil]
    cases inB a q <;> rfl
  · have hag : agree a b := h1.1.1 (by simpa using h)
    refine (combined_eq (g := fun a b => a && !b) without_eq _ _).bind fun y2 h2 => ?_
    refine Tot.loop 512 (fun k s => s.1 = k ∧ s.2.1.length ≤ k ∧ (∀ i, i < 512 → cv s.2.2.f_Mask i = (cv a.f_Mask i || (decide (i < k) && cv b.f_Mask i))) ∧
      (∀ i, i < 512 → cv s.2.2.f_Value i = (cv a.f_Value i || (decide (i < k) && (cv y2 i && cv b.f_Value i)))) ∧ s.2.1.countP (inB · q) + (inB s.2.2 q).toNat = (inB a q).toNat) (by omega)
      ⟨rfl, by simp, fun i hi => by simp, fun i hi => by simp, by simp⟩ (fun k s hk hi => ?_) (fun s hi => ?_)
    · obtain ⟨i, out, c⟩ := s; obtain ⟨e1, e2, e3, e4, e5⟩ := hi
      simp only at e1 e2 e3 e4 e5; subst e1
      refine Tot.cond (fun _ => ?_) (fun h => by simp at h; omega)
      refine (has_eq _ _ hk).bind fun y3 hy3 => ?_
      refine .bind (P := fun m1 => m1.1.length ≤ k + 1 ∧ (∀ i, i < 512 → cv m1.2.f_Mask i = (cv a.f_Mask i || (decide (i < k + 1) && cv b.f_Mask i))) ∧
        (∀ i, i < 512 → cv m1.2.f_Value i = (cv a.f_Value i || (decide (i < k + 1) && (cv y2 i && cv b.f_Value i)))) ∧ m1.1.countP (inB · q) + (inB m1.2 q).toNat = (inB a q).toNat) (.cond (fun hc => ?_) (fun hc => .ret ?_)) fun m1 hm1 => .ret ⟨w64_succ (by omega), hm1⟩
      · rw [hy3] at hc
        have hfx := h2 k hk
        rw [hc] at hfx
        have hbm : cv b.f_Mask k = true := by cases h : cv b.f_Mask k <;> simp [h] at hfx ⊢
        have ham : cv a.f_Mask k = false := by cases h : cv a.f_Mask k <;> simp [h] at hfx ⊢
        have hcm : cv c.f_Mask k = false := by rw [e3 k hk, ham]; simp
        have hav : cv a.f_Value k = false := by
          cases h : cv a.f_Value k
          · rfl
          · rw [ha k hk h] at ham; cases ham
        have hcv : cv c.f_Value k = false := by rw [e4 k hk, hav]; simp
        refine (has_eq _ _ hk).bind fun y4 hy4 => (Fix_eq _ _ hk _).bind fun y5 hy5 => ?_
        have hy5 := hy5.2 hcm
        refine .eq (a := out ++ [y5]) (by unfold appM; rw [if_pos]; unfold maxLen; simp; omega) ((has_eq _ _ hk).bind fun y7 hy7 => (Fix_eq _ _ hk _).bind fun y8 hy8 => .ret ?_)
        have hy8 := hy8.2 hcm
        refine ⟨by simp; omega, fun i hi => ?_, fun i hi => ?_, ?_⟩
        · rw [hy8.1 i hi, e3 i hi]
          by_cases hik : i = k
          · subst hik; simp [hbm]
          · have : (i < k + 1) ↔ i < k := by omega
            simp [hik, this]
        · rw [hy8.2 i hi, e4 i hi]
          by_cases hik : i = k
          · subst hik; simp [hav, hc, hy7]
          · have : (i < k + 1) ↔ i < k := by omega
            simp [hik, this]
        · rw [List.countP_append]
          have g5 := fix_in (q := q) hk hcm hcv hy5.1 hy5.2
          have g8 := fix_in (q := q) hk hcm hcv hy8.1 hy8.2
          rw [← e5]
          simp only [List.countP_cons, List.countP_nil, g5, g8]
          rw [hy4, hy7]
          cases inB c q <;> cases cv q k <;> cases cv b.f_Value k <;> simp
      · rw [hy3] at hc
        refine ⟨Nat.le_succ_of_le e2, fun i hi => ?_, fun i hi => ?_, e5⟩
        · rw [e3 i hi]
          by_cases hik : i = k
          · subst hik
            have := h2 i hi
            rw [hc] at this
            cases h5 : cv b.f_Mask i <;> cases h6 : cv a.f_Mask i <;> simp [h5, h6] at this ⊢
          · have : (i < k + 1) ↔ i < k := by omega
            simp [this]
        · rw [e4 i hi]
          by_cases hik : i = k
          · subst hik; simp [hc]
          · have : (i < k + 1) ↔ i < k := by omega
            simp [this]
    · obtain ⟨i, out, c⟩ := s; obtain ⟨e1, e2, e3, e4, e5⟩ := hi
      simp only at e1 e2 e3 e4 e5; subst e1
      refine ⟨_, rfl, .ret ⟨e2, fun _ => ?_, fun hn => absurd hag hn⟩⟩
      rw [← e5]
      congr 2
      refine inB_congr (fun i hi => ?_) (fun i hi => ?_)
      · rw [hmm i hi, e3 i hi]; simp [hi]
      · rw [hmv i hi, e4 i hi, h2 i hi]
        cases h3 : cv b.f_Value i
        · simp
        · have h4 := hb i hi h3
          cases h5 : cv a.f_Mask i
          · simp [hi, h4]
          · have := hag i hi h5 h4
            simp [this, h3]
end Go.Proofs.Ytabodolbdalimaa
