/-
  Cubes bit by bit: what the functions of the cube package compute. Conditions: none.
-/
import Derived.Test.YtodajdohokmjnaaVam
namespace Go.Proofs.Ytodajdohokmjnaa
open Go Gv
set_option linter.unusedVariables false
set_option linter.unusedSimpArgs false
set_option maxRecDepth 100000

theorem combined_eq {f : T_api_Value → T_api_Value → Option T_api_Value} {g : Bool → Bool → Bool} (hf : ∀ x y, Tot (f x y) (fun r => ∀ j, j < 128 → vb r j = g (vb x j) (vb y j))) (a b : Vector T_api_Value 4) :
    Tot (L_cube_combined a b f) (fun r => ∀ i, i < 512 → cv r i = g (cv a i) (cv b i)) := by
  unfold L_cube_combined
  refine Tot.loop 4 (fun k s => s.1 = k ∧ ∀ j, j < 4 → ∀ i, i < 128 → vb (vget s.2 j) i = if j < k then g (vb (vget a j) i) (vb (vget b j) i) else vb (vget a j) i) (by omega)
    ⟨rfl, fun j hj i hi => by simp⟩ (fun k s hk hi => ?_) (fun s hi => ?_)
  · obtain ⟨i, v⟩ := s; obtain ⟨h1, h2⟩ := hi
    simp only at h1 h2; subst h1
    refine Tot.cond (fun _ => ?_) (fun h => by simp at h; omega)
    refine .idx rfl hk (.idx rfl hk ((hf _ _).bind fun y hy => .idx rfl hk (.ret ⟨w64_succ (by omega), fun j hj i hi => ?_⟩)))
    simp only [vget_vset _ _ hk]
    by_cases hj1 : j = k
    · subst hj1; rw [if_pos rfl, if_pos (by omega), hy i hi, h2 j hj i hi, if_neg (by omega)]
    · rw [if_neg hj1, h2 j hj i hi]
      have h4 : (j < k + 1) ↔ j < k := by omega
      simp [h4]
  · obtain ⟨i, v⟩ := s; obtain ⟨h1, h2⟩ := hi
    simp only at h1 h2; subst h1
    refine ⟨_, rfl, .ret fun m hm => ?_⟩
    unfold cv
    rw [h2 _ (by omega) _ (by omega), if_pos (by omega)]

theorem and_tot (x y : T_api_Value) : Tot (L_value_And x y) (fun r => ∀ j, j < 128 → vb r j = (vb x j && vb y j)) := ⟨_, and_eq x y, fun j _ => vb_band x y j⟩
theorem or_tot (x y : T_api_Value) : Tot (L_value_Or x y) (fun r => ∀ j, j < 128 → vb r j = (vb x j || vb y j)) := ⟨_, or_eq x y, fun j _ => vb_bor x y j⟩
theorem xor_tot (x y : T_api_Value) : Tot (L_value_Xor x y) (fun r => ∀ j, j < 128 → vb r j = (vb x j ^^ vb y j)) := ⟨_, xor_eq x y, fun j _ => vb_bxor x y j⟩

theorem Ones_eq (n : Int) : Tot (L_value_Ones n) (fun r => ∀ j, j < 128 → vb r j = decide ((j : Int) < n)) := by
  unfold L_value_Ones L_value_within
  refine .eq rfl (.eq rfl ?_)
  have hm : w64 (128 - min (max 0 n) 128) = ((128 - min (max 0 n) 128).toNat : Int) := by rw [w64_in (by omega) (by omega)]; omega
  rw [hm]
  refine (Right_eq _ _ (by omega)).bind fun r hr => .ret fun j hj => ?_
  rw [hr j hj]
  have hall : ∀ i, vb { f_Hi := 18446744073709551615#64, f_Lo := 18446744073709551615#64 } i = decide (i < 128) := by
    intro i
    have ho : (18446744073709551615#64) = BitVec.allOnes 64 := by rfl
    unfold vb
    simp only [ho, BitVec.getLsbD_allOnes]
    by_cases h : i < 64
    · simp [h]; omega
    · simp [h]; omega
  rw [hall, decide_eq_decide]; omega

theorem Not_eq (x : T_api_Value) : Tot (L_value_Not x 128) (fun r => ∀ j, j < 128 → vb r j = !vb x j) := by
  unfold L_value_Not
  refine (Ones_eq 128).bind fun a ha => .eq (and_eq _ _) (.ret fun j hj => ?_)
  rw [vb_band, ha j hj]
  have : ((j : Int) < 128) := by omega
  unfold vb
  by_cases h : j < 64
  · simp [h, this]
  · simp [h, this]; omega

/-- a canonical cube: bits are asked for only where the mask has them -/
def can (c : T_cube_Cube) : Prop := ∀ i, i < 512 → cv c.f_Value i = true → cv c.f_Mask i = true

theorem cv_default (i : Nat) : cv default i = false := by unfold cv; rw [vget_default]; exact vb_zero _

theorem eq_zero_iff {w : Vector T_api_Value 4} : w = default ↔ ∀ i, i < 512 → cv w i = false :=
  ⟨fun h i _ => by rw [h]; exact cv_default i, fun h => cv_ext fun i hi => by rw [h i hi, cv_default]⟩

/-- the cubes do not differ at a bit that both fix -/
def agree (x y : T_cube_Cube) : Prop := ∀ i, i < 512 → cv x.f_Mask i = true → cv y.f_Mask i = true → cv x.f_Value i = cv y.f_Value i

theorem Meet_eq (x y : T_cube_Cube) : Tot (L_cube_Meet x y) (fun r => (r.2 = true ↔ agree x y) ∧ (r.2 = false → r.1 = default) ∧
    (r.2 = true → (∀ i, i < 512 → cv r.1.f_Value i = (cv x.f_Value i || cv y.f_Value i)) ∧ ∀ i, i < 512 → cv r.1.f_Mask i = (cv x.f_Mask i || cv y.f_Mask i))) := by
  unfold L_cube_Meet
  refine (combined_eq and_tot _ _).bind fun y1 h1 => (combined_eq xor_tot _ _).bind fun y2 h2 => (combined_eq and_tot _ _).bind fun y3 h3 => ?_
  have key : y3 = default ↔ agree x y := by
    rw [eq_zero_iff]
    constructor
    · intro h i hi hx hy
      have := h i hi
      rw [h3 i hi, h1 i hi, h2 i hi, hx, hy] at this
      simpa using this
    · intro h i hi
      rw [h3 i hi, h1 i hi, h2 i hi]
      cases hx : cv x.f_Mask i
      · simp
      · cases hy : cv y.f_Mask i
        · simp
        · simp [h i hi hx hy]
  refine .cond (fun h => .ret ?_) (fun h => ?_)
  · have : ¬ agree x y := fun ha => by rw [key.2 ha] at h; simp at h
    simp [this]
  · have ha : agree x y := key.1 (by simpa using h)
    exact (combined_eq or_tot _ _).bind fun y4 h4 => (combined_eq or_tot _ _).bind fun y5 h5 => .ret (by simp [ha]; exact ⟨h4, h5⟩)

/-- the point lies in the cube -/
def inB (c : T_cube_Cube) (q : Vector T_api_Value 4) : Bool := decide (∀ i : Fin 512, (cv q i.1 && cv c.f_Mask i.1) = cv c.f_Value i.1)
theorem inB_iff {c : T_cube_Cube} {q : Vector T_api_Value 4} : inB c q = true ↔ ∀ i, i < 512 → (cv q i && cv c.f_Mask i) = cv c.f_Value i := by
  unfold inB
  rw [decide_eq_true_iff]
  exact ⟨fun h i hi => h ⟨i, hi⟩, fun h i => h i.1 i.2⟩
theorem inB_congr {c d : T_cube_Cube} {q : Vector T_api_Value 4} (hm : ∀ i, i < 512 → cv c.f_Mask i = cv d.f_Mask i) (hv : ∀ i, i < 512 → cv c.f_Value i = cv d.f_Value i) : inB c q = inB d q := by
  rw [Bool.eq_iff_iff, inB_iff, inB_iff]
  exact ⟨fun h i hi => by rw [← hm i hi, ← hv i hi]; exact h i hi, fun h i hi => by rw [hm i hi, hv i hi]; exact h i hi⟩

/-- a bit more is fixed -/
theorem fix_in {c d : T_cube_Cube} {q : Vector T_api_Value 4} {k : Nat} {b : Bool} (hk : k < 512) (h1 : cv c.f_Mask k = false) (h2 : cv c.f_Value k = false)
    (hm : ∀ m, m < 512 → cv d.f_Mask m = (cv c.f_Mask m || decide (m = k))) (hv : ∀ m, m < 512 → cv d.f_Value m = (cv c.f_Value m || (b && decide (m = k)))) : inB d q = (inB c q && (cv q k == b)) := by
  rw [Bool.eq_iff_iff, Bool.and_eq_true, inB_iff, inB_iff, beq_iff_eq]
  constructor
  · intro h
    refine ⟨fun i hi => ?_, ?_⟩
    · by_cases hik : i = k
      · subst hik; simp [h1, h2]
      · have := h i hi
        rw [hm i hi, hv i hi] at this
        simpa [hik] using this
    · have := h k hk
      rw [hm k hk, hv k hk] at this
      simpa [h1, h2] using this
  · rintro ⟨h, hq⟩ i hi
    rw [hm i hi, hv i hi]
    by_cases hik : i = k
    · subst hik; simp [h2, hq]
    · simpa [hik] using h i hi

end Go.Proofs.Ytodajdohokmjnaa
