/-
  What cover.Covered computes: whether each point of a cube lies in one of the others. Plain Lean. Conditions: none.
-/
import Derived.Test.YtodajdohokmjnaaMin
import Derived.Test.YtodajdohokmjnaaSlc
namespace Go.Proofs.Ytodajdohokmjnaa
open Go Gv
set_option linter.unusedVariables false
set_option linter.unusedSimpArgs false
set_option maxRecDepth 100000

theorem Tot.toEq {β : Type} {m : Option β} {v : β} (h : Tot m (fun r => r = v)) : m = some v := by
  obtain ⟨r, h1, h2⟩ := h
  rw [h1, h2]

/-- a point with given bits -/
theorem word_ex (b : Nat → Bool) : ∀ n, n ≤ 64 → ∃ w : BitVec 64, ∀ i, i < 64 → w.getLsbD i = (decide (i < n) && b i) := by
  intro n
  induction n with
  | zero => exact fun _ => ⟨0#64, fun i hi => by simp⟩
  | succ n ih =>
    intro hn
    obtain ⟨w, hw⟩ := ih (by omega)
    refine ⟨w ||| (if b n = true then BitVec.twoPow 64 n else 0#64), fun i hi => ?_⟩
    rw [BitVec.getLsbD_or, hw i hi]
    by_cases hb : b n = true
    · rw [if_pos hb, BitVec.getLsbD_twoPow]
      by_cases e : i = n
      · subst e; simp [hi, hb]
      · have : (decide (i < n + 1)) = decide (i < n) := by
          rw [Bool.eq_iff_iff]; simp; omega
        rw [this]
        have : decide (n = i) = false := by simp; omega
        simp [this]
    · rw [if_neg hb]
      by_cases e : i = n
      · subst e; simp [hb]
      · have : (decide (i < n + 1)) = decide (i < n) := by
          rw [Bool.eq_iff_iff]; simp; omega
        rw [this]; simp
theorem point_ex (b : Nat → Bool) : ∃ q : Vector T_api_Value 4, ∀ i, i < 512 → cv q i = b i := by
  have hv : ∀ c : Nat → Bool, ∃ v : T_api_Value, ∀ i, i < 128 → vb v i = c i := fun c => by
    obtain ⟨lo, hlo⟩ := word_ex c 64 (by omega)
    obtain ⟨hi, hhi⟩ := word_ex (fun i => c (64 + i)) 64 (by omega)
    refine ⟨⟨hi, lo⟩, fun i hi' => ?_⟩
    unfold vb
    split
    · rename_i h
      show lo.getLsbD i = c i
      rw [hlo i h]; simp [h]
    · rename_i h
      show hi.getLsbD (i - 64) = c i
      rw [hhi (i - 64) (by omega)]
      have : 64 + (i - 64) = i := by omega
      simp only [this]
      have : i - 64 < 64 := by omega
      simp [this]
  have hall : ∀ k, k ≤ 4 → ∃ q : Vector T_api_Value 4, ∀ i, i < 128 * k → cv q i = b i := by
    intro k
    induction k with
    | zero => exact fun _ => ⟨default, fun i hi => by omega⟩
    | succ k ih =>
      intro hk
      obtain ⟨q, hq⟩ := ih (by omega)
      obtain ⟨v, hv⟩ := hv fun j => b (128 * k + (127 - j))
      refine ⟨vset q k v, fun i hi => ?_⟩
      unfold cv
      rw [vget_vset q v (by omega)]
      by_cases e : i / 128 = k
      · rw [if_pos e, hv _ (by omega)]
        have : 128 * k + (127 - (127 - i % 128)) = i := by omega
        rw [this]
      · rw [if_neg e]
        exact hq i (by omega)
  obtain ⟨q, hq⟩ := hall 4 (by omega)
  exact ⟨q, fun i hi => hq i (by omega)⟩

theorem in_iff {c : T_cube_Cube} (hc : can c) {q : Vector T_api_Value 4} : inB c q = true ↔ ∀ i, i < 512 → cv c.f_Mask i = true → cv q i = cv c.f_Value i := by
  rw [inB_iff]
  constructor
  · intro h i hi hm
    have := h i hi
    rw [hm, Bool.and_true] at this; exact this
  · intro h i hi
    cases hm : cv c.f_Mask i
    · rw [Bool.and_false]
      cases hv : cv c.f_Value i
      · rfl
      · rw [hc i hi hv] at hm; cases hm
    · rw [Bool.and_true]; exact h i hi hm

/-- each point of c lies in one of l -/
def cov (c : T_cube_Cube) (l : List T_cube_Cube) : Prop := ∀ q, inB c q = true → ∃ x ∈ l, inB x q = true

theorem in_own {c : T_cube_Cube} (hc : can c) : inB c c.f_Value = true := (in_iff hc).2 fun i _ _ => rfl

theorem agree_of_in {c x : T_cube_Cube} (hc : can c) (hx : can x) {q : Vector T_api_Value 4} (h : inB c q = true) (h' : inB x q = true) : agree c x := fun i hi h1 h2 => by
  rw [← (in_iff hc).1 h i hi h1, ← (in_iff hx).1 h' i hi h2]

noncomputable def agB (c x : T_cube_Cube) : Bool := @decide (agree c x) (Classical.propDecidable _)
theorem agB_iff {c x : T_cube_Cube} : agB c x = true ↔ agree c x := by unfold agB; simp

theorem near_eq (c : T_cube_Cube) (l : List T_cube_Cube) (hl : l.length < 2 ^ 30) : L_cover_near c l = some (l.filter (agB c)) := by
  unfold L_cover_near
  rw [Clone_cube_Cube hl]
  have : Lp0_slices_DeleteFunc_cube_Cube l (fun a0 => L_cover_near_fn1 a0 c) = some (l.filter (fun x => !(!agB c x))) := by
    refine Tot.toEq (DeleteFunc_cube_Cube (g := fun x => !agB c x) (fun x _ => Tot.toEq ?_) (by omega))
    unfold L_cover_near_fn1
    refine (Meet_eq c x).bind fun y hy => .ret ?_
    congr 1
    rw [Bool.eq_iff_iff, agB_iff]; exact hy.1
  simp only [Option.bind_some, this, Bool.not_not]

theorem cov_near {c : T_cube_Cube} {l : List T_cube_Cube} (hc : can c) (hl : ∀ x ∈ l, can x) : cov c (l.filter (agB c)) ↔ cov c l := by
  constructor
  · intro h q hq
    obtain ⟨x, hx, h1⟩ := h q hq
    exact ⟨x, (List.mem_filter.1 hx).1, h1⟩
  · intro h q hq
    obtain ⟨x, hx, h1⟩ := h q hq
    exact ⟨x, List.mem_filter.2 ⟨hx, agB_iff.2 (agree_of_in hc (hl x hx) hq h1)⟩, h1⟩

/-- c lies in x -/
def insd (c x : T_cube_Cube) : Prop := ∀ i, i < 512 → cv x.f_Mask i = true → cv c.f_Mask i = true ∧ cv c.f_Value i = cv x.f_Value i
noncomputable def insB (c x : T_cube_Cube) : Bool := @decide (insd c x) (Classical.propDecidable _)
theorem insB_iff {c x : T_cube_Cube} : insB c x = true ↔ insd c x := by unfold insB; simp
theorem insd_in {c x : T_cube_Cube} (hc : can c) (hx : can x) (h : insd c x) {q : Vector T_api_Value 4} (hq : inB c q = true) : inB x q = true :=
  (in_iff hx).2 fun i hi hm => by rw [(in_iff hc).1 hq i hi (h i hi hm).1, (h i hi hm).2]
theorem insd_refl (c : T_cube_Cube) : insd c c := fun i _ h => ⟨h, rfl⟩
theorem insd_trans {a b c : T_cube_Cube} (h : insd a b) (h' : insd b c) : insd a c := fun i hi hm => by
  obtain ⟨h1, h2⟩ := h' i hi hm
  obtain ⟨h3, h4⟩ := h i hi h1
  exact ⟨h3, h4.trans h2⟩

/-- d is c with bit k fixed as b -/
def fixed1 (c : T_cube_Cube) (k : Nat) (b : Bool) (d : T_cube_Cube) : Prop :=
  (∀ m, m < 512 → cv d.f_Mask m = (cv c.f_Mask m || decide (m = k))) ∧ (∀ m, m < 512 → cv d.f_Value m = (cv c.f_Value m || (b && decide (m = k))))
theorem fixed1_can {c d : T_cube_Cube} {k : Nat} {b : Bool} (hc : can c) (h : fixed1 c k b d) : can d := fun i hi hv => by
  rw [h.2 i hi] at hv
  rw [h.1 i hi]
  simp only [Bool.or_eq_true, Bool.and_eq_true] at hv ⊢
  rcases hv with hv | hv
  · exact .inl (hc i hi hv)
  · exact .inr hv.2
theorem free_val {c : T_cube_Cube} (hc : can c) {k : Nat} (hk : k < 512) (h : cv c.f_Mask k = false) : cv c.f_Value k = false := by
  cases hv : cv c.f_Value k
  · rfl
  · rw [hc k hk hv] at h; cases h
theorem fixed1_in {c d : T_cube_Cube} {k : Nat} {b : Bool} (hc : can c) (hk : k < 512) (hf : cv c.f_Mask k = false) (h : fixed1 c k b d) (q : Vector T_api_Value 4) : inB d q = (inB c q && (cv q k == b)) :=
  fix_in hk hf (free_val hc hk hf) h.1 h.2
theorem cov_split {c d e : T_cube_Cube} {l : List T_cube_Cube} {k : Nat} (hc : can c) (hk : k < 512) (hf : cv c.f_Mask k = false) (h0 : fixed1 c k false d) (h1 : fixed1 c k true e) : cov c l ↔ cov d l ∧ cov e l := by
  constructor
  · intro h
    refine ⟨fun q hq => h q ?_, fun q hq => h q ?_⟩
    · rw [fixed1_in hc hk hf h0, Bool.and_eq_true] at hq; exact hq.1
    · rw [fixed1_in hc hk hf h1, Bool.and_eq_true] at hq; exact hq.1
  · rintro ⟨ha, hb⟩ q hq
    cases hv : cv q k
    · exact ha q (by rw [fixed1_in hc hk hf h0, hq, hv]; rfl)
    · exact hb q (by rw [fixed1_in hc hk hf h1, hq, hv]; rfl)

/-- free bits -/
def nfree (c : T_cube_Cube) : Nat := cnt 512 (fun i => !cv c.f_Mask i)
theorem cnt_mono {n : Nat} {p q : Nat → Bool} (h : ∀ i, i < n → p i = true → q i = true) : cnt n p ≤ cnt n q := by
  induction n with
  | zero => exact Nat.le_refl _
  | succ n ih =>
    rw [cnt_succ, cnt_succ]
    have := ih fun i hi => h i (by omega)
    have h2 : (p n).toNat ≤ (q n).toNat := by
      cases hp : p n
      · simp
      · rw [h n (by omega) hp]; simp
    omega
theorem cnt_lt_of {n : Nat} {p q : Nat → Bool} {k : Nat} (hk : k < n) (h : ∀ i, i < n → p i = true → q i = true) (hp : p k = false) (hq : q k = true) : cnt n p < cnt n q := by
  induction n with
  | zero => omega
  | succ n ih =>
    rw [cnt_succ, cnt_succ]
    by_cases hkn : k = n
    · subst hkn
      have := cnt_mono (n := k) fun i hi => h i (by omega)
      rw [hp, hq]; simp; omega
    · have := ih (by omega) fun i hi => h i (by omega)
      have h2 : (p n).toNat ≤ (q n).toNat := by
        cases hp : p n
        · simp
        · rw [h n (by omega) hp]; simp
      omega
theorem nfree_lt {c d : T_cube_Cube} {k : Nat} (hk : k < 512) (h : ∀ m, m < 512 → cv c.f_Mask m = true → cv d.f_Mask m = true) (h0 : cv c.f_Mask k = false) (h1 : cv d.f_Mask k = true) : nfree d < nfree c :=
  cnt_lt_of hk (fun i hi hd => by
    cases hm : cv c.f_Mask i
    · rfl
    · rw [h i hi hm] at hd; exact hd) (by rw [h1]; rfl) (by rw [h0]; rfl)
theorem nfree_le (c : T_cube_Cube) : nfree c ≤ 512 := cnt_le
theorem nfree_fix {c d : T_cube_Cube} {k : Nat} {b : Bool} (hk : k < 512) (hf : cv c.f_Mask k = false) (h : fixed1 c k b d) : nfree d < nfree c :=
  nfree_lt hk (fun m hm h1 => by rw [h.1 m hm, h1]; rfl) hf (by rw [h.1 k hk]; simp)

theorem Fix_free {c : T_cube_Cube} {k : Nat} (hk : k < 512) (hf : cv c.f_Mask k = false) (b : Bool) : Tot (L_cube_Fix c k b) (fixed1 c k b) := (Fix_eq c k hk b).mono fun d hd => hd.2 hf

/-! ### the steps of covered -/

theorem chas_eq (w : Vector T_api_Value 4) (n : Nat) (hn : n < 512) : Tot (L_cover_has w n) (fun r => r = cv w n) := by
  unfold L_cover_has
  have h1 : divM (n : Int) 128 = some ((n / 128 : Nat) : Int) := by
    unfold divM
    rw [if_neg (by omega)]
    have h1 : (n : Int).tdiv 128 = ((n / 128 : Nat) : Int) := by rw [Int.tdiv_eq_ediv_of_nonneg (by omega)]; omega
    rw [h1, w64_in (by omega) (by omega)]
  have h2 : modM (n : Int) 128 = some ((n % 128 : Nat) : Int) := by
    unfold modM
    rw [if_neg (by omega)]
    have h2 : (n : Int).tmod 128 = ((n % 128 : Nat) : Int) := by rw [Int.tmod_eq_emod_of_nonneg (by omega)]; omega
    rw [h2]
  refine .eq h1 (.idx rfl (show n / 128 < 4 by omega) (.eq h2 ((Bit_eq _ _).bind fun y hy => .ret ?_)))
  rw [hy, w64_in (by omega) (by omega)]
  have : (0 : Int) ≤ 127 - ((n % 128 : Nat) : Int) ∧ 127 - ((n % 128 : Nat) : Int) < 128 := by omega
  rw [decide_eq_true this, Bool.true_and]
  unfold cv
  congr 1; omega

/-- some of the cubes fix bit i as b, and c leaves it open -/
def wants (c : T_cube_Cube) (l : List T_cube_Cube) (b : Bool) (i : Nat) : Bool := !cv c.f_Mask i && l.any (fun x => cv x.f_Mask i && (cv x.f_Value i == b))

set_option maxHeartbeats 2000000 in
theorem wanted_eq (c : T_cube_Cube) (l : List T_cube_Cube) (hl : l.length < 2 ^ 30) : Tot (L_cover_wanted c l) (fun r => (∀ i, i < 512 → cv r.1 i = wants c l false i) ∧ (∀ i, i < 512 → cv r.2 i = wants c l true i)) := by
  unfold L_cover_wanted
  have hsnoc : ∀ k (hk : k < l.length) b i, wants c (l.take (k + 1)) b i = (wants c (l.take k) b i || (!cv c.f_Mask i && (cv (lget l k).f_Mask i && (cv (lget l k).f_Value i == b)))) := fun k hk b i => by
    unfold wants
    rw [List.take_add_one, List.getElem?_eq_getElem hk, List.any_append, lget_eq l hk, Bool.and_or_distrib_left]
    simp
  refine Tot.loop l.length (fun k s => s.1 = k ∧ (∀ i, i < 512 → cv s.2.1 i = wants c (l.take k) true i) ∧ (∀ i, i < 512 → cv s.2.2 i = wants c (l.take k) false i)) (by omega)
    ⟨rfl, fun i hi => by rw [cv_default]; simp [wants], fun i hi => by rw [cv_default]; simp [wants]⟩ (fun k s hk hi => ?_) (fun s hi => ?_)
  · obtain ⟨n, o, z⟩ := s; obtain ⟨e1, e2, e3⟩ := hi
    simp only at e1 e2 e3; subst e1
    refine Tot.cond (fun _ => ?_) (fun h => by simp at h; omega)
    refine .idx rfl hk ?_
    have hs1 := hsnoc k hk true
    have hs0 := hsnoc k hk false
    generalize lget l k = x at hs1 hs0 ⊢
    refine Tot.loop 4 (fun j s => s.1 = j ∧ (∀ i, i < 512 → cv s.2.1 i = if i / 128 < j then wants c (l.take (k + 1)) true i else wants c (l.take k) true i) ∧
      (∀ i, i < 512 → cv s.2.2 i = if i / 128 < j then wants c (l.take (k + 1)) false i else wants c (l.take k) false i)) (by omega)
      ⟨rfl, fun i hi => by rw [if_neg (by omega)]; exact e2 i hi, fun i hi => by rw [if_neg (by omega)]; exact e3 i hi⟩ (fun j s hj hi => ?_) (fun s hi => ?_)
    · obtain ⟨n, o, z⟩ := s; obtain ⟨g1, g2, g3⟩ := hi
      simp only at g1 g2 g3; subst g1
      refine Tot.cond (fun _ => ?_) (fun h => by simp at h; omega)
      refine .idx rfl hj (.idx rfl hj ((Not_eq _).bind fun y1 h1 => (and_tot _ _).bind fun y2 h2 => .idx rfl hj (.idx rfl hj ((and_tot _ _).bind fun y3 h3 => (or_tot _ _).bind fun y4 h4 => .idx rfl hj (.idx rfl hj (.idx rfl hj ((Not_eq _).bind fun y5 h5 => (and_tot _ _).bind fun y6 h6 => (or_tot _ _).bind fun y7 h7 => .idx rfl hj (.ret ⟨w64_succ (by omega), fun i hi => ?_, fun i hi => ?_⟩))))))))
      · have g := g2 i hi
        unfold cv at g ⊢
        simp only [vget_vset _ _ hj]
        by_cases hq : i / 128 = j
        · rw [if_pos hq, if_pos (by omega), h4 _ (by omega), h3 _ (by omega), h2 _ (by omega), h1 _ (by omega), hs1]
          rw [if_neg (by omega)] at g
          rw [hq] at g
          rw [g]
          unfold cv
          rw [hq]
          cases vb (vget x.f_Mask j) (127 - i % 128) <;> cases vb (vget c.f_Mask j) (127 - i % 128) <;> cases vb (vget x.f_Value j) (127 - i % 128) <;> simp
        · rw [if_neg hq, g]
          have : (i / 128 < j + 1) ↔ i / 128 < j := by omega
          simp [this]
      · have g := g3 i hi
        unfold cv at g ⊢
        simp only [vget_vset _ _ hj]
        by_cases hq : i / 128 = j
        · rw [if_pos hq, if_pos (by omega), h7 _ (by omega), h6 _ (by omega), h5 _ (by omega), h2 _ (by omega), h1 _ (by omega), hs0]
          rw [if_neg (by omega)] at g
          rw [hq] at g
          rw [g]
          unfold cv
          rw [hq]
          cases vb (vget x.f_Mask j) (127 - i % 128) <;> cases vb (vget c.f_Mask j) (127 - i % 128) <;> cases vb (vget x.f_Value j) (127 - i % 128) <;> simp
        · rw [if_neg hq, g]
          have : (i / 128 < j + 1) ↔ i / 128 < j := by omega
          simp [this]
    · obtain ⟨n, o, z⟩ := s; obtain ⟨g1, g2, g3⟩ := hi
      simp only at g1 g2 g3; subst g1
      refine ⟨_, rfl, ?_⟩
      refine .ret ⟨w64_succ (by omega), fun i hi => ?_, fun i hi => ?_⟩
      · rw [g2 i hi, if_pos (by omega)]
      · rw [g3 i hi, if_pos (by omega)]
  · obtain ⟨n, o, z⟩ := s; obtain ⟨e1, e2, e3⟩ := hi
    simp only at e1 e2 e3; subst e1
    rw [List.take_length] at e2 e3
    refine ⟨_, by simp; rfl, ?_⟩
    exact .ret ⟨e3, e2⟩

set_option maxHeartbeats 2000000 in
theorem escape_eq (c : T_cube_Cube) (z o : Vector T_api_Value 4) : Tot (L_cover_escape c z o) (fun r => (∀ i, i < 512 → cv r.f_Mask i = (cv c.f_Mask i || (cv z i ^^ cv o i))) ∧ (∀ i, i < 512 → cv r.f_Value i = (cv c.f_Value i || (cv z i && !cv o i)))) := by
  unfold L_cover_escape
  refine Tot.loop 4 (fun j s => s.1 = j ∧ (∀ i, i < 512 → cv s.2.f_Mask i = if i / 128 < j then (cv c.f_Mask i || (cv z i ^^ cv o i)) else cv c.f_Mask i) ∧
    (∀ i, i < 512 → cv s.2.f_Value i = if i / 128 < j then (cv c.f_Value i || (cv z i && !cv o i)) else cv c.f_Value i)) (by omega)
    ⟨rfl, fun i hi => (if_neg (Nat.not_lt_zero _)).symm, fun i hi => (if_neg (Nat.not_lt_zero _)).symm⟩ (fun j s hj hi => ?_) (fun s hi => ?_)
  · obtain ⟨n, d⟩ := s; obtain ⟨g1, g2, g3⟩ := hi
    simp only at g1 g2 g3; subst g1
    refine Tot.cond (fun _ => ?_) (fun h => by simp at h; omega)
    refine .idx rfl hj (.idx rfl hj ((and_tot _ _).bind fun y1 h1 => .idx rfl hj (.idx rfl hj (.idx rfl hj ((or_tot _ _).bind fun y2 h2 => (xor_tot _ _).bind fun y3 h3 => (or_tot _ _).bind fun y4 h4 => .idx rfl hj (.idx rfl hj (.idx rfl hj ((xor_tot _ _).bind fun y5 h5 => (or_tot _ _).bind fun y6 h6 => ?_))))))))
    refine .idx rfl hj ?_
    refine .eq rfl ?_
    refine .ret ?_
    refine ⟨w64_succ (by omega), fun i hi => ?_, fun i hi => ?_⟩
    · have g := g2 i hi
      unfold cv at g ⊢
      simp only [vget_vset _ _ hj]
      by_cases hq : i / 128 = j
      · rw [if_pos hq, if_pos (by omega), h4 _ (by omega), h3 _ (by omega), h2 _ (by omega), h1 _ (by omega), hq]
        rw [if_neg (by omega)] at g
        rw [hq] at g
        rw [g]
        cases vb (vget z j) (127 - i % 128) <;> cases vb (vget o j) (127 - i % 128) <;> simp
      · rw [if_neg hq, g]
        have : (i / 128 < j + 1) ↔ i / 128 < j := by omega
        simp [this]
    · have g := g3 i hi
      unfold cv at g ⊢
      simp only [vget_vset _ _ hj]
      by_cases hq : i / 128 = j
      · rw [if_pos hq, if_pos (by omega), h6 _ (by omega), h5 _ (by omega), h1 _ (by omega), hq]
        rw [if_neg (by omega)] at g
        rw [hq] at g
        rw [g]
        cases vb (vget z j) (127 - i % 128) <;> cases vb (vget o j) (127 - i % 128) <;> simp
      · rw [if_neg hq, g]
        have : (i / 128 < j + 1) ↔ i / 128 < j := by omega
        simp [this]
  · obtain ⟨n, d⟩ := s; obtain ⟨g1, g2, g3⟩ := hi
    simp only at g1 g2 g3; subst g1
    refine ⟨_, rfl, ?_⟩
    refine .ret ⟨fun i hi => ?_, fun i hi => ?_⟩
    · rw [g2 i hi, if_pos (by omega)]
    · rw [g3 i hi, if_pos (by omega)]

set_option maxHeartbeats 2000000 in
theorem busiest_eq (p : Vector T_api_Value 4) (l : List T_cube_Cube) (hl : l.length < 2 ^ 30) : Tot (L_cover_busiest p l) (fun r => ∃ b : Nat, r = b ∧ b < 512 ∧ ((∃ i, i < 512 ∧ cv p i = true ∧ ∃ x ∈ l, cv x.f_Mask i = true) → cv p b = true)) := by
  unfold L_cover_busiest
  refine Tot.loop 512 (fun k s => s.2.2 = (k : Int) ∧ (∃ b : Nat, s.1 = b ∧ b < 512 ∧ ∃ m : Nat, s.2.1 = m ∧ m ≤ l.length ∧ (0 < m → cv p b = true) ∧ (m = 0 → ∀ i, i < k → cv p i = true → ∀ x ∈ l, cv x.f_Mask i = false))) (by omega)
    ⟨rfl, 0, rfl, by omega, 0, rfl, by omega, by omega, fun _ i hi => by omega⟩ (fun k s hk hi => ?_) (fun s hi => ?_)
  · obtain ⟨sb, sm, n⟩ := s; obtain ⟨e1, b, e2, e3, m, e4, e5, e6, e7⟩ := hi
    simp only at e1 e2 e4; subst e1; subst e2; subst e4
    refine Tot.cond (fun _ => ?_) (fun h => by simp at h; omega)
    refine (chas_eq p k hk).bind fun y1 h1 => .cond (fun h => .ret ⟨w64_succ (by omega), b, rfl, e3, m, rfl, e5, e6, fun hm i hi hp => ?_⟩) (fun h => ?_)
    · by_cases hik : i = k
      · subst hik; rw [h1, hp] at h; simp at h
      · exact e7 hm i (by omega) hp
    · have hpk : cv p k = true := by rw [h1] at h; simpa using h
      refine Tot.loop l.length (fun j s => s.2 = (j : Int) ∧ s.1 = (((l.take j).countP (fun x => cv x.f_Mask k) : Nat) : Int)) (by omega) ⟨rfl, by simp⟩ (fun j s hj hi => ?_) (fun s hi => ?_)
      · obtain ⟨c, i⟩ := s; obtain ⟨g1, g2⟩ := hi
        simp only at g1 g2; subst g1; subst g2
        refine Tot.cond (fun _ => ?_) (fun h => by simp at h; omega)
        have hle : (l.take j).countP (fun x => cv x.f_Mask k) ≤ j := Nat.le_trans List.countP_le_length (by rw [List.length_take]; omega)
        have htk : (l.take (j + 1)).countP (fun x => cv x.f_Mask k) = (l.take j).countP (fun x => cv x.f_Mask k) + (cv (lget l j).f_Mask k).toNat := by
          rw [List.take_add_one, List.getElem?_eq_getElem hj, List.countP_append, lget_eq l hj]
          simp [List.countP_cons, List.countP_nil]
          cases cv l[j].f_Mask k <;> rfl
        refine .idx rfl hj ((chas_eq _ k hk).bind fun y2 h2 => .bind (P := fun r => r = (((l.take (j + 1)).countP (fun x => cv x.f_Mask k) : Nat) : Int)) (.cond (fun h => .ret ?_) (fun h => .ret ?_)) fun r hr => .ret ⟨w64_succ (by omega), hr⟩)
        · rw [htk, ← h2, h, w64_succ (by omega)]; rfl
        · rw [htk, ← h2, h]; rfl
      · obtain ⟨c, i⟩ := s; obtain ⟨g1, g2⟩ := hi
        simp only at g1 g2; subst g1; subst g2
        rw [List.take_length]
        refine ⟨_, by simp; rfl, ?_⟩
        simp only
        refine .bind (P := fun r : Int × Int => ∃ b : Nat, r.1 = b ∧ b < 512 ∧ ∃ m : Nat, r.2 = m ∧ m ≤ l.length ∧ (0 < m → cv p b = true) ∧ (m = 0 → ∀ i, i < k + 1 → cv p i = true → ∀ x ∈ l, cv x.f_Mask i = false)) (.cond (fun h => .ret ?_) (fun h => .ret ?_)) fun r hr => .ret ⟨w64_succ (by omega), hr⟩
        · simp only [gt_iff_lt, decide_eq_true_eq] at h
          exact ⟨k, rfl, hk, _, rfl, List.countP_le_length, fun _ => hpk, fun h0 => by omega⟩
        · simp only [gt_iff_lt, decide_eq_false_iff_not] at h
          refine ⟨b, rfl, e3, m, rfl, e5, e6, fun hm i hi hp => ?_⟩
          by_cases hik : i = k
          · subst hik
            have h0 : l.countP (fun x => cv x.f_Mask i) = 0 := by omega
            intro x hx
            have := List.countP_eq_zero.1 h0 x hx
            simpa using this
          · exact e7 hm i (by omega) hp
  · obtain ⟨sb, sm, n⟩ := s; obtain ⟨e1, b, e2, e3, m, e4, e5, e6, e7⟩ := hi
    simp only at e1 e2 e4; subst e1; subst e2; subst e4
    refine ⟨_, rfl, ?_⟩
    refine .ret ⟨b, rfl, e3, fun ⟨i, hi, hp, x, hx, hm⟩ => ?_⟩
    rcases Nat.eq_zero_or_pos m with h0 | h0
    · have := e7 h0 i hi hp x hx
      rw [hm] at this; cases this
    · exact e6 h0

set_option maxHeartbeats 2000000 in
theorem covered_spec : ∀ (n : Nat) (c : T_cube_Cube) (l : List T_cube_Cube), can c → (∀ x ∈ l, can x) → l.length < 2 ^ 30 → nfree c < n → Tot (Lr_cover_covered n c l) (fun r => r = true ↔ cov c l) := by
  intro n
  induction n with
  | zero => intro c l _ _ _ h; omega
  | succ n ih =>
    intro c l0 hc hl0 hlen hn
    unfold Lr_cover_covered
    refine .eq (near_eq c l0 hlen) ?_
    have hl : ∀ x ∈ l0.filter (agB c), can x := fun x hx => hl0 x (List.mem_filter.1 hx).1
    have hag : ∀ x ∈ l0.filter (agB c), agree c x := fun x hx => agB_iff.1 (List.mem_filter.1 hx).2
    have hlen2 : (l0.filter (agB c)).length < 2 ^ 30 := Nat.lt_of_le_of_lt (List.length_filter_le _ _) hlen
    rw [← cov_near hc hl0]
    generalize l0.filter (agB c) = l at hl hag hlen2
    refine (ContainsFunc_cube_Cube (g := insB c) (fun x hx => Tot.toEq ?_) (by omega)).bind fun y2 h2 => .cond (fun h => .ret ?_) (fun h => ?_)
    · unfold L_cover_covered_fn1
      refine (Within_eq c x hc (hl x hx)).bind fun r hr => .ret ?_
      rw [Bool.eq_iff_iff, insB_iff]; exact hr
    · rw [h2, List.any_eq_true] at h
      obtain ⟨x, hx, hi⟩ := h
      have hi := insB_iff.1 hi
      exact ⟨fun _ q hq => ⟨x, hx, insd_in hc (hl x hx) hi hq⟩, fun _ => rfl⟩
    · rw [h2, List.any_eq_false] at h
      have hnot : ∀ x ∈ l, ¬ insd c x := fun x hx hi => h x hx (insB_iff.2 hi)
      refine .cond (fun h0 => .ret ?_) (fun h0 => ?_)
      · have : l = [] := by
          simp only [beq_iff_eq] at h0
          exact List.length_eq_zero_iff.1 (by omega)
        subst this
        refine ⟨fun h => (by cases h), fun hcov => ?_⟩
        obtain ⟨x, hx, _⟩ := hcov _ (in_own hc)
        cases hx
      · refine (wanted_eq c l hlen2).bind fun y3 h3 => (escape_eq c y3.1 y3.2).bind fun y4 h4 => ?_
        have hmono : ∀ m, m < 512 → cv c.f_Mask m = true → cv y4.f_Mask m = true := fun m hm h1 => by rw [h4.1 m hm, h1]; rfl
        have hval : ∀ m, m < 512 → cv c.f_Mask m = true → cv y4.f_Value m = cv c.f_Value m := fun m hm h1 => by
          rw [h4.2 m hm, h3.1 m hm]; unfold wants; rw [h1]; simp
        have hcan4 : can y4 := fun i hi hv => by
          rw [h4.2 i hi] at hv
          rw [h4.1 i hi]
          simp only [Bool.or_eq_true, Bool.and_eq_true, Bool.not_eq_true'] at hv
          rcases hv with hv | hv
          · rw [hc i hi hv]; rfl
          · rw [hv.1, hv.2]; simp
        have hcov4 : cov y4 l ↔ cov c l := by
          constructor
          · intro hcov q hq
            -- the point with the bits turned
            obtain ⟨q', hq'⟩ := point_ex fun i => if cv c.f_Mask i = false ∧ cv y4.f_Mask i = true then cv y4.f_Value i else cv q i
            have hin : inB y4 q' = true := (in_iff hcan4).2 fun i hi hm => by
              rw [hq' i hi]
              cases hcm : cv c.f_Mask i
              · rw [if_pos ⟨rfl, hm⟩]
              · rw [if_neg (by simp), (in_iff hc).1 hq i hi hcm, hval i hi hcm]
            obtain ⟨x, hx, hxq⟩ := hcov q' hin
            refine ⟨x, hx, (in_iff (hl x hx)).2 fun i hi hm => ?_⟩
            have h5 := (in_iff (hl x hx)).1 hxq i hi hm
            rw [hq' i hi] at h5
            by_cases hE : cv c.f_Mask i = false ∧ cv y4.f_Mask i = true
            · exfalso
              rw [if_pos hE] at h5
              have hE2 := hE.2
              rw [h4.1 i hi, hE.1, h3.1 i hi, h3.2 i hi] at hE2
              rw [h4.2 i hi, h3.1 i hi, h3.2 i hi, free_val hc hi hE.1] at h5
              have hw : wants c l (cv x.f_Value i) i = true := by
                unfold wants
                rw [hE.1, Bool.not_false, Bool.true_and, List.any_eq_true]
                exact ⟨x, hx, by rw [hm]; simp⟩
              cases hxv : cv x.f_Value i
              · rw [hxv] at hw h5
                rw [hw] at hE2 h5
                cases h6 : wants c l true i <;> simp [h6] at hE2 h5
              · rw [hxv] at hw h5
                rw [hw] at hE2 h5
                cases h6 : wants c l false i <;> simp [h6] at hE2 h5
            · rw [if_neg hE] at h5; exact h5
          · intro hcov q hq
            exact hcov q ((in_iff hc).2 fun i hi hm => by rw [(in_iff hcan4).1 hq i hi (hmono i hi hm), hval i hi hm])
        refine .cond (fun hne => ?_) (fun he => ?_)
        · have hne : y4 ≠ c := by simpa using hne
          have hlt : nfree y4 < nfree c := by
            have : ∃ k, k < 512 ∧ cv c.f_Mask k = false ∧ cv y4.f_Mask k = true := by
              false_or_by_contra
              rename_i hno
              have hm : ∀ i, i < 512 → cv y4.f_Mask i = cv c.f_Mask i := fun i hi => by
                cases h5 : cv c.f_Mask i
                · cases h6 : cv y4.f_Mask i
                  · rfl
                  · exact absurd ⟨i, hi, h5, h6⟩ hno
                · exact hmono i hi h5
              have hv : ∀ i, i < 512 → cv y4.f_Value i = cv c.f_Value i := fun i hi => by
                cases h5 : cv c.f_Mask i
                · rw [free_val hc hi h5]
                  exact free_val hcan4 hi (by rw [hm i hi, h5])
                · exact hval i hi h5
              apply hne
              obtain ⟨a, b⟩ := y4; obtain ⟨a', b'⟩ := c
              simp only at hm hv
              rw [cv_ext hm, cv_ext hv]
            obtain ⟨k, h5, h6, h7⟩ := this
            exact nfree_lt h5 hmono h6 h7
          refine (ih y4 l hcan4 hl hlen2 (by omega)).bind fun y5 h5 => .ret ?_
          rw [h5, hcov4]
        · have he : y4 = c := by simpa using he
          -- a free bit that is wanted both ways
          have hbit : ∃ i, i < 512 ∧ cv y3.1 i = true ∧ ∃ x ∈ l, cv x.f_Mask i = true := by
            have hne : l ≠ [] := fun e => by subst e; simp at h0
            obtain ⟨x, r, hxr⟩ := List.exists_cons_of_ne_nil hne
            have hx : x ∈ l := by rw [hxr]; simp
            have : ∃ i, i < 512 ∧ cv x.f_Mask i = true ∧ cv c.f_Mask i = false := by
              false_or_by_contra
              rename_i hno
              refine hnot x hx fun i hi hm => ?_
              cases h5 : cv c.f_Mask i
              · exact absurd ⟨i, hi, hm, h5⟩ hno
              · exact ⟨rfl, hag x hx i hi h5 hm⟩
            obtain ⟨i, hi, hxm, hcm⟩ := this
            refine ⟨i, hi, ?_, x, hx, hxm⟩
            have h5 := h4.1 i hi
            rw [he, hcm] at h5
            simp only [Bool.false_or] at h5
            have hw : wants c l (cv x.f_Value i) i = true := by
              unfold wants
              rw [hcm, Bool.not_false, Bool.true_and, List.any_eq_true]
              exact ⟨x, hx, by rw [hxm]; simp⟩
            rw [h3.1 i hi, h3.2 i hi] at h5
            rw [h3.1 i hi]
            cases hxv : cv x.f_Value i
            · rw [hxv] at hw; exact hw
            · rw [hxv] at hw
              rw [hw] at h5
              cases h6 : wants c l false i
              · rw [h6] at h5; simp at h5
              · rfl
          refine (busiest_eq y3.1 l hlen2).bind fun y6 h6 => ?_
          obtain ⟨b, rfl, hb, hb2⟩ := h6
          have hb3 := hb2 hbit
          have hfree : cv c.f_Mask b = false := by
            rw [h3.1 b hb] at hb3
            unfold wants at hb3
            simp only [Bool.and_eq_true, Bool.not_eq_true'] at hb3
            exact hb3.1
          refine (Fix_free hb hfree false).bind fun y7 h7 => (ih y7 l (fixed1_can hc h7) hl hlen2 (by have := nfree_fix hb hfree h7; omega)).bind fun y8 h8 => ?_
          refine .condM (P := fixed1 c b true) (fun _ => Fix_free hb hfree true) fun y9 h9 => ?_
          refine .condM (P := fun r => r = true ↔ cov y9 l) (fun hy8 => ih y9 l (fixed1_can hc (h9 hy8)) hl hlen2 (by have := nfree_fix hb hfree (h9 hy8); omega)) fun y10 h10 => .ret ?_
          rw [Bool.and_eq_true]
          obtain ⟨y9', _, h9'⟩ := Fix_free hb hfree true
          rw [cov_split hc hb hfree h7 h9']
          constructor
          · rintro ⟨ha, hb'⟩
            refine ⟨h8.1 ha, ?_⟩
            have := (cov_split (l := l) hc hb hfree h7 (h9 ha)).2 ⟨h8.1 ha, (h10 ha).1 hb'⟩
            exact ((cov_split (l := l) hc hb hfree h7 h9').1 this).2
          · rintro ⟨ha, hb'⟩
            have h8' := h8.2 ha
            refine ⟨h8', (h10 h8').2 ?_⟩
            have := (cov_split (l := l) hc hb hfree h7 h9').2 ⟨ha, hb'⟩
            exact ((cov_split (l := l) hc hb hfree h7 (h9 h8')).1 this).2

theorem covered_tot (c : T_cube_Cube) (l : List T_cube_Cube) (hc : can c) (hl : ∀ x ∈ l, can x) (hlen : l.length < 2 ^ 30) : Tot (L_cover_covered c l) (fun r => r = true ↔ cov c l) :=
  covered_spec FUEL c l hc hl hlen (by have := nfree_le c; unfold FUEL; omega)

theorem Covered_tot (c : T_cube_Cube) (l : List T_cube_Cube) (hc : can c) (hl : ∀ x ∈ l, can x) (hlen : l.length < 2 ^ 30) :
    Tot (L_cover_Covered c l) (fun r => if (l.filter (agB c)).length > 16 then r = (false, 26) else (r.2 = 0 ∧ (r.1 = true ↔ cov c l))) := by
  unfold L_cover_Covered
  refine .eq (near_eq c l hlen) (.cond (fun h => .ret ?_) (fun h => ?_))
  · rw [if_pos (by have := of_decide_eq_true h; omega)]
  · have hl2 : ∀ x ∈ l.filter (agB c), can x := fun x hx => hl x (List.mem_filter.1 hx).1
    have hlen2 : (l.filter (agB c)).length < 2 ^ 30 := Nat.lt_of_le_of_lt (List.length_filter_le _ _) hlen
    refine (covered_tot c _ hc hl2 hlen2).bind fun y hy => .ret ?_
    rw [if_neg (by have := of_decide_eq_false h; omega)]
    exact ⟨rfl, by rw [hy, cov_near hc hl]⟩
end Go.Proofs.Ytodajdohokmjnaa
