/-
  The law CubeEntries, in plain Lean, second part. Conditions: none.
-/
import Derived.Test.YtabodolbdalimaaCen
namespace Go.Proofs.Ytabodolbdalimaa
open Go Gv
set_option linter.unusedVariables false
set_option linter.unusedSimpArgs false
set_option maxRecDepth 100000

theorem rOf_tot {s : T_api_Schema} (h : SchOk s) {k : Nat} (hk : k < 4) {e : T_api_Entry} (he : EntOk s k e) : Tot (L_ref25_Of s e) (fun r =>
    (r.2 = false ∧ ∃ i, i < (lget s.f_Tables k).f_Keys.length ∧ (lget (lget s.f_Tables k).f_Keys i).f_Kind = 4) ∨
    (r.2 = true ∧ (∀ i, i < (lget s.f_Tables k).f_Keys.length → (lget (lget s.f_Tables k).f_Keys i).f_Kind ≠ 4) ∧ ∃ V M : Vector T_api_Value 4, (∀ i, i < 512 → vget r.1 i = cell V M i) ∧ ∀ c j, c < 4 → j < 128 →
      vb (vget M c) j = (decide (c < (lget s.f_Tables k).f_Keys.length) && fk (lget (lget s.f_Tables k).f_Keys c) (lget e.f_Matches c) j) ∧
      vb (vget V c) j = (decide (c < (lget s.f_Tables k).f_Keys.length) && ((lget e.f_Matches c).f_Present && vb (lget e.f_Matches c).f_Value j)))) := by
  unfold L_ref25_Of
  obtain ⟨t1, ⟨t2, t3⟩, t4, _⟩ := h.tab hk
  rw [he.tab]
  refine (rTableOf_ok h hk).bind fun y1 e1 => ?_
  subst e1
  refine .cond (fun h => by simp at h; omega) fun _ => .idx rfl (by rw [h.tlen]; exact hk) ?_
  have hm := he.len
  refine Tot.loop (lget s.f_Tables k).f_Keys.length (fun i st => st.1 = (i : Int) ∧ (∀ c, c < i → (lget (lget s.f_Tables k).f_Keys c).f_Kind ≠ 4) ∧ ∀ c j, c < 4 → j < 128 →
      vb (vget st.2.1 c) j = (decide (c < i) && fk (lget (lget s.f_Tables k).f_Keys c) (lget e.f_Matches c) j) ∧
      vb (vget st.2.2 c) j = (decide (c < i) && ((lget e.f_Matches c).f_Present && vb (lget e.f_Matches c).f_Value j))) (by omega)
    ⟨rfl, fun c hc => by omega, fun c j hc hj => ?_⟩ (fun i st hi hs => ?_) (fun st hs => ?_)
  · rw [vget_default, vb_zero]; simp
  · obtain ⟨i', M, V⟩ := st; obtain ⟨e2, e3, e4⟩ := hs
    simp only at e2 e3 e4; subst e2
    refine Tot.cond (fun _ => ?_) (fun h => by simp at h; omega)
    have hkey : KeyOk (lget (lget s.f_Tables k).f_Keys i) := t4 _ (by rw [lget_eq _ hi]; exact List.getElem_mem hi)
    have hb := hkey.kb
    have hi4 : i < 4 := by omega
    refine .idx rfl hi (.idx rfl (by omega) (.idx rfl (by rw [h.tlen]; exact hk) ((KeyBits_ok h hi hkey).bind fun y2 e2 => ?_)))
    subst e2
    refine .cond (fun hz => ?_) fun hz => ?_
    · exact .ret (.ret (.inl ⟨rfl, i, hi, by simpa using hz⟩))
    have hz4 : ∀ c, c < i + 1 → (lget (lget s.f_Tables k).f_Keys c).f_Kind ≠ 4 := fun c hc => by
      by_cases hci : c = i
      · subst hci; simpa using hz
      · exact e3 c (by omega)
    have hlt : ∀ c, c ≠ i → decide (c < i + 1) = decide (c < i) := fun c hc => by rw [decide_eq_decide]; omega
    refine .cond (fun hp => .ret ⟨w64_succ (by omega), hz4, fun c j hc hj => ?_⟩) fun hp => ?_
    · simp only [Bool.not_eq_true'] at hp
      rw [(e4 c j hc hj).1, (e4 c j hc hj).2]
      by_cases hci : c = i
      · subst hci; unfold fk; rw [hp]; simp
      · rw [hlt c hci]; exact ⟨rfl, rfl⟩
    simp only [Bool.not_eq_false'] at hp
    refine .bind (P := fun N => ∀ c j, c < 4 → j < 128 → vb (vget N c) j = (decide (c < i + 1) && fk (lget (lget s.f_Tables k).f_Keys c) (lget e.f_Matches c) j)) ?_ fun N hN => ?_
    · have key : ∀ y : T_api_Value, (∀ j, j < 128 → vb y j = fk (lget (lget s.f_Tables k).f_Keys i) (lget e.f_Matches i) j) → ∀ c j, c < 4 → j < 128 → vb (vget (vset M i y) c) j = (decide (c < i + 1) && fk (lget (lget s.f_Tables k).f_Keys c) (lget e.f_Matches c) j) := by
        intro y hy c j hc hj
        rw [vget_vset _ _ hi4]
        by_cases hci : c = i
        · subst hci; rw [if_pos rfl, hy j hj, decide_eq_true (show c < c + 1 by omega)]; rfl
        · rw [if_neg hci, (e4 c j hc hj).1, hlt c hci]
      refine .cond (fun h1 => (refOnes_all _ (by omega) (by omega)).bind fun y hy => .idx rfl hi4 (.ret (key y fun j hj => ?_))) fun h1 => .bind (P := fun N => ∀ c j, c < 4 → j < 128 → vb (vget N c) j = (decide (c < i + 1) && fk (lget (lget s.f_Tables k).f_Keys c) (lget e.f_Matches c) j)) (.cond (fun h2 => (refLeading_eq _ _ (by omega) (by omega)).bind fun y hy => .idx rfl hi4 (.ret (key y fun j hj => ?_))) fun h2 => .idx rfl hi4 (.ret (key _ fun j hj => ?_))) fun N hN => .ret hN
      all_goals (unfold fk; rw [hp, Bool.true_and])
      · rw [if_pos (by simpa using h1)]; exact hy j hj
      · rw [if_neg (by simpa using h1), if_pos (by simpa using h2)]; exact hy j hj
      · rw [if_neg (by simpa using h1), if_neg (by simpa using h2)]
    · refine .idx rfl hi4 (.ret ⟨w64_succ (by omega), hz4, fun c j hc hj => ⟨hN c j hc hj, ?_⟩⟩)
      simp only [vget_vset _ _ hi4]
      by_cases hci : c = i
      · subst hci; rw [if_pos rfl, hp, decide_eq_true (show c < c + 1 by omega)]; simp
      · rw [if_neg hci, (e4 c j hc hj).2, hlt c hci]
  · obtain ⟨i', M, V⟩ := st; obtain ⟨e2, e3, e4⟩ := hs
    simp only at e2 e3 e4; subst e2
    have hc : decide (((lget s.f_Tables k).f_Keys.length : Int) < ((lget s.f_Tables k).f_Keys.length : Int)) = false := by simp
    rw [hc]
    refine ⟨_, rfl, ?_⟩
    simp only [Sum.elim_inl]
    exact (Read25_eq V M).bind fun y hy => .ret (.inr ⟨rfl, e3, V, M, hy, e4⟩)

theorem dec_ext {v w : T_api_Value} : decide (v = w) = true ↔ ∀ j, j < 128 → vb v j = vb w j := by
  rw [decide_eq_true_eq]; exact ⟨fun h j _ => by rw [h], vb_ext⟩

theorem Compare_tot (x y : T_api_Value) : Tot (L_value_Compare x y) (fun _ => True) := by
  unfold L_value_Compare
  exact .cond (fun _ => .ret trivial) fun _ => .eq rfl (.cond (fun _ => .ret trivial) fun _ => .ret trivial)

theorem Covers_tot {key : T_api_Key} (hk : KeyOk key) {m : T_api_Match} (hm : MatOk key.f_Kind (kb key) m) (x : T_api_Value) :
    Tot (L_entry_Covers m key.f_Kind (kb key) x) (fun r => key.f_Kind ≠ 4 → (∀ j, j < 128 → vb x j = true → (j : Int) < kb key) → (r = true ↔ ∀ j, j < 128 → (vb x j && fk key m j) = (vb m.f_Value j && fk key m j))) := by
  have hb := hk.kb
  obtain ⟨_, _, _, k1, k4, _⟩ := hk
  unfold L_entry_Covers fk
  refine .cond (fun hp => .ret fun _ _ => ?_) fun hp => ?_
  · simp only [Bool.not_eq_true'] at hp
    rw [hp]
    simp only [Bool.false_and, Bool.and_false, Bool.and_eq_true, decide_eq_true_eq]
    exact ⟨fun _ j _ => trivial, fun _ => ⟨by omega, by omega⟩⟩
  simp only [Bool.not_eq_false'] at hp
  simp only [hp, Bool.true_and]
  refine .cond (fun h1 => .ret fun _ hx => ?_) fun h1 => .cond (fun h2 => ?_) fun h2 => .cond (fun h3 => ?_) fun h3 => ?_
  · have h1 : key.f_Kind = 1 := by simpa using h1
    have hl := hm.low h1
    rw [dec_ext]
    simp only [if_pos h1]
    refine ⟨fun h j hj => by rw [h j hj], fun h j hj => ?_⟩
    have h4 := h j hj
    cases hxj : vb x j
    · cases hvj : vb m.f_Value j
      · rfl
      · rw [hxj, hvj, decide_eq_true (hl j hj hvj)] at h4; cases h4
    · rw [hxj, decide_eq_true (hx j hj hxj)] at h4
      simpa using h4
  · have h1 : ¬ key.f_Kind = 1 := by simpa using h1
    have h2 : key.f_Kind = 2 := by simpa using h2
    refine (Leading_eq _ _ (by omega) (by omega)).bind fun y1 e1 => (and_tot _ _).bind fun y2 e2 => (and_tot _ _).bind fun y3 e3 => .ret fun _ _ => ?_
    rw [dec_ext]
    simp only [if_neg h1, if_pos h2]
    refine ⟨fun h j hj => ?_, fun h j hj => ?_⟩
    · rw [← e1 j hj, ← e2 j hj, ← e3 j hj]; exact h j hj
    · rw [e2 j hj, e3 j hj, e1 j hj]; exact h j hj
  · have h1 : ¬ key.f_Kind = 1 := by simpa using h1
    have h2 : ¬ key.f_Kind = 2 := by simpa using h2
    have h3 : key.f_Kind = 3 := by simpa using h3
    have ht := hm.ter h3
    refine (and_tot _ _).bind fun y2 e2 => .ret fun _ _ => ?_
    rw [dec_ext]
    simp only [if_neg h1, if_neg h2]
    have hv : ∀ j, j < 128 → (vb m.f_Value j && vb m.f_Mask j) = vb m.f_Value j := fun j hj => by
      cases hvj : vb m.f_Value j
      · rfl
      · rw [ht j hj hvj]; rfl
    refine ⟨fun h j hj => ?_, fun h j hj => ?_⟩
    · rw [← e2 j hj, hv j hj]; exact h j hj
    · rw [e2 j hj, ← hv j hj]; exact h j hj
  · refine .cond (fun h4 => (Compare_tot _ _).bind fun y5 _ => .condM (P := fun _ => True) (fun _ => Compare_tot _ _) fun y6 _ => .ret fun h => absurd (by simpa using h4) h) fun h4 => ?_
    simp only [beq_eq_false_iff_ne] at h1 h2 h3 h4
    omega

theorem Matches_tot {s : T_api_Schema} (h : SchOk s) {k : Nat} (hk : k < 4) {e : T_api_Entry} (he : EntOk s k e) (p : Vector T_api_Value 4)
    (hp : ∀ c j, c < (lget s.f_Tables k).f_Keys.length → j < 128 → vb (vget p c) j = true → (j : Int) < kb (lget (lget s.f_Tables k).f_Keys c)) :
    Tot (L_entry_Matches s e p) (fun r => (∀ i, i < (lget s.f_Tables k).f_Keys.length → (lget (lget s.f_Tables k).f_Keys i).f_Kind ≠ 4) →
      (r = true ↔ ∀ c j, c < (lget s.f_Tables k).f_Keys.length → j < 128 → (vb (vget p c) j && fk (lget (lget s.f_Tables k).f_Keys c) (lget e.f_Matches c) j) = (vb (lget e.f_Matches c).f_Value j && fk (lget (lget s.f_Tables k).f_Keys c) (lget e.f_Matches c) j))) := by
  obtain ⟨t1, ⟨t2, t3⟩, t4, _⟩ := h.tab hk
  have htab : L_entry_table s e = some (lget s.f_Tables k, true) := by
    unfold L_entry_table
    rw [he.tab]
    obtain ⟨y, h1, h2⟩ := cTableOf_ok h hk
    subst h2
    rw [h1, Option.bind_some, show decide ((k : Int) < 0) = false from decide_eq_false (by omega), cond_false, idx_nat (by rw [h.tlen]; exact hk)]
    first | done | rfl
  unfold L_entry_Matches
  refine .eq htab (.cond (fun h => by cases h) fun _ => ?_)
  have hm := he.len
  simp only
  refine Tot.loop (lget s.f_Tables k).f_Keys.length (fun i st => st = (i : Int) ∧ ((∀ i, i < (lget s.f_Tables k).f_Keys.length → (lget (lget s.f_Tables k).f_Keys i).f_Kind ≠ 4) → ∀ c j, c < i → j < 128 →
      (vb (vget p c) j && fk (lget (lget s.f_Tables k).f_Keys c) (lget e.f_Matches c) j) = (vb (lget e.f_Matches c).f_Value j && fk (lget (lget s.f_Tables k).f_Keys c) (lget e.f_Matches c) j))) (by omega)
    ⟨rfl, fun _ c j hc => by omega⟩ (fun i st hi hs => ?_) (fun st hs => ?_)
  · obtain ⟨e2, e4⟩ := hs
    subst e2
    refine Tot.cond (fun _ => ?_) (fun h => by simp at h; omega)
    have hkey : KeyOk (lget (lget s.f_Tables k).f_Keys i) := t4 _ (by rw [lget_eq _ hi]; exact List.getElem_mem hi)
    have hkey2 := hkey
    obtain ⟨q, hq, hf, _⟩ := hkey2
    have hi4 : i < 4 := by omega
    have hd : (decide ((i : Int) ≥ (e.f_Matches.length : Int)) || decide ((i : Int) ≥ 4)) = false := by simp; omega
    refine .idx rfl hi ?_
    have hbits : L_entry_bitsOf s (lget (lget s.f_Tables k).f_Keys i) = some (kb (lget (lget s.f_Tables k).f_Keys i)) := by
      unfold L_entry_bitsOf
      rw [hf]
      obtain ⟨y, h1, h2⟩ := cFieldOf_ok h hq
      subst h2
      rw [h1, Option.bind_some, show decide ((q : Int) < 0) = false from decide_eq_false (by omega), cond_false, idx_nat (by rw [h.flen]; exact hq), Option.bind_some, (h.fld hq).2, ← kb_of hf]
    simp only [hd, condM, if_true]
    refine .idx rfl (by omega) (.eq hbits (.idx rfl hi4 ((Covers_tot hkey (he.mat i hi) _).bind fun y3 h3 => .eq rfl (.cond (fun hz => ?_) fun hz => ?_))))
    · refine .ret (.ret fun h4 => ?_)
      simp only [Bool.false_or, Bool.not_eq_true'] at hz
      have h5 := h3 (h4 i hi) (fun j hj => hp i j hi hj)
      rw [hz] at h5
      refine ⟨fun h => (by cases h), fun h => ?_⟩
      exact h5.2 fun j hj => h i j hi hj
    · refine .ret ⟨w64_succ (by omega), fun h4 c j hc hj => ?_⟩
      simp only [Bool.false_or, Bool.not_eq_false'] at hz
      by_cases hci : c = i
      · subst hci
        exact (h3 (h4 c hi) (fun j hj => hp c j hi hj)).1 hz j hj
      · exact e4 h4 c j (by omega) hj
  · obtain ⟨e2, e4⟩ := hs
    subst e2
    have hc : decide (((lget s.f_Tables k).f_Keys.length : Int) < ((lget s.f_Tables k).f_Keys.length : Int)) = false := by simp
    rw [hc]
    refine ⟨_, rfl, ?_⟩
    simp only [Sum.elim_inl]
    exact .ret fun h4 => ⟨fun _ => e4 h4, fun _ => rfl⟩

theorem Point_tot (c : T_mcase_Codes) (hc : CdOk c) : Tot (L_mcase_Codes_Point c) (fun r => CdOk r.2) := by
  unfold L_mcase_Codes_Point
  refine Tot.loop 4 (fun k st => st.1 = (k : Int) ∧ CdOk st.2.2) (by omega) ⟨rfl, hc⟩ (fun k st hk hi => ?_) (fun st hi => ?_)
  · obtain ⟨i, p, cd⟩ := st; obtain ⟨e1, e2⟩ := hi
    simp only at e1 e2; subst e1
    refine Tot.cond (fun _ => ?_) (fun h => by simp at h; omega)
    refine .bind (Next_tot _ 256 e2 (by omega)) fun y1 h1 => .eq rfl (.idx rfl hk (.bind (Next_tot _ 4 h1.1 (by omega)) fun y2 h2 => ?_))
    refine .bind (P := fun m => CdOk m.1) (.cond (fun _ => ?_) fun _ => .ret h2.1) fun m1 hm1 => .ret ⟨w64_succ (by omega), hm1⟩
    exact .idx rfl hk (.bind (Next_tot _ 256 h2.1 (by omega)) fun y3 h3 => .eq rfl (.idx rfl hk (.eq rfl (.ret h3.1))))
  · obtain ⟨i, p, cd⟩ := st; obtain ⟨e1, e2⟩ := hi
    simp only at e1 e2; subst e1
    refine ⟨_, rfl, ?_⟩
    exact .ret e2

theorem Inside_tot (e : T_api_Entry) (p : Vector T_api_Value 4) (hl : e.f_Matches.length < 2 ^ 30) : Tot (L_mcase_Inside e p) (fun _ => True) := by
  unfold L_mcase_Inside
  refine Tot.loop e.f_Matches.length (fun k st => st.1 = (k : Int)) (by omega) rfl (fun k st hk hi => ?_) (fun st hi => ?_)
  · obtain ⟨i, p⟩ := st
    simp only at hi; subst hi
    refine Tot.cond (fun _ => ?_) (fun h => by simp at h; omega)
    refine .idx rfl hk (.cond (fun _ => .ret (w64_succ (by omega))) fun hz => ?_)
    simp only [Bool.or_eq_false_iff, decide_eq_false_iff_not] at hz
    have hk4 : k < 4 := by have := hz.1; omega
    refine .bind (P := fun _ => True) (.cond (fun _ => .idx rfl hk4 (.eq rfl (.idx rfl hk4 (.eq rfl (.idx rfl hk4 (.idx rfl hk4 (.eq rfl (.ret trivial)))))))) fun _ => .eq rfl ?_) fun _ _ => .ret (w64_succ (by omega))
    exact .bind (P := fun _ => True) (.cond (fun _ => .idx rfl hk4 (.eq rfl (.eq rfl (.idx rfl hk4 (.eq rfl (.ret trivial)))))) fun _ => .idx rfl hk4 (.ret trivial)) fun _ _ => .ret trivial
  · obtain ⟨i, p⟩ := st
    simp only at hi; subst hi
    refine ⟨_, by simp; rfl, ?_⟩
    exact .ret trivial

theorem entries_ok (x0 x1 : List (BitVec 8)) (x2 : Int) : L_law25_CubeEntries x0 x1 x2 = some true := by
  suffices h : Tot (L_law25_CubeEntries x0 x1 x2) (fun r => r = true) by
    obtain ⟨r, h1, h2⟩ := h; rw [h1, h2]
  unfold L_law25_CubeEntries
  refine (New_tot x0 120 (by omega) (by omega)).bind fun y1 h1 => (Schema_tot y1 h1).bind fun y2 h2 => (New_tot x1 60 (by omega) (by omega)).bind fun y3 h3 => ?_
  obtain ⟨hs, _⟩ := h2
  refine Tot.loop 5 (fun k st => st.1 = (k : Int) ∧ CdOk st.2) (by omega) ⟨rfl, h3⟩ (fun n st hn hi => ?_) (fun st hi => ?_)
  · obtain ⟨i, cd⟩ := st; obtain ⟨e1, e2⟩ := hi
    simp only at e1 e2; subst e1
    refine Tot.cond (fun _ => ?_) (fun h => by simp at h; omega)
    refine (Entry_tot cd (w64 (x2 + n)) e2 hs).bind fun y4 h4 => ?_
    obtain ⟨hc4, k, hk, hmod, he⟩ := h4
    obtain ⟨t1, ⟨t2, t3⟩, t4, _⟩ := hs.tab hk
    refine (cOf_tot hs hk he).bind fun y5 h5 => (rOf_tot hs hk he).bind fun y6 h6 => ?_
    have hsame : y5.2 = y6.2 := by
      rcases h5 with ⟨a, _, i, hi, hb⟩ | ⟨a, hb, _⟩ <;> rcases h6 with ⟨c, i', hi', hd⟩ | ⟨c, hd, _⟩
      · rw [a, c]
      · exact absurd hb (hd i hi)
      · exact absurd hd (hb i' hi')
      · rw [a, c]
    refine .condM (P := fun b => ∀ i, i < 512 → vget b i = cell y5.1.f_Value y5.1.f_Mask i) (fun _ => bits_eq _) fun y7 h7 => .eq rfl (.cond (fun hz => ?_) fun _ => ?_)
    · exfalso
      rw [← hsame] at hz
      rcases h5 with ⟨a, hdef, _⟩ | ⟨a, hb, hx⟩
      · rw [a, hdef] at hz; simp at hz
      · rcases h6 with ⟨c, _⟩ | ⟨c, hd, V, M, hV, hVM⟩
        · rw [hsame, c] at a; cases a
        · have h8 := h7 (by rw [a, ← hsame, a]; rfl)
          have h9 : y7 = y6.1 := vget_ext fun i hi => by
            rw [h8 i hi, hV i hi]
            have e1 := hx (i / 128) (127 - i % 128) (by omega) (by omega)
            have e2 := hVM (i / 128) (127 - i % 128) (by omega) (by omega)
            unfold cell cv
            rw [e1.1, e2.1, e1.2, e2.2]
            cases hq : (decide (i / 128 < (lget y2.1.f_Tables k).f_Keys.length) && fk (lget (lget y2.1.f_Tables k).f_Keys (i / 128)) (lget y4.1.f_Matches (i / 128)) (127 - i % 128))
            · rfl
            · simp only [Bool.and_eq_true] at hq
              have hpres : (lget y4.1.f_Matches (i / 128)).f_Present = true := by
                have := hq.2; unfold fk at this; rw [Bool.and_eq_true] at this; exact this.1
              rw [hq.2, hpres]; simp
          rw [a, h9] at hz; simp at hz
    refine .eq hmod (.idx rfl (by rw [hs.tlen]; exact hk) ((Point_tot _ hc4).bind fun y9 h9 => (Point_tot _ h9).bind fun y10 h10 => (Inside_tot _ _ (by rw [he.len]; omega)).bind fun y11 _ => ?_))
    refine Tot.loop 2 (fun j st => st = (j : Int)) (by omega) rfl (fun j st hj hi => ?_) (fun st hi => ?_)
    · subst hi
      refine Tot.cond (fun _ => ?_) (fun h => by simp at h; omega)
      refine .idx rfl (by simpa using hj) ?_
      refine Tot.loop 4 (fun a st => st.1 = (a : Int) ∧ ∀ c j, c < a → c < (lget y2.1.f_Tables k).f_Keys.length → j < 128 → vb (vget st.2 c) j = true → (j : Int) < kb (lget (lget y2.1.f_Tables k).f_Keys c)) (by omega) ⟨rfl, fun c j hc => by omega⟩ (fun a st ha hi => ?_) (fun st hi => ?_)
      · obtain ⟨i, p⟩ := st; obtain ⟨f1, f2⟩ := hi
        simp only at f1 f2; subst f1
        refine Tot.cond (fun _ => ?_) (fun h => by simp at h; omega)
        refine .bind (P := fun q => ∀ c j, c < a + 1 → c < (lget y2.1.f_Tables k).f_Keys.length → j < 128 → vb (vget q c) j = true → (j : Int) < kb (lget (lget y2.1.f_Tables k).f_Keys c)) (.cond (fun hlt => ?_) fun hge => .ret fun c j hc hcl => f2 c j (by simp only [decide_eq_false_iff_not] at hge; omega) hcl) fun q hq => .ret ⟨w64_succ (by omega), hq⟩
        have hlt : a < (lget y2.1.f_Tables k).f_Keys.length := by simp only [decide_eq_true_eq] at hlt; omega
        have hkey := t4 _ (show lget (lget y2.1.f_Tables k).f_Keys a ∈ (lget y2.1.f_Tables k).f_Keys by rw [lget_eq _ hlt]; exact List.getElem_mem hlt)
        refine .idx rfl ha ((KeyBits_ok hs hlt hkey).bind fun y12 e12 => ?_)
        subst e12
        have hb := hkey.kb
        refine (Low_vb _ _ (by omega) (by omega)).bind fun y13 h13 => .idx rfl ha (.ret fun c j hc hcl hj hv => ?_)
        rw [vget_vset _ _ ha] at hv
        by_cases hca : c = a
        · subst hca
          rw [if_pos rfl, h13 j hj, Bool.and_eq_true, decide_eq_true_eq] at hv
          exact hv.2
        · rw [if_neg hca] at hv
          exact f2 c j (by omega) hcl hj hv
      · obtain ⟨i, p⟩ := st; obtain ⟨f1, f2⟩ := hi
        simp only at f1 f2; subst f1
        refine ⟨_, rfl, ?_⟩
        have hp : ∀ c j, c < (lget y2.1.f_Tables k).f_Keys.length → j < 128 → vb (vget p c) j = true → (j : Int) < kb (lget (lget y2.1.f_Tables k).f_Keys c) := fun c j hc hj => f2 c j (by omega) hc hj
        refine .condM (fun _ => Contains_eq _ _) fun y14 h14 => .condM (fun _ => Matches_tot hs hk he p hp) fun y15 h15 => .cond (fun hz => ?_) fun _ => .ret (w64_succ (by omega))
        exfalso
        simp only [Bool.and_eq_true, bne_iff_ne, ne_eq] at hz
        obtain ⟨ha, hne⟩ := hz
        apply hne
        rcases h5 with ⟨b, _⟩ | ⟨_, hb, hx⟩
        · rw [b] at ha; cases ha
        · have q1 := h14 ha
          have q2 := h15 ha hb
          rw [q1, Bool.eq_iff_iff, q2, inB_iff]
          constructor
          · intro hin c j hc hj
            have h16 := hin (c * 128 + (127 - j)) (by omega)
            unfold cv at h16
            rw [show (c * 128 + (127 - j)) / 128 = c by omega, show 127 - (c * 128 + (127 - j)) % 128 = j by omega, (hx c j (by omega) hj).1, (hx c j (by omega) hj).2, decide_eq_true hc, Bool.true_and, Bool.true_and] at h16
            exact h16
          · intro hall i hi
            unfold cv
            rw [(hx (i / 128) (127 - i % 128) (by omega) (by omega)).1, (hx (i / 128) (127 - i % 128) (by omega) (by omega)).2]
            by_cases hc : i / 128 < (lget y2.1.f_Tables k).f_Keys.length
            · rw [decide_eq_true hc, Bool.true_and, Bool.true_and]
              exact hall _ _ hc (by omega)
            · rw [decide_eq_false hc]; simp
    · subst hi
      refine ⟨_, rfl, ?_⟩
      exact .ret ⟨w64_succ (by omega), h10⟩
  · obtain ⟨i, cd⟩ := st; obtain ⟨e1, e2⟩ := hi
    simp only at e1 e2; subst e1
    refine ⟨_, rfl, ?_⟩
    simp only [Sum.elim_inl]
    exact .eq begun_ok (.ret rfl)
end Go.Proofs.Ytabodolbdalimaa
