/-
  The law CubeParts, in plain Lean. Conditions: none.
-/
import Derived.Test.YtabodolbdalimaaCub
import Derived.Test.YtabodolbdalimaaFix
namespace Go.Proofs.Ytabodolbdalimaa
open Go Gv
set_option linter.unusedVariables false
set_option linter.unusedSimpArgs false
set_option maxRecDepth 100000

theorem inB_own {a : T_cube_Cube} {q q' : Vector T_api_Value 4} (ha : can a) (h : ∀ i, i < 512 → cv q' i = (cv a.f_Value i || (cv q i && !cv a.f_Mask i))) : inB a q' = true := by
  rw [inB_iff]
  intro i hi
  rw [h i hi]
  cases hv : cv a.f_Value i
  · cases cv a.f_Mask i <;> simp
  · simp [ha i hi hv]

theorem parts_ok (x0 x1 x2 x3 x4 : Vector T_api_Value 4) : L_law25_CubeParts x0 x1 x2 x3 x4 = some true := by
  suffices h : Tot (L_law25_CubeParts x0 x1 x2 x3 x4) (fun r => r = true) by
    obtain ⟨r, h1, h2⟩ := h
    rw [h1, h2]
  unfold L_law25_CubeParts
  refine (canonical_can _).bind fun a ha => (near_can _ _).bind fun b hb => ?_
  refine Tot.loop 2 (fun k s => s = k) (by omega) rfl (fun k s hk hi => ?_) (fun s hi => ?_)
  · subst hi
    refine Tot.cond (fun _ => ?_) (fun h => by simp at h; omega)
    refine .idx rfl hk ?_
    generalize lget [false, true] k = inside
    refine Tot.loop 4 (fun k s => s.1 = k ∧ ∀ j, j < 4 → ∀ i, i < 128 → vb (vget s.2 j) i = if j < k ∧ inside = true then (vb (vget a.f_Value j) i || (vb (vget x4 j) i && !vb (vget a.f_Mask j) i)) else vb (vget x4 j) i) (by omega)
      ⟨rfl, fun j hj i hi => by simp⟩ (fun k s hk hi => ?_) (fun s hi => ?_)
    · obtain ⟨i, v⟩ := s; obtain ⟨h1, h2⟩ := hi
      simp only at h1 h2; subst h1
      refine Tot.cond (fun _ => ?_) (fun h => by simp at h; omega)
      refine .bind (P := fun w => ∀ j, j < 4 → ∀ i, i < 128 → vb (vget w j) i = if j < k + 1 ∧ inside = true then (vb (vget a.f_Value j) i || (vb (vget x4 j) i && !vb (vget a.f_Mask j) i)) else vb (vget x4 j) i) (.cond (fun hin => ?_) (fun hin => .ret fun j hj i hi => ?_)) fun w hw => .ret ⟨w64_succ (by omega), hw⟩
      · refine .idx rfl hk (.idx rfl hk (.idx rfl hk ((refNot_eq _).bind fun y3 h3 => (refAnd_eq _ _).bind fun y4 h4 => (refOr_eq _ _).bind fun y5 h5 => .idx rfl hk (.ret fun j hj i hi => ?_))))
        simp only [vget_vset _ _ hk]
        by_cases hj1 : j = k
        · subst hj1
          rw [if_pos rfl, if_pos ⟨by omega, hin⟩, h5 i hi, h4, vb_band, h3 i hi, h2 j hj i hi, if_neg (by omega)]
        · rw [if_neg hj1, h2 j hj i hi]
          have : (j < k + 1) ↔ j < k := by omega
          simp [this]
      · rw [h2 j hj i hi]; simp [hin]
    · obtain ⟨i, q'⟩ := s; obtain ⟨h1, h2⟩ := hi
      simp only at h1 h2; subst h1
      refine ⟨_, rfl, ?_⟩
      have hq : inside = true → ∀ i, i < 512 → cv q' i = (cv a.f_Value i || (cv x4 i && !cv a.f_Mask i)) := by
        intro hin i hi
        unfold cv
        rw [h2 _ (by omega) _ (by omega), if_pos ⟨by omega, hin⟩]
      have hwant : inside = true → inB a q' = true := fun hin => inB_own ha (hq hin)
      obtain ⟨y8, hy8, g8⟩ := Meet_eq a b
      obtain ⟨out, hout, hlen, hc1, hc2⟩ : Tot (L_cube_Minus a b) (fun out => out.length ≤ 512 ∧ (agree a b → out.countP (inB · q') + (inB y8.1 q').toNat = (inB a q').toNat) ∧ (¬ agree a b → out.countP (inB · q') = (inB a q').toNat)) := by
        by_cases hag : agree a b
        · have := g8.2.2 (g8.1.2 hag)
          exact Minus_count a b ha hb q' y8.1 this.1 this.2
        · have hM := Minus_count a b ha hb q' ⟨(Vector.ofFn fun j => bor (vget a.f_Value j.1) (vget b.f_Value j.1)), (Vector.ofFn fun j => bor (vget a.f_Mask j.1) (vget b.f_Mask j.1))⟩
            (fun i hi => by unfold cv; simp [vget, show i / 128 < 4 by omega]) (fun i hi => by unfold cv; simp [vget, show i / 128 < 4 by omega])
          exact hM.mono fun out h => ⟨h.1, fun hh => absurd hh hag, h.2.2⟩
      refine .eq hout ?_
      refine Tot.loop out.length (fun k s => s.2 = k ∧ s.1 = ((out.take k).countP (inB · q') : Nat)) (by omega) ⟨rfl, by simp⟩ (fun k s hk hi => ?_) (fun s hi => ?_)
      · obtain ⟨n, i⟩ := s; obtain ⟨h3, h4⟩ := hi
        simp only at h3 h4; subst h3; subst h4
        refine Tot.cond (fun _ => ?_) (fun h => by simp at h; omega)
        refine .idx rfl hk ((Contains_eq _ _).bind fun y7 h7 => ?_)
        have hcp : (out.take (k + 1)).countP (inB · q') = (out.take k).countP (inB · q') + (inB (lget out k) q').toNat := by
          rw [List.take_add_one, List.getElem?_eq_getElem hk, List.countP_append, lget_eq out hk]
          simp [List.countP_cons, List.countP_nil]
          cases inB out[k] q' <;> rfl
        have hle : (out.take k).countP (inB · q') ≤ 512 := Nat.le_trans List.countP_le_length (by simp; omega)
        refine .bind (P := fun (m : Int) => m = ((out.take (k + 1)).countP (inB · q') : Nat)) (.cond (fun h => .ret ?_) (fun h => .ret ?_)) fun m hm => .ret ⟨w64_succ (by omega), hm⟩
        · rw [hcp, ← h7, h, w64_in (by omega) (by omega)]; simp
        · rw [hcp, ← h7, h]; simp
      · obtain ⟨n, i⟩ := s; obtain ⟨h3, h4⟩ := hi
        simp only at h3 h4; subst h3
        rw [List.take_length] at h4
        refine ⟨_, by simp; rfl, ?_⟩
        have hle : out.countP (inB · q') ≤ 512 := Nat.le_trans List.countP_le_length hlen
        refine .eq hy8 (.condM (P := fun r => r = inB y8.1 q') (fun _ => Contains_eq _ _) fun y9 h9 => ?_)
        refine .bind (P := fun (m : Int) => m = ((inB a q').toNat : Int)) (.cond (fun h => .ret ?_) (fun h => .ret ?_)) fun m3 hm3 => (Contains_eq _ _).bind fun y10 h10 => ?_
        · simp only [Bool.and_eq_true] at h
          have hag := g8.1.1 h.1
          have := hc1 hag
          rw [← h9 h.1, h.2] at this
          rw [h4, w64_in (by omega) (by omega)]
          simp at this
          omega
        · rw [h4]
          by_cases hag : agree a b
          · have ht := g8.1.2 hag
            have := hc1 hag
            rw [← h9 ht] at this
            rw [ht] at h
            simp at h
            rw [h] at this
            simp at this
            omega
          · have := hc2 hag
            omega
        · refine .bind (P := fun (m : Int) => m = ((inB a q').toNat : Int)) (.cond (fun h => .ret ?_) (fun h => .ret ?_)) fun m4 hm4 => ?_
          · rw [← h10, h]; rfl
          · rw [← h10, h]; rfl
          · rw [hm3, hm4]
            refine .cond (fun h => ?_) (fun _ => .ret (w64_succ (by omega)))
            exfalso
            cases hin : inside
            · simp [hin] at h
            · rw [hwant hin] at h
              simp at h
  · subst hi
    refine ⟨_, rfl, ?_⟩
    exact .eq begun_ok (.ret rfl)
end Go.Proofs.Ytabodolbdalimaa
