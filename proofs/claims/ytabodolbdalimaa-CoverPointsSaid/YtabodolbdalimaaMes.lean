/-
  The law CubeMeets, in plain Lean: the law itself. Conditions: none.
-/
import Derived.Test.YtabodolbdalimaaMee
namespace Go.Proofs.Ytabodolbdalimaa
open Go Gv
set_option linter.unusedVariables false
set_option linter.unusedSimpArgs false
set_option maxRecDepth 100000

theorem agree_cells {x y : T_cube_Cube} {p r : Vector (BitVec 8) 512} (hp : ∀ i, i < 512 → vget p i = cell x.f_Value x.f_Mask i) (hr : ∀ i, i < 512 → vget r i = cell y.f_Value y.f_Mask i) :
    (∀ i, i < 512 → vget p i = 2#8 ∨ vget r i = 2#8 ∨ vget p i = vget r i) ↔ agree x y := by
  unfold agree
  refine forall_congr' fun i => forall_congr' fun hi => ?_
  rw [hp i hi, hr i hi]
  unfold cell
  cases cv x.f_Mask i <;> cases cv y.f_Mask i <;> cases cv x.f_Value i <;> cases cv y.f_Value i <;> simp

/-- the cubes' intersection is canonical -/
theorem meet_can {x y m : T_cube_Cube} (hx : can x) (hy : can y) (h4 : ∀ i, i < 512 → cv m.f_Value i = (cv x.f_Value i || cv y.f_Value i)) (h5 : ∀ i, i < 512 → cv m.f_Mask i = (cv x.f_Mask i || cv y.f_Mask i)) : can m := by
  intro i hi h
  rw [h4 i hi] at h
  rw [h5 i hi]
  simp only [Bool.or_eq_true] at h ⊢
  rcases h with h | h
  · exact .inl (hx i hi h)
  · exact .inr (hy i hi h)

theorem meet_cells {x y m : T_cube_Cube} (hx : can x) (hy : can y) (ha : agree x y) (h4 : ∀ i, i < 512 → cv m.f_Value i = (cv x.f_Value i || cv y.f_Value i)) (h5 : ∀ i, i < 512 → cv m.f_Mask i = (cv x.f_Mask i || cv y.f_Mask i))
    {i : Nat} (hi : i < 512) : cell m.f_Value m.f_Mask i = if cell x.f_Value x.f_Mask i = 2#8 then cell y.f_Value y.f_Mask i else cell x.f_Value x.f_Mask i := by
  have g1 := hx i hi; have g2 := hy i hi; have g3 := ha i hi
  unfold cell
  rw [h4 i hi, h5 i hi]
  revert g1 g2 g3
  cases cv x.f_Mask i <;> cases cv y.f_Mask i <;> cases cv x.f_Value i <;> cases cv y.f_Value i <;> simp

theorem within_cells {x y : T_cube_Cube} (hx : can x) (hy : can y) {p r : Vector (BitVec 8) 512} (hp : ∀ i, i < 512 → vget p i = cell x.f_Value x.f_Mask i) (hr : ∀ i, i < 512 → vget r i = cell y.f_Value y.f_Mask i) :
    (∀ i, i < 512 → vget r i = 2#8 ∨ vget p i = vget r i) ↔ ∀ i, i < 512 → cv y.f_Mask i = true → cv x.f_Mask i = true ∧ cv x.f_Value i = cv y.f_Value i := by
  refine forall_congr' fun i => forall_congr' fun hi => ?_
  rw [hp i hi, hr i hi]
  unfold cell
  cases cv x.f_Mask i <;> cases cv y.f_Mask i <;> cases cv x.f_Value i <;> cases cv y.f_Value i <;> simp

theorem free_same {x : T_cube_Cube} {p : Vector (BitVec 8) 512} (n : Nat) (N : Int) (hn : n ≤ 512 ∧ N = n) (hp : ∀ i, i < 512 → vget p i = cell x.f_Value x.f_Mask i) {a b : Int} (ha : a = N - (cnt n (cv x.f_Mask) : Nat)) (hb : b = (cnt n (fun i => vget p i == 2#8) : Nat)) : a = b := by
  have e1 : cnt n (fun i => vget p i == 2#8) = cnt n (fun i => !cv x.f_Mask i) := cnt_congr fun i hi => by rw [hp i (by omega), cell_eq_two]
  have e2 := cnt_not (n := n) (p := cv x.f_Mask)
  rw [e1] at hb
  omega

theorem meets_ok (x0 x1 x2 x3 x4 : Vector T_api_Value 4) : L_law25_CubeMeets x0 x1 x2 x3 x4 = some true := by
  suffices h : Tot (L_law25_CubeMeets x0 x1 x2 x3 x4) (fun r => r = true) by
    obtain ⟨r, h1, h2⟩ := h
    rw [h1, h2]
  unfold L_law25_CubeMeets
  refine (canonical_can _).bind fun y1 c1 => (canonical_can _).bind fun y2 c2 => (near_can _ _).bind fun y3 c3 => ?_
  refine Tot.loop 4 (fun k s => s = k) (by omega) rfl (fun k s hk hi => ?_) (fun s hi => ?_)
  · subst hi
    refine Tot.cond (fun _ => ?_) (fun h => by simp at h; omega)
    refine .idx rfl hk ((near_can _ _).bind fun y4 c4 => (near_can _ _).bind fun y5 c5 => ?_)
    have hx : can (lget [y1, y2, y3, (default : T_cube_Cube)] k) := can_get (by
      intro c hc
      simp only [List.mem_cons, List.not_mem_nil, or_false] at hc
      rcases hc with rfl | rfl | rfl | rfl
      · exact c1
      · exact c2
      · exact c3
      · exact can_default) hk
    generalize lget [y1, y2, y3, (default : T_cube_Cube)] k = x at hx ⊢
    refine Tot.loop 4 (fun k s => s = k) (by omega) rfl (fun k2 s hk2 hi => ?_) (fun s hi => ?_)
    · subst hi
      refine Tot.cond (fun _ => ?_) (fun h => by simp at h; omega)
      have hy : can (lget [y1, y2, y4, y5] k2) := can_get (by
        intro c hc
        simp only [List.mem_cons, List.not_mem_nil, or_false] at hc
        rcases hc with rfl | rfl | rfl | rfl
        · exact c1
        · exact c2
        · exact c4
        · exact c5) hk2
      refine .idx rfl hk2 ?_
      generalize lget [y1, y2, y4, y5] k2 = y at hy ⊢
      refine (Meet_eq x y).bind fun m hm => (bits_eq x).bind fun y7 h7 => (bits_eq y).bind fun y8 h8 => (refMeet_eq y7 y8).bind fun n hn => ?_
      obtain ⟨m1, m2, m3⟩ := hm
      obtain ⟨n1, n2⟩ := hn
      rw [agree_cells h7 h8] at n1
      have hok : m.2 = n.2 := by rw [Bool.eq_iff_iff, m1, n1]
      refine .condM (P := fun y10 => ∀ i, i < 512 → vget y10 i = cell m.1.f_Value m.1.f_Mask i) (fun _ => bits_eq _) fun y10 h10 => ?_
      refine .condM (P := fun y11 => m.2 = true → y11 = m.1) (fun h => ?_) fun y11 h11 => ?_
      · have h := of_decide_eq_true h
        obtain ⟨m4, m5⟩ := m3 h.1.2
        exact (canonical_id (meet_can hx hy m4 m5)).mono fun c hc _ => hc
      have hz : ((m.2 != n.2) || (m.2 && ((!decide (y10 = n.1)) || (!decide (m.1 = y11))))) = false := by
        cases ht : m.2
        · rw [← hok, ht]; rfl
        · have h10 := h10 (by simp [← hok, ht])
          obtain ⟨m4, m5⟩ := m3 ht
          have e1 : y10 = n.1 := vget_ext fun i hi => by
            rw [h10 i hi, n2 (by rw [← hok, ht]) i hi, h7 i hi, h8 i hi]
            exact meet_cells hx hy (m1.1 ht) m4 m5 hi
          have e2 := h11 (by simp [← hok, ht, e1]) ht
          simp [← hok, ht, e1, e2]
      refine .eq rfl ?_
      rw [hz]
      have hz2 : (false || ((!m.2) && (!decide (m.1 = (default : T_cube_Cube))))) = false := by
        cases ht : m.2
        · simp [m2 ht]
        · rfl
      rw [hz2]
      refine .condM (P := fun r => r = true ↔ ∀ i, i < 512 → cv y.f_Mask i = true → cv x.f_Mask i = true ∧ cv x.f_Value i = cv y.f_Value i) (fun _ => Within_eq x y hx hy) fun y12 h12 => ?_
      refine .condM (P := fun r => ∀ i, i < 512 → vget r i = cell x.f_Value x.f_Mask i) (fun _ => bits_eq x) fun y13 h13 => ?_
      refine .condM (P := fun r => ∀ i, i < 512 → vget r i = cell y.f_Value y.f_Mask i) (fun _ => bits_eq y) fun y14 h14 => ?_
      refine .condM (P := fun r => r = true ↔ ∀ i, i < 512 → vget y14 i = 2#8 ∨ vget y13 i = vget y14 i) (fun _ => refWithin_eq y13 y14) fun y15 h15 => .eq rfl ?_
      have hw : y12 = y15 := by rw [Bool.eq_iff_iff, h12 rfl, h15 rfl, within_cells hx hy (h13 rfl) (h14 rfl)]
      have hz3 : (false || (y12 != y15)) = false := by rw [hw]; simp
      rw [hz3]
      refine .cond (fun h => by cases h) (fun _ => own_loop x4 fun q' hq => ?_)
      refine (Contains_eq y q').bind fun y19 h19 => (bits_eq y).bind fun y20 h20 => (refContains_eq y20 q').bind fun y21 h21 => ?_
      have e1 : y19 = y21 := by rw [h19, contains_agree hy h20 h21]
      have f1 : (y19 != y21) = false := by rw [e1]; simp
      rw [f1]
      refine .condM (P := fun r => r = inB x q') (fun _ => Contains_eq x q') fun y22 h22 => ?_
      have e2 : y22 = true := by rw [h22 rfl]; exact inB_own hx hq
      have f2 : (false || (!y22)) = false := by rw [e2]; rfl
      rw [f2]
      refine .condM (P := fun r => r = inB x x4) (fun _ => Contains_eq x x4) fun y23 h23 => ?_
      refine .condM (P := fun r => ∀ i, i < 512 → vget r i = cell x.f_Value x.f_Mask i) (fun _ => bits_eq x) fun y24 h24 => ?_
      refine .condM (P := fun r => r = true ↔ ∀ i, i < 512 → vget y24 i = 2#8 ∨ vget y24 i = if cv x4 i then 1#8 else 0#8) (fun _ => refContains_eq y24 x4) fun y25 h25 => ?_
      have e3 : y23 = y25 := by rw [h23 rfl, contains_agree hx (h24 rfl) (h25 rfl)]
      have f3 : (false || (y23 != y25)) = false := by rw [e3]; simp
      rw [f3]
      exact .cond (fun h => by cases h) (fun _ => .ret (w64_succ (by omega)))
    · subst hi
      refine ⟨_, rfl, ?_⟩
      simp only [Sum.elim_inl]
      refine (Free_eq x).bind fun y26 h26 => (bits_eq x).bind fun y27 h27 => (refFree_eq y27).bind fun y28 h28 => ?_
      have he : y26 = y28 := free_same 512 512 (by omega) h27 h26 h28
      have hz : (y26 != y28) = false := by rw [he]; simp
      rw [hz]
      exact .cond (fun h => by cases h) (fun _ => .ret (w64_succ (by omega)))
  · subst hi
    refine ⟨_, rfl, ?_⟩
    exact .eq begun_ok (.ret rfl)
end Go.Proofs.Ytabodolbdalimaa
