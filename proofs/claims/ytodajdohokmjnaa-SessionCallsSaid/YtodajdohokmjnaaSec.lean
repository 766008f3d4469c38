/-
  The law SessionCalls, in plain Lean. Conditions: none.
-/
import Derived.Test.YtodajdohokmjnaaSeb
import Derived.Test.YtodajdohokmjnaaIds
namespace Go.Proofs.Ytodajdohokmjnaa
open Go Gv
set_option linter.unusedVariables false
set_option linter.unusedSimpArgs false
set_option maxRecDepth 100000

/-! ### Lists that ascend by a key -/

theorem sorted_ext {α : Type} {f : α → Int} : ∀ {l m : List α}, (l.Pairwise fun a b => f a < f b) → (m.Pairwise fun a b => f a < f b) → (∀ y, y ∈ l ↔ y ∈ m) → l = m
  | [], [], _, _, _ => rfl
  | [], y :: m, _, _, h => absurd ((h y).2 (by simp)) (by simp)
  | x :: l, [], _, _, h => absurd ((h x).1 (by simp)) (by simp)
  | x :: l, y :: m, h1, h2, h => by
    obtain ⟨a1, a2⟩ := List.pairwise_cons.1 h1
    obtain ⟨b1, b2⟩ := List.pairwise_cons.1 h2
    have hxy : x = y := by
      rcases List.mem_cons.1 ((h x).1 (by simp)) with e | hx
      · exact e
      rcases List.mem_cons.1 ((h y).2 (by simp)) with e | hy
      · exact e.symm
      have := a1 y hy; have := b1 x hx; omega
    subst hxy
    congr 1
    refine sorted_ext a2 b2 fun z => ?_
    constructor
    · intro hz
      rcases List.mem_cons.1 ((h z).1 (by simp [hz])) with e | h3
      · subst e; have := a1 z hz; omega
      · exact h3
    · intro hz
      rcases List.mem_cons.1 ((h z).2 (by simp [hz])) with e | h3
      · subst e; have := b1 z hz; omega
      · exact h3
theorem sorted_key {α : Type} {f : α → Int} {l : List α} (h : l.Pairwise fun a b => f a < f b) {x y : α} (hx : x ∈ l) (hy : y ∈ l) (e : f x = f y) : x = y := by
  obtain ⟨i, hi, rfl⟩ := List.mem_iff_getElem.1 hx
  obtain ⟨j, hj, rfl⟩ := List.mem_iff_getElem.1 hy
  have h1 := List.pairwise_iff_getElem.1 h
  by_cases hij : i = j
  · subst hij; rfl
  · rcases Nat.lt_or_gt_of_ne hij with h2 | h2
    · have := h1 i j hi hj h2; omega
    · have := h1 j i hj hi h2; omega
theorem putK_same {α : Type} {f : α → Int} {l : List α} {x : α} (h : l.Pairwise fun a b => f a < f b) (hx : x ∈ l) : putK f l x = l := by
  refine sorted_ext (putK_sorted h) h fun y => ?_
  rw [putK_mem]
  constructor
  · rintro (rfl | ⟨h1, _⟩)
    · exact hx
    · exact h1
  · intro hy
    by_cases e : f y = f x
    · exact .inl (sorted_key h hy hx e)
    · exact .inr ⟨hy, e⟩

/-- the first place whose element has no lesser key -/
def geK {α : Type} (f : α → Int) (l : List α) (k : Int) : Nat := l.findIdx fun y => decide (k ≤ f y)
theorem geK_le {α : Type} (f : α → Int) (l : List α) (k : Int) : geK f l k ≤ l.length := List.findIdx_le_length
theorem geK_lt {α : Type} {f : α → Int} {l : List α} {k : Int} {j : Nat} (hj : j < geK f l k) (hl : j < l.length) : f l[j] < k := by
  have := List.not_of_lt_findIdx (xs := l) (p := fun y => decide (k ≤ f y)) hj
  simp at this
  omega
theorem geK_at {α : Type} {f : α → Int} {l : List α} {k : Int} (h : geK f l k < l.length) : k ≤ f l[geK f l k] := by
  have := List.findIdx_getElem (xs := l) (p := fun y => decide (k ≤ f y)) (w := h)
  simp only [decide_eq_true_eq] at this
  exact this
theorem putK_set {α : Type} {f : α → Int} {l : List α} {x : α} (h : l.Pairwise fun a b => f a < f b) (hk : geK f l (f x) < l.length) (he : f l[geK f l (f x)] = f x) : putK f l x = l.set (geK f l (f x)) x := by
  have hp : ((l.set (geK f l (f x)) x)).Pairwise fun a b => f a < f b := by
    rw [List.pairwise_iff_getElem] at h ⊢
    intro i j hi hj hij
    rw [List.length_set] at hi hj
    have h1 := h i j hi hj hij
    rw [List.getElem_set, List.getElem_set]
    split <;> split
    · omega
    · rename_i e _; subst e; omega
    · rename_i _ e; subst e; omega
    · exact h1
  refine sorted_ext (putK_sorted h) hp fun y => ?_
  rw [putK_mem]
  constructor
  · rintro (rfl | ⟨h1, h2⟩)
    · exact List.mem_set hk _
    · obtain ⟨i, hi, rfl⟩ := List.mem_iff_getElem.1 h1
      have hne : geK f l (f x) ≠ i := fun e => by subst e; exact h2 he
      exact List.mem_iff_getElem.2 ⟨i, by rw [List.length_set]; exact hi, by rw [List.getElem_set_ne hne]⟩
  · intro hy
    obtain ⟨i, hi, rfl⟩ := List.mem_iff_getElem.1 hy
    rw [List.length_set] at hi
    rw [List.getElem_set]
    split
    · exact .inl rfl
    · rename_i hne
      refine .inr ⟨List.getElem_mem hi, fun e => ?_⟩
      have := sorted_key h (List.getElem_mem hi) (List.getElem_mem hk) (e.trans he.symm)
      have h1 := List.pairwise_iff_getElem.1 h
      rcases Nat.lt_or_gt_of_ne hne with h2 | h2
      · have := h1 _ _ hk hi h2; omega
      · have := h1 _ _ hi hk h2; omega
theorem putK_ins {α : Type} {f : α → Int} {l : List α} {x : α} (hn : ∀ y ∈ l, f y ≠ f x) : putK f l x = l.take (geK f l (f x)) ++ [x] ++ l.drop (geK f l (f x)) := by
  have h1 : l.filter (fun y => !(f y == f x)) = l := List.filter_eq_self.2 fun y hy => by simp [hn y hy]
  have h2 : l.findIdx (fun y => decide (f y > f x)) = geK f l (f x) := by
    unfold geK
    have go : ∀ l : List α, (∀ y ∈ l, f y ≠ f x) → l.findIdx (fun y => decide (f y > f x)) = l.findIdx (fun y => decide (f x ≤ f y)) := by
      intro l
      induction l with
      | nil => intro _; rfl
      | cons a r ih =>
        intro hn
        rw [List.findIdx_cons, List.findIdx_cons, ih fun y hy => hn y (by simp [hy])]
        have h3 := hn a (by simp)
        have : decide (f a > f x) = decide (f x ≤ f a) := by rw [decide_eq_decide]; omega
        rw [this]
    exact go l hn
  unfold putK
  rw [h1, h2]
theorem putK_ins' {α : Type} {f : α → Int} {l : List α} {x : α} (h : l.Pairwise fun a b => f a < f b) (he : ∀ hk : geK f l (f x) < l.length, f l[geK f l (f x)] ≠ f x) : putK f l x = l.take (geK f l (f x)) ++ [x] ++ l.drop (geK f l (f x)) := by
  refine putK_ins fun y hy e => ?_
  obtain ⟨i, hi, rfl⟩ := List.mem_iff_getElem.1 hy
  have h1 := List.pairwise_iff_getElem.1 h
  rcases Nat.lt_trichotomy i (geK f l (f x)) with h2 | h2 | h2
  · have := geK_lt h2 hi; omega
  · subst h2; exact he hi e
  · have hk : geK f l (f x) < l.length := by omega
    have h3 := geK_at hk
    have h4 := h1 _ _ hk hi h2
    omega

/-- the loop that looks for that place -/
theorem ge_loop {α β : Type} [Inhabited α] (f : α → Int) (l : List α) (c : Int) {g : Int × Bool → Option β} {P : β → Prop} (hl : l.length < 2 ^ 62) (h : ∀ z, Tot (g ((geK f l c : Nat), z)) P) :
    Tot ((loopM (σ := Int) (ε := (Int × Bool)) FUEL (fun s1 =>
      (condM (decide (s1 < (l.length : Int))) true (idx l.length s1)).bind fun k1 =>
      (some ((decide (s1 < (l.length : Int))) && (decide (f (lget l k1) < c)))).bind fun z1 =>
      cond z1 (
        some (.inl (w64 (s1 + 1)))) (
        some (.inr (s1, z1)))) 0).bind g) P := by
  refine Tot.loop (geK f l c) (fun k s => s = (k : Int)) (by have := geK_le f l c; omega) rfl (fun k s hk hi => ?_) (fun s hi => ?_)
  · subst hi
    have hkl : k < l.length := by have := geK_le f l c; omega
    have e1 : decide ((k : Int) < (l.length : Int)) = true := by simp; omega
    rw [e1]
    have e2 : condM true true (idx l.length (k : Int)) = some k := by unfold condM; rw [if_pos rfl, idx_nat hkl]
    refine .eq e2 (.eq rfl ?_)
    have e3 : decide (f (lget l k) < c) = true := by rw [lget_eq l hkl]; simpa using geK_lt hk hkl
    rw [e3]
    exact .ret (w64_succ (by omega))
  · subst hi
    by_cases hk : geK f l c < l.length
    · refine ⟨((geK f l c : Nat), false), ?_, h _⟩
      have e1 : decide (((geK f l c : Nat) : Int) < (l.length : Int)) = true := by simp; omega
      rw [e1]
      have e2 : condM true true (idx l.length ((geK f l c : Nat) : Int)) = some (geK f l c) := by unfold condM; rw [if_pos rfl, idx_nat hk]
      rw [e2]
      have e3 : decide (f (lget l (geK f l c)) < c) = false := by have := geK_at hk; rw [lget_eq l hk]; simp; omega
      simp only [Option.bind_some, e3, Bool.and_false, cond_false]
    · refine ⟨((geK f l c : Nat), false), ?_, h _⟩
      have e1 : decide (((geK f l c : Nat) : Int) < (l.length : Int)) = false := by simp; omega
      rw [e1]
      rfl

theorem slice_take {α : Type} (l : List α) {k : Nat} (hk : k ≤ l.length) : sliceM l 0 (k : Int) = some (l.take k) := by
  unfold sliceM; rw [if_pos ⟨by omega, by omega, by omega⟩]; simp
theorem slice_drop {α : Type} (l : List α) {k : Nat} (hk : k ≤ l.length) : sliceM l (k : Int) (l.length : Int) = some (l.drop k) := by
  unfold sliceM; rw [if_pos ⟨by omega, by omega, by omega⟩]
  simp only [Int.toNat_natCast, Option.some.injEq]
  rw [List.take_of_length_le (by rw [List.length_drop]; omega)]

/-! ### The reference -/

theorem geK_map {α β : Type} (h : α → β) (f : β → Int) (g : α → Int) (hg : ∀ x, f (h x) = g x) (l : List α) (c : Int) : geK f (l.map h) c = geK g l c := by
  unfold geK
  induction l with
  | nil => rfl
  | cons a r ih => rw [List.map_cons, List.findIdx_cons, List.findIdx_cons, hg a, ih]

theorem rRoleOf_eq {s : T_api_Schema} (hs : SchOk s) (r : Int) : Tot (L_ref04_RoleOf s r) (fun y => decide (y < 0) = decide (r ∉ [1, 2, 7])) := by
  unfold L_ref04_RoleOf
  refine (ids_ok hs).bind fun v hv => ?_
  rw [hv.roles, hs.roles]
  refine (idx_of [1, 2, 7] r (by simp)).bind fun y hy => .ret ?_
  rw [decide_eq_decide]
  rcases hy with ⟨h1, h2⟩ | ⟨k, h1, h2, h3⟩
  · subst h1; exact ⟨fun _ => h2, fun _ => by omega⟩
  · subst h2
    refine ⟨fun h => by omega, fun h => absurd ?_ h⟩
    rw [← h3, lget_eq _ h1]; exact List.getElem_mem _

theorem filt_snoc {α β : Type} [Inhabited α] (p : α → Bool) (f : α → β) (l : List α) {k : Nat} (hk : k < l.length) : ((l.take (k + 1)).filter p).map f = ((l.take k).filter p).map f ++ (if p (lget l k) then [f (lget l k)] else []) := by
  rw [take_succ_lget l hk, List.filter_append, List.map_append]
  congr 1
  cases h : p (lget l k) <;> simp [h]

def woS (x : T_session_State) (c : Int) : T_session_State := { x with f_Sessions := x.f_Sessions.filter fun s => !(s.f_Controller == c) }
theorem without_eq (x : T_session_State) (c : Int) (hl : x.f_Sessions.length ≤ 1000) (hl2 : x.f_Tops.length ≤ 1000) : Tot (L_ref20_without (mir x) c) (fun y => y = mir (woS x c)) := by
  unfold L_ref20_without
  refine .eq (app_small _ _ (by simp [mir]; omega) (by omega)) ?_
  refine Tot.loop x.f_Sessions.length (fun k s => s.1 = (k : Int) ∧ s.2.1.f_Tops = (mir x).f_Tops ∧ s.2.2 = ((x.f_Sessions.take k).filter fun s => !(s.f_Controller == c)).map mS) (by omega) ⟨rfl, rfl, rfl⟩ (fun k s hk hi => ?_) (fun s hi => ?_)
  · obtain ⟨i, z, l⟩ := s; obtain ⟨e1, e2, e3⟩ := hi
    simp only at e1 e2 e3; subst e1
    have hkm : k < (mir x).f_Sessions.length := by simpa [mir] using hk
    refine Tot.cond (fun _ => .idx rfl hkm ?_) (fun h => by simp [mir] at h; omega)
    have hg : lget (mir x).f_Sessions k = mS (lget x.f_Sessions k) := lget_map mS hk
    rw [hg]
    refine .bind (P := fun m : T_ref20_State × List T_ref20_Session => m.1.f_Tops = (mir x).f_Tops ∧ m.2 = ((x.f_Sessions.take (k + 1)).filter fun s => !(s.f_Controller == c)).map mS) (.cond (fun h => ?_) (fun h => .ret ⟨e2, ?_⟩)) fun m hm => .ret ⟨w64_succ (by omega), hm⟩
    · have hf : ((x.f_Sessions.take k).filter fun s => !(s.f_Controller == c)).length ≤ k := Nat.le_trans (List.length_filter_le _ _) (by simp; omega)
      refine .eq (app_small _ _ (by rw [e3]; simp only [List.length_map, List.length_cons, List.length_nil]; omega) (by omega)) (.ret ⟨e2, ?_⟩)
      have h' : (!((lget x.f_Sessions k).f_Controller == c)) = true := h
      simp only
      rw [filt_snoc _ _ _ hk, e3, if_pos h']
    · have h' : (!((lget x.f_Sessions k).f_Controller == c)) = false := h
      simp only
      rw [filt_snoc _ _ _ hk, e3, if_neg (by rw [h']; simp)]; simp
  · obtain ⟨i, z, l⟩ := s; obtain ⟨e1, e2, e3⟩ := hi
    simp only at e1 e2 e3; subst e1
    refine ⟨_, by simp only [mir, List.length_map, show decide ((x.f_Sessions.length : Int) < (x.f_Sessions.length : Int)) = false by simp, cond_false]; rfl, ?_⟩
    refine .ret ?_
    obtain ⟨zs, zt⟩ := z
    simp only at e2
    simp only [e2, e3, List.take_length]
    rfl
theorem withoutq_eq (x : T_session_State) (c : Int) (hl : x.f_Sessions.length ≤ 1000) (hl2 : x.f_Tops.length ≤ 1000) : Tot (Lq0_1_ref20_without (mir x) c) (fun y => y = mir (woS x c)) := by
  unfold Lq0_1_ref20_without
  refine .eq (app_small _ _ (by simp [mir]; omega) (by omega)) ?_
  refine Tot.loop x.f_Sessions.length (fun k s => s.1 = (k : Int) ∧ s.2.2 = ((x.f_Sessions.take k).filter fun s => !(s.f_Controller == c)).map mS) (by omega) ⟨rfl, rfl⟩ (fun k s hk hi => ?_) (fun s hi => ?_)
  · obtain ⟨i, z, l⟩ := s; obtain ⟨e1, e3⟩ := hi
    simp only at e1 e3; subst e1
    have hkm : k < (mir x).f_Sessions.length := by simpa [mir] using hk
    refine Tot.cond (fun _ => .idx rfl hkm ?_) (fun h => by simp [mir] at h; omega)
    have hg : lget (mir x).f_Sessions k = mS (lget x.f_Sessions k) := lget_map mS hk
    rw [hg]
    refine .bind (P := fun m : T_ref20_State × List T_ref20_Session => m.2 = ((x.f_Sessions.take (k + 1)).filter fun s => !(s.f_Controller == c)).map mS) (.cond (fun h => ?_) (fun h => .ret ?_)) fun m hm => .ret ⟨w64_succ (by omega), hm⟩
    · have hf : ((x.f_Sessions.take k).filter fun s => !(s.f_Controller == c)).length ≤ k := Nat.le_trans (List.length_filter_le _ _) (by simp; omega)
      refine .eq (app_small _ _ (by rw [e3]; simp only [List.length_map, List.length_cons, List.length_nil]; omega) (by omega)) (.ret ?_)
      have h' : (!((lget x.f_Sessions k).f_Controller == c)) = true := h
      simp only
      rw [filt_snoc _ _ _ hk, e3, if_pos h']
    · have h' : (!((lget x.f_Sessions k).f_Controller == c)) = false := h
      simp only
      rw [filt_snoc _ _ _ hk, e3, if_neg (by rw [h']; simp)]; simp
  · obtain ⟨i, z, l⟩ := s; obtain ⟨e1, e3⟩ := hi
    simp only at e1 e3; subst e1
    refine ⟨_, by simp only [mir, List.length_map, show decide ((x.f_Sessions.length : Int) < (x.f_Sessions.length : Int)) = false by simp, cond_false]; rfl, ?_⟩
    refine .ret ?_
    simp only [e3, List.take_length]
    rfl

theorem nctl (c : Int) : (decide (c < 0) || decide (c ≥ 6)) = !ctl c := by
  rw [Bool.eq_iff_iff]; simp [ctl]
theorem rLeave_eq (x : T_session_State) (c : Int) (hl : x.f_Sessions.length ≤ 1000) (hl2 : x.f_Tops.length ≤ 1000) : Tot (L_ref20_Leave (mir x) c) (fun y => y = (mir (lvS x c).1, (lvS x c).2)) := by
  unfold L_ref20_Leave lvS
  rw [nctl]
  refine .cond (fun h => .ret ?_) fun h => ?_
  · rw [if_pos (by simpa using h)]; rfl
  rw [if_neg (by simpa using h)]
  refine (rOf_eq x c hl).bind fun y2 h2 => ?_
  subst h2
  cases hs : sOf x c with
  | none => exact .cond (fun _ => .ret rfl) (fun h => by cases h)
  | some s => exact .cond (fun h => by cases h) fun _ => (without_eq x c hl hl2).bind fun y hy => .ret (by rw [hy]; rfl)

theorem raise_eq {x : T_session_State} (hs : x.f_Tops.Pairwise fun a b => a.f_Role < b.f_Role) (r : Int) (e : T_api_Value) (hl : x.f_Tops.length ≤ 1000) :
    Tot (Lp0_ref20_raise (mir x).f_Tops r e) (fun y => y = (putK (·.f_Role) x.f_Tops { f_Role := r, f_Election := e }).map mT) := by
  unfold Lp0_ref20_raise
  have hlm : (mir x).f_Tops.length = x.f_Tops.length := by simp [mir]
  refine ge_loop (fun t : T_ref20_Top => t.f_Role) (mir x).f_Tops r (by omega) fun z => ?_
  have hge : geK (fun t : T_ref20_Top => t.f_Role) (mir x).f_Tops r = geK (·.f_Role) x.f_Tops r := geK_map mT _ _ (fun _ => rfl) _ _
  rw [hge]
  simp only
  have hle := geK_le (·.f_Role) x.f_Tops r
  generalize hk : geK (·.f_Role) x.f_Tops r = k at *
  by_cases hkl : k < x.f_Tops.length
  · have hkm : k < (mir x).f_Tops.length := by omega
    have e1 : decide (((k : Nat) : Int) < ((mir x).f_Tops.length : Int)) = true := by simp; omega
    rw [e1]
    refine .eq (a := k) (by unfold condM; rw [if_pos rfl, idx_nat hkm]) ?_
    have hg : lget (mir x).f_Tops k = mT (lget x.f_Tops k) := lget_map mT hkl
    refine .cond (fun h => .idx rfl hkm (.ret ?_)) fun h => ?_
    · have he : (lget x.f_Tops k).f_Role = r := by rw [hg] at h; simpa [mT] using h
      have hsub : x.f_Tops[geK (·.f_Role) x.f_Tops r]'(by rw [hk]; exact hkl) = lget x.f_Tops k := by rw [lget_eq _ hkl]; congr 1
      rw [putK_set (x := ({ f_Role := r, f_Election := e } : T_session_Top)) hs (by simp only [hk]; exact hkl) (by simp only; rw [hsub]; exact he)]
      simp only [hk]
      unfold lset
      rw [hg]
      show (x.f_Tops.map mT).set k _ = _
      rw [List.map_set]
      congr 1
      rw [← he]; rfl
    · have he : (lget x.f_Tops k).f_Role ≠ r := by rw [hg] at h; simpa [mT] using h
      have hsub : x.f_Tops[geK (·.f_Role) x.f_Tops r]'(by rw [hk]; exact hkl) = lget x.f_Tops k := by rw [lget_eq _ hkl]; congr 1
      rw [putK_ins' (x := ({ f_Role := r, f_Election := e } : T_session_Top)) hs (fun h' => by simp only; rw [hsub]; exact he)]
      simp only [hk]
      refine .eq (slice_take _ (by omega)) (.eq (app_small _ _ (by simp; omega) (by omega)) (.eq (app_small _ _ (by simp; omega) (by omega)) (.eq (slice_drop _ (by omega)) (.eq (app_small _ _ (by simp; omega) (by omega)) (.ret ?_)))))
      simp only [mir, List.map_append, List.map_take, List.map_drop, List.nil_append]; rfl
  · have e1 : decide (((k : Nat) : Int) < ((mir x).f_Tops.length : Int)) = false := by simp; omega
    rw [e1]
    refine .eq (a := default) (by unfold condM; rw [if_neg (by simp)]) (.cond (fun h => by cases h) fun _ => ?_)
    rw [putK_ins' (x := ({ f_Role := r, f_Election := e } : T_session_Top)) hs (fun h' => by simp only [hk] at h'; omega)]
    simp only [hk]
    refine .eq (slice_take _ (by omega)) (.eq (app_small _ _ (by simp; omega) (by omega)) (.eq (app_small _ _ (by simp; omega) (by omega)) (.eq (slice_drop _ (by omega)) (.eq (app_small _ _ (by simp; omega) (by omega)) (.ret ?_)))))
    simp only [mir, List.map_append, List.map_take, List.map_drop, List.nil_append]; rfl

/-- the primary controller behind an arbitration -/
theorem prim_after {n : Nat} {x : T_session_State} (hx : StOk n x) {c r : Int} {e : T_api_Value} (ht : takenS x c r e = false) (y : T_session_State)
    (hy : y = ({ f_Sessions := putK (·.f_Controller) x.f_Sessions { f_Controller := c, f_Role := r, f_Election := e }, f_Tops := putK (·.f_Role) x.f_Tops { f_Role := r, f_Election := hiS x r e } } : T_session_State)) :
    ((sPrim y r).2 && ((sPrim y r).1 == c)) = decide (hiS x r e = e) := by
  have hst : sTop y r = hiS x r e := by
    unfold sTop
    have hs := putK_sorted (x := ({ f_Role := r, f_Election := hiS x r e } : T_session_Top)) hx.srt
    have hnd : ((putK (·.f_Role) x.f_Tops ({ f_Role := r, f_Election := hiS x r e } : T_session_Top)).map (·.f_Role)).Nodup := by
      rw [List.Nodup, List.pairwise_map]
      exact hs.imp fun h => by omega
    have := find_key hnd (putK_mem.2 (.inl rfl))
    simp only at this
    rw [hy]
    simp only
    rw [this]
  unfold sPrim
  rw [hst]
  have hnew : (({ f_Controller := c, f_Role := r, f_Election := e } : T_session_Session)) ∈ y.f_Sessions := by rw [hy]; exact putK_mem.2 (.inl rfl)
  have hold : ∀ s ∈ y.f_Sessions, s.f_Role = r → s.f_Election = e → s.f_Controller = c := fun s hs h1 h2 => by
    rw [hy] at hs
    rcases putK_mem.1 hs with h | ⟨h3, h4⟩
    · rw [h]
    · exfalso
      unfold takenS at ht
      rw [List.any_eq_false] at ht
      have := ht s h3
      simp [h1, h2] at this
      exact h4 this
  have hctl : ∀ s ∈ y.f_Sessions, s.f_Controller = c → s.f_Election = e := fun s hs h1 => by
    rw [hy] at hs
    rcases putK_mem.1 hs with h | ⟨h3, h4⟩
    · rw [h]
    · exact absurd h1 h4
  cases hf : y.f_Sessions.find? fun s => s.f_Role == r && decide (s.f_Election = hiS x r e) with
  | none =>
    have h1 := List.find?_eq_none.1 hf _ hnew
    simp only [beq_self_eq_true, Bool.true_and, decide_eq_true_eq] at h1
    simp only [prm, Bool.false_and]
    symm
    rw [decide_eq_false_iff_not]
    exact fun h => h1 h.symm
  | some s =>
    have h1 := List.mem_of_find?_eq_some hf
    have h2 := List.find?_some hf
    simp only [Bool.and_eq_true, beq_iff_eq, decide_eq_true_eq] at h2
    simp only [prm, Bool.true_and]
    rw [Bool.eq_iff_iff, beq_iff_eq, decide_eq_true_eq]
    constructor
    · intro h
      rw [← h2.2]; exact hctl s h1 h
    · intro h
      exact hold s h1 h2.1 (by rw [h2.2, h])

theorem rArb_eq {s : T_api_Schema} (hs : SchOk s) {n : Nat} {x : T_session_State} (hx : StOk n x) (hn : n ≤ 900) (c r : Int) (e : T_api_Value) : Tot (L_ref20_Arbitrate (mir x) s c r e) (fun y => y = (mir (arbS x c r e).1, (arbS x c r e).2.1, (arbS x c r e).2.2)) := by
  have b1 := hx.sl; have b2 := hx.tl
  unfold L_ref20_Arbitrate arbS
  rw [nctl]
  refine .cond (fun h => .ret ?_) fun h => ?_
  · rw [if_pos (by simpa using h)]; rfl
  rw [if_neg (by simpa using h)]
  refine (rRoleOf_eq hs r).bind fun y1 h1 => ?_
  rw [h1]
  refine .cond (fun h => .ret ?_) fun h => ?_
  · rw [if_pos (by simpa using h)]; rfl
  rw [if_neg (by simpa using h)]
  have hlm : (mir x).f_Sessions.length = x.f_Sessions.length := by simp [mir]
  have htk : takenS x c r e = (mir x).f_Sessions.any fun y => (y.f_Controller != c && y.f_Role == r) && decide (y.f_Election = e) := by
    simp only [mir, List.any_map]; rfl
  refine find_loop (mir x).f_Sessions (fun y => (y.f_Controller != c && y.f_Role == r) && decide (y.f_Election = e)) (by omega) (fun k hk hp => ?_) (fun k hk hq hp => ?_) (fun hq => ?_)
  · simp only [show decide ((k : Int) < ((mir x).f_Sessions.length : Int)) = true by simp; omega, cond_true, idx_nat hk, Option.bind_some, hp, cond_false]
  · refine ⟨_, by simp only [show decide ((k : Int) < ((mir x).f_Sessions.length : Int)) = true by simp; omega, cond_true, idx_nat hk, Option.bind_some, hp]; rfl, ?_⟩
    refine .ret ?_
    have : takenS x c r e = true := by rw [htk, List.any_eq_true]; exact ⟨_, List.mem_of_find?_eq_some hq, hp⟩
    rw [this, if_pos (by simp)]; rfl
  refine ⟨_, by simp only [show decide (((mir x).f_Sessions.length : Int) < ((mir x).f_Sessions.length : Int)) = false by simp, cond_false]; rfl, ?_⟩
  have ht : takenS x c r e = false := by
    rw [htk, List.any_eq_false]
    intro y hy
    exact List.find?_eq_none.1 hq y hy
  rw [ht]
  simp only [Sum.elim_inl, Bool.or_false]
  refine .cond (fun h => .ret ?_) fun h => ?_
  · rw [if_pos h]; rfl
  rw [if_neg (by simpa using h)]
  have he0 : e ≠ default := by simpa using h
  refine (withoutq_eq x c (by omega) (by omega)).bind fun y2 h2 => ?_
  subst h2
  have hwl : (woS x c).f_Sessions.length ≤ n := Nat.le_trans (List.length_filter_le _ _) b1
  have hwm : (mir (woS x c)).f_Sessions.length = (woS x c).f_Sessions.length := by simp [mir]
  have hwt : (mir (woS x c)).f_Tops = (mir x).f_Tops := rfl
  refine ge_loop (fun t : T_ref20_Session => t.f_Controller) (mir (woS x c)).f_Sessions c (by omega) fun z => ?_
  have hge : geK (fun t : T_ref20_Session => t.f_Controller) (mir (woS x c)).f_Sessions c = geK (·.f_Controller) (woS x c).f_Sessions c := geK_map mS _ _ (fun _ => rfl) _ _
  rw [hge]
  simp only
  have hle := geK_le (·.f_Controller) (woS x c).f_Sessions c
  have hput : putK (·.f_Controller) x.f_Sessions { f_Controller := c, f_Role := r, f_Election := e } = (woS x c).f_Sessions.take (geK (·.f_Controller) (woS x c).f_Sessions c) ++ [{ f_Controller := c, f_Role := r, f_Election := e }] ++ (woS x c).f_Sessions.drop (geK (·.f_Controller) (woS x c).f_Sessions c) := by
    have hne : ∀ y ∈ (woS x c).f_Sessions, y.f_Controller ≠ (({ f_Controller := c, f_Role := r, f_Election := e } : T_session_Session)).f_Controller := fun y hy => by
      have := (List.mem_filter.1 hy).2
      simpa using this
    have h3 := putK_ins (f := (·.f_Controller)) (x := ({ f_Controller := c, f_Role := r, f_Election := e } : T_session_Session)) hne
    rw [← h3]
    unfold putK
    have h4 : (woS x c).f_Sessions.filter (fun y => !(y.f_Controller == c)) = (woS x c).f_Sessions := List.filter_eq_self.2 fun y hy => (List.mem_filter.1 hy).2
    simp only [h4]
    rfl
  generalize hk : geK (·.f_Controller) (woS x c).f_Sessions c = k at *
  refine .eq (slice_take _ (by omega)) (.eq (app_small _ _ (by simp; omega) (by omega)) (.eq rfl (.eq (app_small _ _ (by simp; omega) (by omega)) (.eq (slice_drop _ (by omega)) (.eq (app_small _ _ (by simp; omega) (by omega)) ?_)))))
  refine (rTop_eq x r (by omega)).bind fun y8 h8 => (rCompare_eq e y8).bind fun y9 h9 => ?_
  subst h8
  have hses : (([] : List T_ref20_Session) ++ (mir (woS x c)).f_Sessions.take k ++ [{ f_Controller := c, f_Role := r, f_Election := e }]) ++ (mir (woS x c)).f_Sessions.drop k = (putK (·.f_Controller) x.f_Sessions { f_Controller := c, f_Role := r, f_Election := e }).map mS := by
    rw [hput]; simp only [mir, List.map_append, List.map_take, List.map_drop, List.nil_append]; rfl
  rw [hses]
  refine .bind (P := fun m : T_ref20_State × List T_ref20_Top => m.1.f_Sessions = (putK (·.f_Controller) x.f_Sessions { f_Controller := c, f_Role := r, f_Election := e }).map mS ∧ m.2 = (putK (·.f_Role) x.f_Tops { f_Role := r, f_Election := hiS x r e }).map mT) (.cond (fun h => ?_) (fun h => .ret ⟨rfl, ?_⟩)) fun m hm => ?_
  · have hv : vlt (sTop x r) e = true := h9.1.1 (by simpa using h)
    refine (raise_eq (x := x) hx.srt r e (by omega)).bind fun y11 h11 => .ret ⟨rfl, ?_⟩
    unfold hiS
    rw [if_pos hv]; exact h11
  · have hv : ¬ vlt (sTop x r) e = true := fun hv => by have := h9.1.2 hv; simp at h; omega
    unfold hiS
    rw [if_neg hv]
    have hex : (({ f_Role := r, f_Election := sTop x r } : T_session_Top)) ∈ x.f_Tops := by
      unfold sTop
      cases hf : x.f_Tops.find? (fun t => t.f_Role == r) with
      | none =>
        exfalso
        have h0 : sTop x r = default := by unfold sTop; rw [hf]
        rw [h0] at hv
        refine hv (vlt_iff.2 ?_)
        obtain ⟨a, b⟩ := e
        show (0#64) < a ∨ ((0#64) = a ∧ (0#64) < b)
        by_cases ha : a = 0#64
        · subst ha
          by_cases hb : b = 0#64
          · subst hb; exact absurd rfl he0
          · right; exact ⟨rfl, (BitVec.pos_iff_ne_zero _).2 hb⟩
        · left; exact (BitVec.pos_iff_ne_zero _).2 ha
      | some t =>
        have h3 := List.find?_some hf
        simp only [beq_iff_eq] at h3
        have h4 := List.mem_of_find?_eq_some hf
        simp only
        rw [← h3]; exact h4
    rw [putK_same hx.srt hex]
    rfl
  · obtain ⟨⟨ms, mt⟩, m2⟩ := m
    obtain ⟨hm1, hm2⟩ := hm
    simp only at hm1 hm2
    subst hm1; subst hm2
    generalize hy : (({ f_Sessions := putK (·.f_Controller) x.f_Sessions { f_Controller := c, f_Role := r, f_Election := e }, f_Tops := putK (·.f_Role) x.f_Tops { f_Role := r, f_Election := hiS x r e } } : T_session_State)) = y
    have hmy : (({ f_Sessions := (putK (·.f_Controller) x.f_Sessions { f_Controller := c, f_Role := r, f_Election := e }).map mS, f_Tops := (putK (·.f_Role) x.f_Tops { f_Role := r, f_Election := hiS x r e }).map mT } : T_ref20_State)) = mir y := by rw [← hy]; rfl
    simp only
    rw [hmy]
    have l1 : y.f_Sessions.length ≤ n + 1 := by rw [← hy]; exact Nat.le_trans (putK_len _ _ _) (by omega)
    have l2 : y.f_Tops.length ≤ n + 1 := by rw [← hy]; exact Nat.le_trans (putK_len _ _ _) (by omega)
    refine (rPrim_eq y r (by omega) (by omega)).bind fun y10 h10 => .ret ?_
    subst h10
    rw [prim_after hx ht y hy.symm]

theorem same_eq (x : T_session_State) (hl : x.f_Sessions.length ≤ 1000) (hl2 : x.f_Tops.length ≤ 1000) : Tot (L_law20_same x (mir x)) (fun y => y = true) := by
  unfold L_law20_same
  have e1 : (mir x).f_Sessions.length = x.f_Sessions.length := by simp [mir]
  have e2 : (mir x).f_Tops.length = x.f_Tops.length := by simp [mir]
  refine .eq rfl ?_
  rw [e1, e2]
  refine .cond (fun h => by simp at h) fun _ => ?_
  refine Tot.loop x.f_Sessions.length (fun k s => s = (k : Int)) (by omega) rfl (fun k s hk hi => ?_) (fun s hi => ?_)
  · subst hi
    refine Tot.cond (fun _ => .idx rfl hk (.eq rfl (.idx rfl hk ?_))) (fun h => by simp at h; omega)
    have hg : lget (mir x).f_Sessions k = mS (lget x.f_Sessions k) := lget_map mS hk
    refine .cond (fun h => ?_) fun _ => .ret (w64_succ (by omega))
    rw [hg] at h
    simp [mS] at h
  · subst hi
    refine ⟨_, by simp only [show decide ((x.f_Sessions.length : Int) < (x.f_Sessions.length : Int)) = false by simp, cond_false]; rfl, ?_⟩
    simp only [Sum.elim_inl]
    refine Tot.loop x.f_Tops.length (fun k s => s = (k : Int)) (by omega) rfl (fun k s hk hi => ?_) (fun s hi => ?_)
    · subst hi
      refine Tot.cond (fun _ => .idx rfl hk (.eq rfl (.idx rfl hk ?_))) (fun h => by simp at h; omega)
      have hg : lget (mir x).f_Tops k = mT (lget x.f_Tops k) := lget_map mT hk
      refine .cond (fun h => ?_) fun _ => .ret (w64_succ (by omega))
      rw [hg] at h
      simp [mT] at h
    · subst hi
      refine ⟨_, by simp only [show decide ((x.f_Tops.length : Int) < (x.f_Tops.length : Int)) = false by simp, cond_false]; rfl, ?_⟩
      exact .ret rfl

theorem near_tot (o : T_law20_Op) : Tot (L_law20_Op_near o) (fun _ => True) := by
  unfold L_law20_Op_near
  refine .eq (a := o.f_Raw % 8#8) (by unfold uremM; rw [if_neg (by decide)]) (.bind (P := fun _ => True) (.cond (fun _ => ?_) (fun h => .ret trivial)) fun m hm => .ret trivial)
  refine (Mod_tot _ 4 (by omega) (by omega)).bind fun y2 h2 => (Mod_tot _ 3 (by omega) (by omega)).bind fun y3 h3 => .eq (idx_int h3.1 (by simpa using h3.2)) ?_
  exact .eq (a := o.f_Election.f_Lo % 6#64) (by unfold uremM; rw [if_neg (by decide)]) (.eq rfl (.eq rfl (.ret trivial)))

theorem SessionCalls_plain (x0 : List (BitVec 8)) (x1 : List T_law20_Op) : L_law20_SessionCalls x0 x1 = some true := by
  suffices h : Tot (L_law20_SessionCalls x0 x1) (fun r => r = true) by obtain ⟨r, h1, h2⟩ := h; rw [h1, h2]
  unfold L_law20_SessionCalls
  refine (New_tot x0 120 (by omega) (by omega)).bind fun y1 h1 => (Schema_tot y1 h1).bind fun y2 h2 => ?_
  obtain ⟨r, h3, h4⟩ := cut24 x1
  refine .eq h3 ?_
  refine Tot.loop r.length (fun k s => s.1 = (k : Int) ∧ StOk k s.2.2 ∧ s.2.1 = mir s.2.2) (by omega) ⟨rfl, StOk.nil, rfl⟩ (fun k s hk hi => ?_) (fun s hi => ?_)
  · obtain ⟨i, y, x⟩ := s; obtain ⟨e1, e2, e3⟩ := hi
    simp only at e1 e2 e3; subst e1; subst e3
    have b1 := e2.sl; have b2 := e2.tl
    refine Tot.cond (fun _ => ?_) (fun h => by simp at h; omega)
    refine .idx rfl hk ((near_tot _).bind fun o _ => .eq (umod4 _) ?_)
    refine .bind (P := fun m : Bool × Bool × Int × Int × T_ref20_State × T_session_State => m.1 = m.2.1 ∧ m.2.2.1 = m.2.2.2.1 ∧ m.2.2.2.2.1 = mir m.2.2.2.2.2 ∧ m.2.2.2.2.2.f_Sessions.length ≤ 900 ∧ m.2.2.2.2.2.f_Tops.length ≤ 900 ∧ (m.2.2.1 = 0 → StOk (k + 1) m.2.2.2.2.2)) ?_ fun m hm => ?_
    · refine .cond (fun _ => ?_) fun _ => ?_
      · refine (Leave_eq x _ (by omega) (by omega)).bind fun y7 h7 => (rLeave_eq x _ (by omega) (by omega)).bind fun y8 h8 => .ret ?_
        subst h7; subst h8
        have hlen : (lvS x o.f_Controller).1.f_Sessions.length ≤ k ∧ (lvS x o.f_Controller).1.f_Tops.length ≤ k := by
          unfold lvS
          split
          · exact ⟨Nat.zero_le _, Nat.zero_le _⟩
          split
          · exact ⟨Nat.zero_le _, Nat.zero_le _⟩
          · exact ⟨Nat.le_trans (List.length_filter_le _ _) b1, b2⟩
        exact ⟨rfl, rfl, rfl, by simp only; omega, by simp only; omega, fun h => (lv_ok e2 (Prod.ext rfl h)).mono (by omega)⟩
      · refine (Arb_eq h2.1 x _ _ _ (by omega) (by omega)).bind fun y9 h9 => (rArb_eq h2.1 e2 (by omega) _ _ _).bind fun y10 h10 => .ret ?_
        subst h9; subst h10
        have hlen : (arbS x o.f_Controller o.f_Role o.f_Election).1.f_Sessions.length ≤ k + 1 ∧ (arbS x o.f_Controller o.f_Role o.f_Election).1.f_Tops.length ≤ k + 1 := by
          unfold arbS
          split
          · exact ⟨Nat.zero_le _, Nat.zero_le _⟩
          split
          · exact ⟨Nat.zero_le _, Nat.zero_le _⟩
          split
          · exact ⟨Nat.zero_le _, Nat.zero_le _⟩
          · exact ⟨Nat.le_trans (putK_len _ _ _) (by omega), Nat.le_trans (putK_len _ _ _) (by omega)⟩
        exact ⟨rfl, rfl, rfl, by simp only; omega, by simp only; omega, fun h => arb_ok e2 (Prod.ext rfl (Prod.ext rfl h))⟩
    obtain ⟨p, q, e, f, b, a⟩ := m
    obtain ⟨g1, g2, g3, g4, g5, g6⟩ := hm
    simp only at g1 g2 g3 g4 g5 g6
    subst g1; subst g2; subst g3
    have hz : ((e != e) || (p != p)) = false := by simp
    rw [hz]
    refine .condM (P := fun y => y = true) (fun _ => same_eq a (by omega) (by omega)) fun y6 h6 => ?_
    rw [h6 rfl]
    refine .cond (fun h => by cases h) fun _ => .bind (P := fun m : T_ref20_State × T_session_State => StOk (k + 1) m.2 ∧ m.1 = mir m.2) (.cond (fun h => .ret ⟨g6 (by simpa using h), rfl⟩) (fun _ => .ret ⟨e2.mono (by omega), rfl⟩)) fun m hm => .ret ⟨w64_succ (by omega), hm⟩
  · obtain ⟨i, y, x⟩ := s; obtain ⟨e1, e2, e3⟩ := hi
    simp only at e1 e2 e3; subst e1
    refine ⟨_, by simp only [show decide ((r.length : Int) < (r.length : Int)) = false by simp, cond_false]; rfl, ?_⟩
    exact .eq begun20_ok (.ret rfl)
end Go.Proofs.Ytodajdohokmjnaa
