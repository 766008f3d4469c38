/-
  What the functions of package session compute, in plain Lean. Conditions: none.
-/
import Derived.Test.YtodajdohokmjnaaSch
import Derived.Test.YtodajdohokmjnaaCmp
import Derived.Test.YtodajdohokmjnaaSls
import Derived.Test.YtodajdohokmjnaaSlp
import Derived.Test.YtodajdohokmjnaaSlr
namespace Go.Proofs.Ytodajdohokmjnaa
open Go Gv
set_option linter.unusedVariables false
set_option linter.unusedSimpArgs false
set_option maxRecDepth 100000

theorem begun20_ok : L_law20_begun = some true := by kernel_rfl

/-- x in place of what has its key, or in addition, ahead of what has a greater one -/
def putK {α : Type} (f : α → Int) (l : List α) (x : α) : List α :=
  (l.filter fun y => !(f y == f x)).take ((l.filter fun y => !(f y == f x)).findIdx fun y => decide (f y > f x)) ++ [x] ++
    (l.filter fun y => !(f y == f x)).drop ((l.filter fun y => !(f y == f x)).findIdx fun y => decide (f y > f x))
theorem putK_perm {α : Type} (f : α → Int) (l : List α) (x : α) : (putK f l x).Perm (x :: l.filter fun y => !(f y == f x)) := by
  unfold putK
  rw [List.append_assoc]
  refine (List.perm_append_comm).trans ?_
  rw [List.append_assoc, List.singleton_append]
  refine List.Perm.cons x ((List.perm_append_comm).trans ?_)
  rw [List.take_append_drop]
theorem putK_mem {α : Type} {f : α → Int} {l : List α} {x y : α} : y ∈ putK f l x ↔ y = x ∨ (y ∈ l ∧ f y ≠ f x) := by
  rw [(putK_perm f l x).mem_iff, List.mem_cons, List.mem_filter]
  simp
theorem putK_len {α : Type} (f : α → Int) (l : List α) (x : α) : (putK f l x).length ≤ l.length + 1 := by
  rw [(putK_perm f l x).length_eq, List.length_cons]
  have := List.length_filter_le (fun y => !(f y == f x)) l
  omega
theorem putK_nodup {α : Type} {f : α → Int} {l : List α} {x : α} (h : (l.map f).Nodup) : ((putK f l x).map f).Nodup := by
  rw [((putK_perm f l x).map f).nodup_iff, List.map_cons, List.nodup_cons]
  refine ⟨fun hm => ?_, (List.filter_sublist.map f).nodup h⟩
  obtain ⟨y, hy, he⟩ := List.mem_map.1 hm
  have := (List.mem_filter.1 hy).2
  simp [he] at this
theorem putK_sorted {α : Type} {f : α → Int} {l : List α} {x : α} (h : l.Pairwise fun a b => f a < f b) : (putK f l x).Pairwise fun a b => f a < f b := by
  unfold putK
  generalize ho : l.filter (fun y => !(f y == f x)) = o
  have hp : o.Pairwise fun a b => f a < f b := by rw [← ho]; exact h.filter _
  have hne : ∀ y ∈ o, f y ≠ f x := fun y hy => by
    rw [← ho] at hy
    have := (List.mem_filter.1 hy).2
    simpa using this
  generalize hk : o.findIdx (fun y => decide (f y > f x)) = k
  have hsp : (o.take k ++ o.drop k).Pairwise fun a b => f a < f b := by rw [List.take_append_drop]; exact hp
  obtain ⟨h1, h2, h3⟩ := List.pairwise_append.1 hsp
  have hlt : ∀ a ∈ o.take k, f a < f x := fun a ha => by
    obtain ⟨j, hj, rfl⟩ := List.mem_iff_getElem.1 ha
    rw [List.length_take] at hj
    rw [List.getElem_take]
    have := List.not_of_lt_findIdx (xs := o) (p := fun y => decide (f y > f x)) (i := j) (by omega)
    have h5 := hne o[j] (List.getElem_mem _)
    simp at this
    omega
  have hgt : ∀ b ∈ o.drop k, f x < f b := fun b hb => by
    obtain ⟨j, hj, rfl⟩ := List.mem_iff_getElem.1 hb
    rw [List.length_drop] at hj
    rw [List.getElem_drop]
    have hko : k < o.length := by omega
    have h5 := List.findIdx_getElem (xs := o) (p := fun y => decide (f y > f x)) (w := by omega)
    simp only [hk, decide_eq_true_eq] at h5
    by_cases hj0 : j = 0
    · subst hj0; simpa using h5
    · have := List.pairwise_iff_getElem.1 hp k (k + j) hko (by omega) (by omega)
      omega
  refine List.pairwise_append.2 ⟨List.pairwise_append.2 ⟨h1, List.pairwise_singleton _ _, fun a ha b hb => ?_⟩, h2, fun a ha b hb => ?_⟩
  · rw [List.mem_singleton.1 hb]; exact hlt a ha
  · rcases List.mem_append.1 ha with ha | ha
    · exact h3 a ha b hb
    · rw [List.mem_singleton.1 ha]; exact hgt b hb

theorem find_key {α : Type} {f : α → Int} {l : List α} {x : α} (hn : (l.map f).Nodup) (hx : x ∈ l) : l.find? (fun y => f y == f x) = some x := by
  induction l with
  | nil => simp at hx
  | cons a r ih =>
    rw [List.map_cons, List.nodup_cons] at hn
    rcases List.mem_cons.1 hx with rfl | hx
    · simp
    · have : f a ≠ f x := fun e => hn.1 (e ▸ List.mem_map_of_mem hx)
      rw [List.find?_cons_of_neg (by simpa using this)]
      exact ih hn.2 hx

/-! ### The state -/

def sTop (x : T_session_State) (r : Int) : T_api_Value := match x.f_Tops.find? (fun t => t.f_Role == r) with
  | some t => t.f_Election
  | none => default
theorem top_eq (x : T_session_State) (r : Int) (hl : x.f_Tops.length ≤ 1000) : Tot (L_session_top x r) (fun y => y = sTop x r) := by
  unfold L_session_top
  refine (IndexFunc_session_Top (g := fun t => t.f_Role == r) (fun _ _ => rfl) (by omega)).bind fun y hy => ?_
  rcases hy with ⟨h1, h2⟩ | ⟨i, h1, h2, h3, h4⟩
  · subst h1
    exact .cond (fun _ => .ret (by unfold sTop; rw [find_no h2])) (fun h => by simp at h)
  · subst h2
    exact .cond (fun h => by simp at h; omega) (fun _ => .idx rfl h1 (.ret (by unfold sTop; rw [find_at h1 h3 h4])))

def sOf (x : T_session_State) (c : Int) : Option T_session_Session := x.f_Sessions.find? fun s => s.f_Controller == c
def ofR {α : Type} [Inhabited α] : Option α → α × Bool
  | some s => (s, true)
  | none => (default, false)
theorem of_eq (x : T_session_State) (c : Int) (hl : x.f_Sessions.length ≤ 1000) : Tot (L_session_of x c) (fun y => y = ofR (sOf x c)) := by
  unfold L_session_of
  refine (IndexFunc_session_Session (g := fun t => t.f_Controller == c) (fun _ _ => rfl) (by omega)).bind fun y hy => ?_
  rcases hy with ⟨h1, h2⟩ | ⟨i, h1, h2, h3, h4⟩
  · subst h1
    exact .cond (fun _ => .ret (by unfold sOf; rw [find_no h2]; rfl)) (fun h => by simp at h)
  · subst h2
    exact .cond (fun h => by simp at h; omega) (fun _ => .idx rfl h1 (.ret (by unfold sOf; rw [find_at h1 h3 h4]; rfl)))

def prm {α : Type} (f : α → Int) : Option α → Int × Bool
  | some s => (f s, true)
  | none => (0, false)
def sPrim (x : T_session_State) (r : Int) : Int × Bool := prm (·.f_Controller) (x.f_Sessions.find? fun s => s.f_Role == r && decide (s.f_Election = sTop x r))
theorem Primary_eq (x : T_session_State) (r : Int) (hl : x.f_Sessions.length ≤ 1000) (hl2 : x.f_Tops.length ≤ 1000) : Tot (L_session_Primary x r) (fun y => y = sPrim x r) := by
  unfold L_session_Primary
  refine (top_eq x r hl2).bind fun y1 h1 => ?_
  subst h1
  refine find_loop x.f_Sessions (fun s => s.f_Role == r && decide (s.f_Election = sTop x r)) (by omega) (fun k hk hp => ?_) (fun k hk hf hp => ?_) (fun hf => ?_)
  · simp only [show decide ((k : Int) < (x.f_Sessions.length : Int)) = true by simp; omega, cond_true, idx_nat hk, Option.bind_some, hp, cond_false]
  · refine ⟨_, by simp only [show decide ((k : Int) < (x.f_Sessions.length : Int)) = true by simp; omega, cond_true, idx_nat hk, Option.bind_some, hp]; rfl, ?_⟩
    exact .ret (by unfold sPrim; rw [hf]; rfl)
  · refine ⟨_, by simp only [show decide ((x.f_Sessions.length : Int) < (x.f_Sessions.length : Int)) = false by simp, cond_false]; rfl, ?_⟩
    exact .ret (by unfold sPrim; rw [hf]; rfl)

def ctl (c : Int) : Bool := decide (c ≥ 0) && decide (c < 6)
def chkS (x : T_session_State) (c r : Int) : Int := match sOf x c with
  | some s => if s.f_Role = r then 0 else if ctl c then 25 else 4
  | none => if ctl c then 25 else 4
def alwS (x : T_session_State) (c r : Int) (e : T_api_Value) : Int :=
  if chkS x c r ≠ 0 then chkS x c r else if (ofR (sOf x c)).1.f_Election ≠ e then 23 else if sPrim x r ≠ (c, true) then 22 else 0
theorem prim_ne (p : Int × Bool) (c : Int) : ((!p.2) || (p.1 != c)) = decide (p ≠ (c, true)) := by
  obtain ⟨a, b⟩ := p
  cases b
  · simp
  · by_cases h : a = c
    · subst h; simp
    · simp [h]
theorem RoleOf_eq {s : T_api_Schema} (hs : SchOk s) (r : Int) : Tot (L_check_RoleOf s r) (fun y => decide (y < 0) = decide (r ∉ [1, 2, 7])) := by
  unfold L_check_RoleOf
  have hl := hs.rlen
  refine (IndexFunc_api_Role (g := fun t => t.f_ID == r) (fun _ _ => rfl) (by omega)).bind fun y hy => .ret ?_
  rw [← hs.roles, decide_eq_decide]
  rcases hy with ⟨h1, h2⟩ | ⟨i, h1, h2, h3, h4⟩
  · subst h1
    refine ⟨fun _ hm => ?_, fun _ => by omega⟩
    obtain ⟨a, ha, hr⟩ := List.mem_map.1 hm
    have := h2 a ha
    simp [hr] at this
  · subst h2
    refine ⟨fun h => by omega, fun h => ?_⟩
    exfalso
    refine h (List.mem_map.2 ⟨lget s.f_Roles i, by rw [lget_eq _ h1]; exact List.getElem_mem _, by simpa using h3⟩)

theorem put_idx {α : Type} [Inhabited α] {o : List α} {g : α → Bool} {r : Int} (hr : (r = -1 ∧ ∀ x ∈ o, g x = false) ∨ ∃ i : Nat, i < o.length ∧ r = i ∧ g (lget o i) = true ∧ ∀ j, j < i → g (lget o j) = false) :
    (cond (decide (r < 0)) (some (o.length : Int)) (some r)) = some ((o.findIdx g : Nat) : Int) := by
  rcases hr with ⟨h1, h2⟩ | ⟨i, h1, h2, h3, h4⟩
  · subst h1
    rw [List.findIdx_eq_length.2 h2]; rfl
  · subst h2
    have : o.findIdx g = i := by
      rw [List.findIdx_eq h1, ← lget_eq o h1]
      exact ⟨h3, fun j hj => by rw [← lget_eq o (by omega)]; exact h4 j hj⟩
    rw [this, show decide (((i : Nat) : Int) < 0) = false by simp]; rfl
theorem ins_ok {α : Type} {b : Nat} {o : List α} {k : Nat} {x : α} (hb : b ≤ 1000) (hk : k ≤ o.length) (hl : o.length ≤ 1000) : insM b o (k : Int) [x] = some (o.take k ++ [x] ++ o.drop k) := by
  unfold insM
  rw [if_pos]
  · simp
  · refine ⟨by omega, by omega, by simp, ?_, by simp [maxLen]; omega⟩
    simp only [List.length_cons, List.length_nil]
    calc (o.length + (0 + 1)) * b ≤ 1001 * 1000 := Nat.mul_le_mul (by omega) hb
      _ ≤ _ := by omega

theorem replS_eq {l : List T_session_Session} {x : T_session_Session} (hl : l.length ≤ 1000) : Tot (L_session_replaced_session_Session l L_session_Arbitrate_fn2 x) (fun r => r = putK (·.f_Controller) l x) := by
  unfold L_session_replaced_session_Session
  refine .eq (Clone_session_Session (by omega)) ((DeleteFunc_session_Session (g := fun y => y.f_Controller == x.f_Controller) (fun _ _ => rfl) (by omega)).bind fun o ho => ?_)
  have hol : o.length ≤ 1000 := by rw [ho]; exact Nat.le_trans (List.length_filter_le _ _) hl
  refine (IndexFunc_session_Session (g := fun y => decide (y.f_Controller > x.f_Controller)) (fun _ _ => rfl) (by omega)).bind fun r hr => ?_
  refine .eq (put_idx hr) (.eq (ins_ok (by omega) List.findIdx_le_length hol) (.ret ?_))
  subst ho; rfl
theorem replT_eq {l : List T_session_Top} {x : T_session_Top} (hl : l.length ≤ 1000) : Tot (L_session_replaced_session_Top l L_session_Arbitrate_fn3 x) (fun r => r = putK (·.f_Role) l x) := by
  unfold L_session_replaced_session_Top
  refine .eq (Clone_session_Top (by omega)) ((DeleteFunc_session_Top (g := fun y => y.f_Role == x.f_Role) (fun _ _ => rfl) (by omega)).bind fun o ho => ?_)
  have hol : o.length ≤ 1000 := by rw [ho]; exact Nat.le_trans (List.length_filter_le _ _) hl
  refine (IndexFunc_session_Top (g := fun y => decide (y.f_Role > x.f_Role)) (fun _ _ => rfl) (by omega)).bind fun r hr => ?_
  refine .eq (put_idx hr) (.eq (ins_ok (by omega) List.findIdx_le_length hol) (.ret ?_))
  subst ho; rfl

def hiS (x : T_session_State) (r : Int) (e : T_api_Value) : T_api_Value := if vlt (sTop x r) e then e else sTop x r
def takenS (x : T_session_State) (c r : Int) (e : T_api_Value) : Bool := x.f_Sessions.any fun y => (y.f_Controller != c && y.f_Role == r) && decide (y.f_Election = e)
def arbS (x : T_session_State) (c r : Int) (e : T_api_Value) : T_session_State × Bool × Int :=
  if ctl c = false then (default, false, 4) else if r ∉ [1, 2, 7] then (default, false, 21) else if (decide (e = default) || takenS x c r e) = true then (default, false, 23) else
    ({ f_Sessions := putK (·.f_Controller) x.f_Sessions { f_Controller := c, f_Role := r, f_Election := e }, f_Tops := putK (·.f_Role) x.f_Tops { f_Role := r, f_Election := hiS x r e } }, decide (hiS x r e = e), 0)
theorem Arb_eq {s : T_api_Schema} (hs : SchOk s) (x : T_session_State) (c r : Int) (e : T_api_Value) (hl : x.f_Sessions.length ≤ 1000) (hl2 : x.f_Tops.length ≤ 1000) : Tot (L_session_Arbitrate x s c r e) (fun y => y = arbS x c r e) := by
  unfold L_session_Arbitrate arbS
  refine .eq (a := ctl c) rfl (.cond (fun h => .ret ?_) fun h => ?_)
  · rw [if_pos (by simpa using h)]
  rw [if_neg (by simpa using h)]
  refine (RoleOf_eq hs r).bind fun y2 h2 => ?_
  rw [h2]
  refine .cond (fun h => .ret ?_) fun h => ?_
  · rw [if_pos (by simpa using h)]
  rw [if_neg (by simpa using h)]
  refine .condM (P := fun b => b = takenS x c r e) (fun _ => ContainsFunc_session_Session (g := fun y => (y.f_Controller != c && y.f_Role == r) && decide (y.f_Election = e)) (fun _ _ => rfl) (by omega)) fun y3 h3 => ?_
  have h4 : (decide (e = default) || y3) = (decide (e = default) || takenS x c r e) := by
    by_cases he : e = default
    · simp [he]
    · rw [h3 (by simp [he])]
  rw [h4]
  refine .cond (fun h => .ret ?_) fun h => ?_
  · rw [if_pos h]
  rw [if_neg (by simpa using h)]
  refine (top_eq x r hl2).bind fun y4 h4 => (Compare_eq y4 e).bind fun y5 h5 => ?_
  subst h4
  refine .bind (P := fun m => m = hiS x r e) (.cond (fun h => .ret ?_) (fun h => .ret ?_)) fun m hm => .eq rfl ?_
  · unfold hiS; rw [if_pos (h5.1.1 (by simpa using h))]
  · unfold hiS; rw [if_neg (fun hv => by have := h5.1.2 hv; simp at h; omega)]
  subst hm
  refine (replS_eq hl).bind fun y6 h6 => (replT_eq hl2).bind fun y7 h7 => .ret ?_
  subst h6; subst h7; rfl

def lvS (x : T_session_State) (c : Int) : T_session_State × Int :=
  if ctl c = false then (default, 4) else if (sOf x c).isNone then (default, 25) else
    ({ f_Sessions := x.f_Sessions.filter (fun s => !(s.f_Controller == c)), f_Tops := x.f_Tops }, 0)
theorem Leave_eq (x : T_session_State) (c : Int) (hl : x.f_Sessions.length ≤ 1000) (hl2 : x.f_Tops.length ≤ 1000) : Tot (L_session_Leave x c) (fun y => y = lvS x c) := by
  unfold L_session_Leave lvS
  refine .eq (a := ctl c) rfl (.cond (fun h => .ret ?_) fun h => ?_)
  · rw [if_pos (by simpa using h)]
  rw [if_neg (by simpa using h)]
  refine (of_eq x c hl).bind fun y2 h2 => ?_
  subst h2
  cases hs : sOf x c with
  | none => exact .cond (fun _ => .ret rfl) (fun h => by cases h)
  | some s =>
    refine .cond (fun h => by cases h) fun _ => .eq (Clone_session_Session (by omega)) ((DeleteFunc_session_Session (g := fun y => y.f_Controller == c) (fun _ _ => rfl) (by omega)).bind fun o ho => .eq (Clone_session_Top (by omega)) (.ret ?_))
    subst ho; rfl

/-! ### What is so in each state that is reached -/

structure StOk (n : Nat) (x : T_session_State) : Prop where
  sl : x.f_Sessions.length ≤ n
  tl : x.f_Tops.length ≤ n
  ctl : ∀ s ∈ x.f_Sessions, 0 ≤ s.f_Controller ∧ s.f_Controller < 6
  nd : (x.f_Sessions.map (·.f_Controller)).Nodup
  srt : x.f_Tops.Pairwise fun a b => a.f_Role < b.f_Role
def VLow (v : T_api_Value) : Prop := v.f_Hi = 0 ∧ v.f_Lo.toNat < 8
structure StLow (x : T_session_State) : Prop where
  s : ∀ s ∈ x.f_Sessions, VLow s.f_Election
  t : ∀ t ∈ x.f_Tops, VLow t.f_Election
theorem StOk.nil : StOk 0 default := ⟨Nat.le_refl _, Nat.le_refl _, fun s h => (by cases h), List.nodup_nil, List.Pairwise.nil⟩
theorem StLow.nil : StLow default := ⟨fun s h => (by cases h), fun s h => (by cases h)⟩
theorem StOk.mono {n m : Nat} {x} (h : StOk n x) (hn : n ≤ m) : StOk m x := ⟨Nat.le_trans h.sl hn, Nat.le_trans h.tl hn, h.ctl, h.nd, h.srt⟩
theorem ctl_iff {c : Int} : Go.Proofs.Ytodajdohokmjnaa.ctl c = true ↔ 0 ≤ c ∧ c < 6 := by simp [Go.Proofs.Ytodajdohokmjnaa.ctl]
theorem arb_ok {n : Nat} {x y : T_session_State} {c r : Int} {e : T_api_Value} {b : Bool} (h : StOk n x) (ha : arbS x c r e = (y, b, 0)) : StOk (n + 1) y := by
  unfold arbS at ha
  split at ha
  · cases ha
  split at ha
  · cases ha
  split at ha
  · cases ha
  rename_i h1 _ _
  cases ha
  refine ⟨Nat.le_trans (putK_len _ _ _) (by have := h.sl; omega), Nat.le_trans (putK_len _ _ _) (by have := h.tl; omega), fun s hs => ?_, putK_nodup h.nd, putK_sorted h.srt⟩
  rcases putK_mem.1 hs with rfl | ⟨hs, _⟩
  · exact ctl_iff.1 (by simpa using h1)
  · exact h.ctl s hs
theorem sTop_low {x : T_session_State} (h : StLow x) (r : Int) : VLow (sTop x r) := by
  unfold sTop
  split
  · rename_i t ht; exact h.t t (List.mem_of_find?_eq_some ht)
  · exact ⟨rfl, by show (0#64).toNat < 8; decide⟩
theorem arb_low {x y : T_session_State} {c r : Int} {e : T_api_Value} {b : Bool} (h : StLow x) (he : VLow e) (ha : arbS x c r e = (y, b, 0)) : StLow y := by
  unfold arbS at ha
  split at ha
  · cases ha
  split at ha
  · cases ha
  split at ha
  · cases ha
  cases ha
  refine ⟨fun s hs => ?_, fun t ht => ?_⟩
  · rcases putK_mem.1 hs with rfl | ⟨hs, _⟩
    · exact he
    · exact h.s s hs
  · rcases putK_mem.1 ht with rfl | ⟨ht, _⟩
    · show VLow (hiS x r e)
      unfold hiS
      split
      · exact he
      · exact sTop_low h r
    · exact h.t t ht
theorem lv_ok {n : Nat} {x y : T_session_State} {c : Int} (h : StOk n x) (ha : lvS x c = (y, 0)) : StOk n y := by
  unfold lvS at ha
  split at ha
  · cases ha
  split at ha
  · cases ha
  cases ha
  exact ⟨Nat.le_trans (List.length_filter_le _ _) h.sl, h.tl, fun s hs => h.ctl s (List.mem_filter.1 hs).1, (List.filter_sublist.map _).nodup h.nd, h.srt⟩
theorem lv_low {x y : T_session_State} {c : Int} (h : StLow x) (ha : lvS x c = (y, 0)) : StLow y := by
  unfold lvS at ha
  split at ha
  · cases ha
  split at ha
  · cases ha
  cases ha
  exact ⟨fun s hs => h.s s (List.mem_filter.1 hs).1, h.t⟩

/-- the primary controller has a session, and may write -/
theorem prim_some {x : T_session_State} {r : Int} (h : (sPrim x r).2 = true) : ∃ s ∈ x.f_Sessions, s.f_Controller = (sPrim x r).1 ∧ s.f_Role = r ∧ s.f_Election = sTop x r := by
  unfold sPrim at *
  cases hf : x.f_Sessions.find? fun s => s.f_Role == r && decide (s.f_Election = sTop x r) with
  | none => rw [hf] at h; cases h
  | some s =>
    have h2 := List.find?_some hf
    simp only [Bool.and_eq_true, beq_iff_eq, decide_eq_true_eq] at h2
    exact ⟨s, List.mem_of_find?_eq_some hf, rfl, h2.1, h2.2⟩
theorem alw_iff {n : Nat} {x : T_session_State} (hx : StOk n x) {c r : Int} {e : T_api_Value} : alwS x c r e = 0 ↔ sPrim x r = (c, true) ∧ sTop x r = e := by
  have key : ∀ s, s ∈ x.f_Sessions → sOf x s.f_Controller = some s := fun s hs => find_key hx.nd hs
  constructor
  · intro h
    unfold alwS at h
    split at h
    · rename_i h1; exact absurd h h1
    rename_i h1
    split at h
    · cases h
    rename_i h2
    split at h
    · cases h
    rename_i h3
    have hp : sPrim x r = (c, true) := Decidable.not_not.1 h3
    refine ⟨hp, ?_⟩
    obtain ⟨s, hs, e1, e2, e3⟩ := prim_some (x := x) (r := r) (by rw [hp])
    rw [hp] at e1
    have h4 := key s hs
    rw [e1] at h4
    have h5 : (ofR (sOf x c)).1.f_Election = e := Decidable.not_not.1 h2
    rw [h4] at h5
    rw [← e3]; exact h5
  · rintro ⟨hp, he⟩
    obtain ⟨s, hs, e1, e2, e3⟩ := prim_some (x := x) (r := r) (by rw [hp])
    rw [hp] at e1
    have h4 := key s hs
    rw [e1] at h4
    have h5 : chkS x c r = 0 := by unfold chkS; rw [h4]; simp only [e2, if_true]
    unfold alwS
    rw [if_neg (by simp [h5]), h4, if_neg (by simp only [ofR]; rw [e3, he]; simp), if_neg (by simp [hp])]

/-- the arguments of a call, out of few -/
theorem near_low (o : T_law20_Op) : Tot (L_law20_Op_near { o with f_Raw := 1#8 }) (fun p => VLow p.f_Election) := by
  unfold L_law20_Op_near
  refine .eq (a := 1#8) rfl (.bind (P := fun p => VLow p.f_Election) (.cond (fun _ => ?_) (fun h => by cases h)) fun m hm => .ret hm)
  refine (Mod_tot _ 4 (by omega) (by omega)).bind fun y2 h2 => (Mod_tot _ 3 (by omega) (by omega)).bind fun y3 h3 => .eq (idx_int h3.1 (by simpa using h3.2)) ?_
  refine .eq (a := o.f_Election.f_Lo % 6#64) (by unfold uremM; rw [if_neg (by decide)]) (.eq rfl (.eq rfl (.ret ⟨rfl, ?_⟩)))
  show (o.f_Election.f_Lo % 6#64).toNat < 8
  rw [BitVec.toNat_umod]
  have : o.f_Election.f_Lo.toNat % (6#64).toNat < (6#64).toNat := Nat.mod_lt _ (by decide)
  have h6 : (6#64).toNat = 6 := rfl
  omega
theorem cut24 {α : Type} (l : List α) : ∃ r : List α, sliceM l 0 (min (l.length : Int) 24) = some r ∧ r.length ≤ 24 := by
  refine ⟨(l.drop 0).take ((min (l.length : Int) 24).toNat - 0), ?_, ?_⟩
  · unfold sliceM; rw [if_pos ⟨by omega, by omega, by omega⟩]; rfl
  · simp only [List.length_take, List.length_drop]; omega
theorem umod4 (k : BitVec 8) : uremM k 4#8 = some (k % 4#8) := by unfold uremM; rw [if_neg (by decide)]

end Go.Proofs.Ytodajdohokmjnaa
