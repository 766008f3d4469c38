/-
  What the programs compute, in plain Lean. Conditions: none.
-/
import Derived.Test.YtmnggbjcnoffeaaGreatKl0
import Derived.Test.YtmnggbjcnoffeaaGreatKl2
import Derived.Test.YtmnggbjcnoffeaaGreatKd
namespace Gv
open Go

theorem loop_inv {σ ε : Type} {body : σ → Option (σ ⊕ ε)} {Q : ε → Prop} {s0 : σ} (m : Nat) (I : Nat → σ → Prop)
    (hm : m < 2 ^ 80) (h0 : I 0 s0)
    (hs : ∀ k s, k < m → I k s → (∃ s', body s = some (.inl s') ∧ I (k + 1) s') ∨ (∃ e, body s = some (.inr e) ∧ Q e))
    (he : ∀ s, I m s → ∃ e, body s = some (.inr e) ∧ Q e) : ∃ e, loopM FUEL body s0 = some e ∧ Q e := by
  have key : ∀ n k s, k ≤ m → m - k < n → I k s → ∃ e, loopM n body s = some e ∧ Q e := by
    intro n
    induction n with
    | zero => intro k s _ h; omega
    | succ n ih =>
      intro k s hk hn hi
      by_cases hkm : k = m
      · subst hkm
        obtain ⟨e, h1, h2⟩ := he s hi
        exact ⟨e, by simp [loopM, h1], h2⟩
      · rcases hs k s (by omega) hi with ⟨s', h1, h2⟩ | ⟨e, h1, h2⟩
        · obtain ⟨e, h3, h4⟩ := ih (k + 1) s' (by omega) (by omega) h2
          exact ⟨e, by simp [loopM, h1, h3], h4⟩
        · exact ⟨e, by simp [loopM, h1], h2⟩
  exact key FUEL 0 s0 (by omega) (by unfold FUEL; omega) h0

/-- a computation that returns, and what it returns -/
def Tot {β : Type} (m : Option β) (P : β → Prop) : Prop := ∃ r, m = some r ∧ P r
theorem Tot.ret {β : Type} {P : β → Prop} {r : β} (h : P r) : Tot (some r) P := ⟨r, rfl, h⟩
theorem Tot.bind {α β : Type} {m : Option α} {f : α → Option β} {P : α → Prop} {Q : β → Prop} (h : Tot m P) (k : ∀ a, P a → Tot (f a) Q) : Tot (m.bind f) Q := by
  obtain ⟨a, h1, h2⟩ := h
  rw [h1]; exact k a h2
theorem Tot.eq {α β : Type} {m : Option α} {a : α} {f : α → Option β} {Q : β → Prop} (h : m = some a) (k : Tot (f a) Q) : Tot (m.bind f) Q := by
  rw [h]; exact k
theorem Tot.mono {β : Type} {m : Option β} {P Q : β → Prop} (h : Tot m P) (k : ∀ a, P a → Q a) : Tot m Q := by
  obtain ⟨a, h1, h2⟩ := h
  exact ⟨a, h1, k a h2⟩
theorem Tot.cond {β : Type} {b : Bool} {m n : Option β} {P : β → Prop} (h1 : b = true → Tot m P) (h2 : b = false → Tot n P) : Tot (cond b m n) P := by
  cases b
  · exact h2 rfl
  · exact h1 rfl
theorem Tot.condM {α β : Type} [Inhabited α] {b w : Bool} {m : Option α} {f : α → Option β} {P : α → Prop} {Q : β → Prop} (h : b = w → Tot m P) (k : ∀ a, (b = w → P a) → Tot (f a) Q) : Tot ((condM b w m).bind f) Q := by
  unfold Gv.condM
  by_cases hb : b = w
  · rw [if_pos hb]; exact (h hb).bind fun a ha => k a fun _ => ha
  · rw [if_neg hb]; exact k default fun h => absurd h hb
theorem Tot.loop {σ ε β : Type} {body : σ → Option (σ ⊕ ε)} {f : ε → Option β} {P : β → Prop} {s0 : σ} (m : Nat) (I : Nat → σ → Prop)
    (hm : m < 2 ^ 80) (h0 : I 0 s0)
    (hs : ∀ k s, k < m → I k s → Tot (body s) (fun x => match x with | .inl s' => I (k + 1) s' | .inr e => Tot (f e) P))
    (he : ∀ s, I m s → ∃ e, body s = some (.inr e) ∧ Tot (f e) P) : Tot ((loopM FUEL body s0).bind f) P := by
  obtain ⟨e, h1, h2⟩ := loop_inv (Q := fun e => Tot (f e) P) m I hm h0 (fun k s hk hi => by
    obtain ⟨r, h1, h2⟩ := hs k s hk hi
    cases r with
    | inl s' => exact .inl ⟨s', h1, h2⟩
    | inr e => exact .inr ⟨e, h1, h2⟩) he
  rw [h1]; exact h2
theorem Tot.idx {β : Type} {n : Nat} {i : Int} {k : Nat} {f : Nat → Option β} {Q : β → Prop} (hi : i = k) (hk : k < n) (h : Tot (f k) Q) : Tot ((Gv.idx n i).bind f) Q := by
  subst hi
  have : Gv.idx n (k : Int) = some k := by unfold Gv.idx; rw [if_pos (by omega)]; simp
  rw [this]; exact h

theorem idx_nat {n k : Nat} (h : k < n) : idx n (k : Int) = some k := by
  unfold idx; rw [if_pos (by omega)]; simp
theorem idx_int {n : Nat} {i : Int} (h : 0 ≤ i) (h' : i < n) : idx n i = some i.toNat := by
  unfold idx; rw [if_pos ⟨h, h'⟩]
theorem w64_succ {k : Nat} (h : k < 2 ^ 62) : w64 ((k : Int) + 1) = ((k + 1 : Nat) : Int) := by
  rw [w64_in (by omega) (by omega)]; simp
theorem lget_map {α β : Type} [Inhabited α] [Inhabited β] (f : α → β) {l : List α} {k : Nat} (hk : k < l.length) : lget (l.map f) k = f (lget l k) := by
  rw [lget_eq l hk, lget_eq _ (by simpa using hk), List.getElem_map]
end Gv

namespace Gv
open Go
set_option linter.unusedVariables false

/-- whatever such a program leaves has a property -/
def Wt {α : Type} (m : Wm α) (P : α → Prop) : Prop := ∀ Q : α → Prop, (∀ r, P r → Q r) → m Q
theorem Wt.run {α : Type} {m : Wm α} {P : α → Prop} (h : Wt m P) : m P := h P fun _ h => h
theorem Wt.ret {α : Type} {P : α → Prop} {x : α} (h : P x) : Wt (Wm.ret x) P := fun Q k => k x h
theorem Wt.bind {α β : Type} {m : Wm α} {f : α → Wm β} {P : α → Prop} {P' : β → Prop} (h : Wt m P) (k : ∀ r, P r → Wt (f r) P') : Wt (Wm.bind m f) P' := fun Q hq => h _ fun r hr => k r hr Q hq
theorem Wt.of {α : Type} {o : Option α} {P : α → Prop} (h : Tot o P) : Wt (Wm.of o) P := fun Q hq => let ⟨r, h1, h2⟩ := h; ⟨r, h1, hq r h2⟩
theorem Wt.ofb {α β : Type} {o : Option α} {f : α → Wm β} {P : α → Prop} {P' : β → Prop} (h : Tot o P) (k : ∀ r, P r → Wt (f r) P') : Wt (Wm.bind (Wm.of o) f) P' := .bind (.of h) k
theorem Wt.eq {α β : Type} {o : Option α} {a : α} {f : α → Wm β} {P' : β → Prop} (h : o = some a) (k : Wt (f a) P') : Wt (Wm.bind (Wm.of o) f) P' := fun Q hq => ⟨a, h, k Q hq⟩
theorem Wt.mono {α : Type} {m : Wm α} {P P' : α → Prop} (h : Wt m P) (k : ∀ r, P r → P' r) : Wt m P' := fun Q hq => h Q fun r hr => hq r (k r hr)
theorem Wt.cond {α : Type} {b : Bool} {m n : Wm α} {P : α → Prop} (h1 : b = true → Wt m P) (h2 : b = false → Wt n P) : Wt (cond b m n) P := by
  cases b
  · exact h2 rfl
  · exact h1 rfl
theorem Wt.condM {α β : Type} [Inhabited α] {b w : Bool} {m : Option α} {f : α → Wm β} {P : α → Prop} {Q : β → Prop} (h : b = w → Tot m P) (k : ∀ a, (b = w → P a) → Wt (f a) Q) : Wt (Wm.bind (Wm.of (condM b w m)) f) Q := by
  unfold Gv.condM
  by_cases hb : b = w
  · rw [if_pos hb]; exact .ofb (h hb) fun a ha => k a fun _ => ha
  · rw [if_neg hb]; exact .eq rfl (k default fun h => absurd h hb)
theorem Wt.idx {β : Type} {n : Nat} {i : Int} {k : Nat} {f : Nat → Wm β} {Q : β → Prop} (hi : i = k) (hk : k < n) (h : Wt (f k) Q) : Wt (Wm.bind (Wm.of (Gv.idx n i)) f) Q := by
  subst hi
  exact .eq (idx_nat hk) h
theorem Wt.mk {κ β : Type} {hp : Pool κ} {c : κ} {f : Nat × Pool κ → Wm β} {P : β → Prop} (k : ∀ p, p ∉ pks hp → Wt (f (p, (p, c) :: hp)) P) : Wt (Wm.bind (Wm.mk hp c) f) P := fun Q hq => fun a ha => by
  obtain ⟨p, hp'⟩ := a
  obtain ⟨h1, h2⟩ := ha
  simp only at h1 h2
  subst h2
  exact k p h1 Q hq
theorem Wt.any {α β : Type} {f : α → Wm β} {P : β → Prop} (k : ∀ x, Wt (f x) P) : Wt (Wm.bind (Wm.any α) f) P := fun Q hq x => k x Q hq
theorem Wt.loop {σ ε : Type} {body : σ → Wm (σ ⊕ ε)} {P : ε → Prop} {s0 : σ} (m : Nat) (I : Nat → σ → Prop) (hm : m < 2 ^ 80) (h0 : I 0 s0)
    (hs : ∀ k s, k < m → I k s → Wt (body s) (fun x => match x with | .inl s' => I (k + 1) s' | .inr e => P e))
    (he : ∀ s, I m s → Wt (body s) (fun x => match x with | .inl _ => False | .inr e => P e)) : Wt (loopW FUEL body s0) P := by
  have key : ∀ n k s, k ≤ m → m - k < n → I k s → Wt (loopW n body s) P := by
    intro n
    induction n with
    | zero => intro k s _ h; omega
    | succ n ih =>
      intro k s hk hn hi Q hq
      by_cases hkm : k = m
      · subst hkm
        exact he s hi _ fun r hr => by
          cases r with
          | inl s' => exact hr.elim
          | inr e => exact hq e hr
      · exact hs k s (by omega) hi _ fun r hr => by
          cases r with
          | inl s' => exact ih (k + 1) s' (by omega) (by omega) hr Q hq
          | inr e => exact hq e hr
  exact key FUEL 0 s0 (by omega) (by unfold FUEL; omega) h0

/-! ### Looking into pools -/
end Gv

namespace Go.Proofs.YtmnggbjcnoffeaaGreat
open Go Gv
set_option linter.unusedVariables false
set_option linter.unusedSimpArgs false
set_option maxRecDepth 100000

theorem app_small {α : Type} {b : Nat} (xs ys : List α) (h : xs.length + ys.length ≤ 1000000) (hb : b ≤ 100000) : appM b xs ys = some (xs ++ ys) := by
  unfold appM
  rw [if_pos]
  unfold maxLen
  refine ⟨Nat.le_trans (Nat.mul_le_mul h hb) (by omega), by omega⟩

/-- codes that are not many -/
def CdOk (c : T_mcase_Codes) : Prop := 0 ≤ c.f_at ∧ c.f_l.length ≤ 1000

theorem New_tot (l : List (BitVec 8)) (n : Int) (h0 : 0 ≤ n) (h1 : n ≤ 1000) : Tot (L_mcase_New l n) CdOk := by
  unfold L_mcase_New
  refine .eq (a := (l.drop 0).take ((min (l.length : Int) n).toNat - 0)) ?_ (.ret ⟨Int.le_refl 0, ?_⟩)
  · unfold sliceM; rw [if_pos ⟨by omega, by omega, by omega⟩]; rfl
  · simp only [List.length_take, List.length_drop]; omega

theorem Next_tot (c : T_mcase_Codes) (n : Int) (hc : CdOk c) (hn : 1 ≤ n) : Tot (L_mcase_Codes_Next c n) (fun r => CdOk r.2 ∧ 0 ≤ r.1 ∧ r.1 < n ∧ r.1 < 256) := by
  unfold L_mcase_Codes_Next L_mcase_Codes_Left
  obtain ⟨l, a⟩ := c
  obtain ⟨h0, h1⟩ := hc
  simp only at h0 h1
  obtain ⟨k, rfl⟩ := Int.eq_ofNat_of_zero_le h0
  refine .eq rfl (.cond (fun _ => .ret ⟨⟨h0, h1⟩, by omega, by omega, by omega⟩) fun h => ?_)
  simp only [Bool.or_eq_false_iff, Bool.not_eq_false', decide_eq_true_eq, decide_eq_false_iff_not] at h
  have e1 : w64 ((k : Int) + 1) = ((k + 1 : Nat) : Int) := w64_succ (by omega)
  simp only [e1]
  have e2 : w64 (((k + 1 : Nat) : Int) - 1) = (k : Int) := by rw [w64_in (by omega) (by omega)]; omega
  rw [e2]
  refine .idx rfl (by omega) (.eq (by unfold modM; rw [if_neg (by omega)]) (.ret ⟨⟨by simp only; omega, h1⟩, ?_, ?_, ?_⟩))
  · exact Int.tmod_nonneg _ (by omega)
  · exact Int.tmod_lt_of_pos _ (by omega)
  · simp only
    have h3 : (lget l k).toNat < 256 := (lget l k).isLt
    obtain ⟨m, rfl⟩ := Int.eq_ofNat_of_zero_le (show 0 ≤ n by omega)
    have h4 : (((lget l k).toNat : Int)).tmod m = (((lget l k).toNat % m : Nat) : Int) := (Int.ofNat_tmod _ _).symm
    have h5 := Nat.mod_le (lget l k).toNat m
    omega

theorem Bool_tot (c : T_mcase_Codes) (hc : CdOk c) : Tot (L_mcase_Codes_Bool c) (fun r => CdOk r.2) := by
  unfold L_mcase_Codes_Bool
  exact .bind (Next_tot c 2 hc (by omega)) fun y h => .ret h.1

theorem states_tot (c : T_mcase_Codes) (hc : CdOk c) : Tot (L_mcase_Codes_states c) (fun r => CdOk r.2 ∧ r.1.length = 3) := by
  unfold L_mcase_Codes_states
  refine .bind (Next_tot c 4 hc (by omega)) fun y1 h1 => ?_
  refine .eq (idx_int h1.2.1 (by simpa using h1.2.2.1)) (.eq rfl (.eq rfl (.bind (Bool_tot _ h1.1) fun y2 h2 => ?_)))
  refine .bind (P := fun m => CdOk m.1) (.cond (fun _ => ?_) (fun _ => .ret h2)) fun m1 hm1 => ?_
  · refine .bind (Next_tot _ 2 h2 (by omega)) fun y6 h6 => .eq rfl (.bind (Next_tot _ 4 h6.1 (by omega)) fun y7 h7 => ?_)
    exact .eq (idx_int h7.2.1 (by simpa using h7.2.2.1)) (.eq rfl (.eq (app_small _ _ (by simp) (by omega)) (.ret h7.1)))
  · refine .bind (Next_tot _ 4 hm1 (by omega)) fun y3 h3 => .eq (idx_int h3.2.1 (by simpa using h3.2.2.1)) (.eq rfl (.eq rfl ?_))
    refine .bind (Next_tot _ 3 h3.1 (by omega)) fun y4 h4 => ?_
    refine .bind (P := fun m => CdOk m.1) (.cond (fun _ => ?_) (fun _ => .ret h4.1)) fun m2 hm2 => .ret ⟨hm2, rfl⟩
    exact .bind (Next_tot _ 3 h4.1 (by omega)) fun y5 h5 => .eq rfl (.ret h5.1)

def projA (a : T_api_Action) : Int × List Int := (a.f_ID, a.f_Params.map (·.f_Bits))
def ACTS : List (Int × List Int) := [(1, []), (2, []), (3, [16]), (4, [4]), (5, [4, 12]), (6, [])]

theorem map_lset {α β : Type} [Inhabited α] (f : α → β) (l : List α) (k : Nat) (x : α) (h : f x = f (lget l k)) : (lset l k x).map f = l.map f := by
  unfold lset
  apply List.ext_getElem
  · simp
  · intro i h1 h2
    simp only [List.length_map, List.length_set] at h1
    simp only [List.getElem_map, List.getElem_set]
    split
    · rename_i e; subst e; rw [h, lget_eq l h1]
    · rfl

theorem map_lset' {α β : Type} [Inhabited α] (f : α → β) {l : List α} {k : Nat} {x : α} {r : List β} (h : f x = f (lget l k)) (hl : l.map f = r) : (lset l k x).map f = r := (map_lset f l k x h).trans hl

theorem actions_tot (c : T_mcase_Codes) (hc : CdOk c) : Tot (L_mcase_Codes_actions c) (fun r => CdOk r.2 ∧ r.1.map projA = ACTS) := by
  unfold L_mcase_Codes_actions
  refine .eq rfl (.eq rfl (.eq rfl (.eq rfl (.eq rfl (.eq rfl (.eq rfl (.eq rfl (.eq rfl (.eq rfl (.eq rfl (.eq rfl (.eq rfl ?_))))))))))))
  refine .bind (Next_tot _ 2 hc (by omega)) fun y1 h1 => .eq rfl (.bind (Next_tot _ 256 h1.1 (by omega)) fun y2 h2 => .eq rfl (.eq rfl (.eq rfl ?_)))
  refine .bind (Bool_tot _ h2.1) fun y3 h3 => ?_
  refine .bind (P := fun m => m.map projA = ACTS) (.cond (fun _ => ?_) (fun _ => .ret rfl)) fun m1 hm1 => ?_
  · exact .idx (k := 2) rfl (by simp) (.eq rfl (.ret (map_lset' projA rfl rfl)))
  · refine .bind (Bool_tot _ h3) fun y4 h4 => .bind (P := fun m => m.map projA = ACTS) (.cond (fun _ => ?_) (fun _ => .ret hm1)) fun m2 hm2 => .ret ⟨h4, hm2⟩
    have hl : m1.length = 6 := by rw [← List.length_map (f := projA), hm1]; rfl
    exact .idx (k := 4) rfl (by omega) (.eq rfl (.ret (map_lset' projA rfl hm1)))

def kA : T_api_Key := { f_Name := ByteArray.mk #[97], f_Field := 4, f_Kind := 1 }
def kD : T_api_Key := { f_Name := ByteArray.mk #[100], f_Field := 7, f_Kind := 2 }
def kM : T_api_Key := { f_Name := ByteArray.mk #[109], f_Field := 3, f_Kind := 1 }
def kE : T_api_Key := { f_Name := ByteArray.mk #[101], f_Field := 6, f_Kind := 3 }
def kA3 : T_api_Key := { f_Name := ByteArray.mk #[97], f_Field := 4, f_Kind := 3 }
def kB : T_api_Key := { f_Name := ByteArray.mk #[98], f_Field := 5, f_Kind := 1 }
def kF : T_api_Key := { f_Name := ByteArray.mk #[102], f_Field := 8, f_Kind := 4 }
def kG : T_api_Key := { f_Name := ByteArray.mk #[103], f_Field := 9, f_Kind := 1 }
def projT (t : T_api_Table) : Int × List Int × List T_api_Key := (t.f_ID, t.f_Actions, t.f_Keys)
def keys2 (b : Bool) : List T_api_Key := if b then [kD, kM] else [kD]
def keys3 (b : Bool) : List T_api_Key := if b then [kE, kA3, kB] else [kE, kA3]
def keys4 (b : Bool) : List T_api_Key := if b then [kF, kG, kD] else [kF]
def TABS (b1 b2 b3 : Bool) : List (Int × List Int × List T_api_Key) :=
  [(1, [1, 2, 4], [kA]), (2, [1, 2, 3, 4], keys2 b1), (3, [1, 2, 3, 5, 6], keys3 b2), (4, [1, 3, 5], keys4 b3)]

theorem tables_tot (c : T_mcase_Codes) (hc : CdOk c) : Tot (L_mcase_Codes_tables c) (fun r => CdOk r.2 ∧ ∃ b1 b2 b3, r.1.map projT = TABS b1 b2 b3) := by
  unfold L_mcase_Codes_tables
  refine .eq rfl (.bind (Next_tot _ 2 hc (by omega)) fun y1 h1 => .bind (Next_tot _ 5 h1.1 (by omega)) fun y2 h2 => .eq rfl (.eq rfl ?_))
  refine .bind (Next_tot _ 6 h2.1 (by omega)) fun y3 h3 => .bind (Bool_tot _ h3.1) fun y4 h4 => ?_
  refine .bind (P := fun m => (m.1.f_ID = 2 ∧ m.1.f_Actions = [1, 2, 3, 4]) ∧ ∃ b, m.2 = keys2 b) (.cond (fun _ => ?_) (fun _ => .ret ⟨⟨rfl, rfl⟩, false, rfl⟩)) fun m1 hm1 => ?_
  · exact .eq rfl (.eq (app_small _ _ (by simp) (by omega)) (.ret ⟨⟨rfl, rfl⟩, true, rfl⟩))
  refine .eq rfl (.eq rfl (.bind (Next_tot _ 6 h4 (by omega)) fun y5 h5 => .bind (Bool_tot _ h5.1) fun y6 h6 => ?_))
  refine .bind (P := fun m => (m.1.f_ID = 3 ∧ m.1.f_Actions = [1, 2, 3, 5, 6]) ∧ ∃ b, m.2 = keys3 b) (.cond (fun _ => ?_) (fun _ => .ret ⟨⟨rfl, rfl⟩, false, rfl⟩)) fun m2 hm2 => ?_
  · exact .eq rfl (.eq (app_small _ _ (by simp) (by omega)) (.ret ⟨⟨rfl, rfl⟩, true, rfl⟩))
  refine .eq rfl (.bind (Next_tot _ 5 h6 (by omega)) fun y7 h7 => .bind (Bool_tot _ h7.1) fun y8 h8 => ?_)
  refine .bind (P := fun m => (m.1.f_ID = 4 ∧ m.1.f_Actions = [1, 3, 5]) ∧ ∃ b, m.2 = keys4 b) (.cond (fun _ => ?_) (fun _ => .ret ⟨⟨rfl, rfl⟩, false, rfl⟩)) fun m3 hm3 => ?_
  · exact .eq rfl (.eq rfl (.eq (app_small _ _ (by simp) (by omega)) (.ret ⟨⟨rfl, rfl⟩, true, rfl⟩)))
  refine .eq rfl (.eq rfl (.eq rfl (.eq rfl (.eq rfl ?_))))
  obtain ⟨⟨a1, a2⟩, b1, a3⟩ := hm1
  obtain ⟨⟨c1, c2⟩, b2, c3⟩ := hm2
  obtain ⟨⟨d1, d2⟩, b3, d3⟩ := hm3
  refine Tot.loop 4 (fun k s => s.1 = (k : Int) ∧ s.2.1.map projT = TABS b1 b2 b3 ∧ CdOk s.2.2) (by omega) ⟨rfl, ?_, h8⟩ (fun k s hk hi => ?_) (fun s hi => ?_)
  · simp only [List.map_cons, List.map_nil, projT, a1, a2, a3, c1, c2, c3, d1, d2, d3, TABS]; rfl
  · obtain ⟨i, ts, cd⟩ := s; obtain ⟨e1, e2, e3⟩ := hi
    simp only at e1 e2 e3; subst e1
    refine Tot.cond (fun _ => ?_) (fun h => by simp at h; omega)
    have hl : ts.length = 4 := by rw [← List.length_map (f := projT), e2]; rfl
    refine .idx rfl (by simpa using hk) (.bind (Next_tot _ 3 e3 (by omega)) fun y9 h9 => .eq (idx_int h9.2.1 ?_) (.idx rfl (by simp only; omega) (.eq rfl (.ret ⟨w64_succ (by omega), ?_, h9.1⟩))))
    · have h10 := h9.2.2.1
      have : k = 0 ∨ k = 1 ∨ k = 2 ∨ k = 3 := by omega
      rcases this with rfl | rfl | rfl | rfl <;> exact h10
    · exact map_lset' projT rfl e2
  · obtain ⟨i, ts, cd⟩ := s; obtain ⟨e1, e2, e3⟩ := hi
    simp only at e1 e2 e3; subst e1
    refine ⟨_, rfl, ?_⟩
    exact .ret ⟨e3, b1, b2, b3, e2⟩

theorem mk_bool (n : Nat) (h : n ≤ 1000) : mkM (α := Bool) 1 (n : Int) = some (List.replicate n default) := by
  unfold mkM; rw [if_pos ⟨by omega, by omega, by omega⟩]; simp

theorem roles_tot (c : T_mcase_Codes) (ts : List T_api_Table) (hc : CdOk c) (hl : ts.length ≤ 1000) (hk : ∀ t ∈ ts, t.f_Keys.length ≤ 1000) : Tot (L_mcase_Codes_roles c ts) (fun r => CdOk r.2 ∧ r.1.map (·.f_ID) = [1, 2, 7]) := by
  unfold L_mcase_Codes_roles
  refine .bind (Next_tot _ 3 hc (by omega)) fun y1 h1 => .bind (Next_tot _ 6 h1.1 (by omega)) fun y2 h2 => .bind (Next_tot _ 6 h2.1 (by omega)) fun y3 h3 => .bind (Next_tot _ 4 h3.1 (by omega)) fun y4 h4 => ?_
  refine Tot.loop ts.length (fun k s => s.1 = (k : Int) ∧ CdOk s.2.2.2.1 ∧ s.2.2.1.length ≤ k ∧ s.2.2.2.2.2.1.length ≤ k ∧ s.2.2.2.2.2.2.2.length ≤ k ∧ s.2.1.f_ID = 7 ∧ s.2.2.2.2.1.f_ID = 2 ∧ s.2.2.2.2.2.2.1.f_ID = 1) (by omega) ⟨rfl, h4.1, by simp, by simp, by simp, rfl, rfl, rfl⟩ (fun k s hkk hi => ?_) (fun s hi => ?_)
  · obtain ⟨i, r1, g1, cd, r2, g2, r3, g3⟩ := s; obtain ⟨e1, e2, e3, e4, e5, i1, i2, i3⟩ := hi
    simp only at e1 e2 e3 e4 e5 i1 i2 i3; subst e1
    refine Tot.cond (fun _ => ?_) (fun h => by simp at h; omega)
    have hkk2 : (lget ts k).f_Keys.length ≤ 1000 := hk _ (by rw [lget_eq ts hkk]; exact List.getElem_mem hkk)
    refine .idx rfl hkk (.eq (mk_bool _ hkk2) (.eq (mk_bool _ hkk2) ?_))
    refine Tot.loop (lget ts k).f_Keys.length (fun j s => s.1 = (j : Int) ∧ s.2.1.length = (lget ts k).f_Keys.length ∧ s.2.2.1.length = (lget ts k).f_Keys.length ∧ CdOk s.2.2.2) (by omega) ⟨rfl, by simp, by simp, e2⟩ (fun j s hj hi => ?_) (fun s hi => ?_)
    · obtain ⟨i, b1, b2, cd2⟩ := s; obtain ⟨f1, f2, f3, f4⟩ := hi
      simp only at f1 f2 f3 f4; subst f1
      refine Tot.cond (fun _ => ?_) (fun h => by simp at h; omega)
      exact .bind (Next_tot _ 4 f4 (by omega)) fun y7 h7 => .idx rfl (by simp only; omega) (.idx rfl (by simp only; omega) (.ret ⟨w64_succ (by omega), by simp [lset, f2], by simp [lset, f3], h7.1⟩))
    · obtain ⟨i, b1, b2, cd2⟩ := s; obtain ⟨f1, f2, f3, f4⟩ := hi
      simp only at f1 f2 f3 f4; subst f1
      refine ⟨_, by simp; rfl, ?_⟩
      refine .eq rfl (.eq (app_small _ _ (by simp; omega) (by omega)) (.bind (Next_tot _ 4 f4 (by omega)) fun y9 h9 => ?_))
      refine .bind (P := fun m => CdOk m.1 ∧ m.2.2.length ≤ k + 1 ∧ m.2.1.f_ID = 2) (.cond (fun _ => ?_) (fun _ => .ret ⟨h9.1, by simp only; omega, i2⟩)) fun m1 hm1 => ?_
      · exact .bind (Next_tot _ 4 h9.1 (by omega)) fun y14 h14 => .bind (Bool_tot _ h14.1) fun y15 h15 => .eq rfl (.eq (app_small _ _ (by simp; omega) (by omega)) (.ret ⟨h15, by simp; omega, i2⟩))
      refine .bind (Bool_tot _ hm1.1) fun y10 h10 => ?_
      refine .bind (P := fun m => CdOk m.1 ∧ m.2.2.length ≤ k + 1 ∧ m.2.1.f_ID = 7) (.cond (fun _ => ?_) (fun _ => .ret ⟨h10, by simp only; omega, i1⟩)) fun m2 hm2 => ?_
      · exact .bind (Bool_tot _ h10) fun y11 h11 => .bind (Bool_tot _ h11) fun y12 h12 => .eq rfl (.eq (app_small _ _ (by simp; omega) (by omega)) (.ret ⟨h12, by simp; omega, i1⟩))
      exact .ret ⟨w64_succ (by omega), hm2.1, hm2.2.1, hm1.2.1, by simp; omega, hm2.2.2, hm1.2.2, i3⟩
  · obtain ⟨i, r1, g1, cd, r2, g2, r3, g3⟩ := s; obtain ⟨e1, e2, e3, e4, e5, i1, i2, i3⟩ := hi
    simp only at e1 e2 e3 e4 e5 i1 i2 i3; subst e1
    refine ⟨_, by simp; rfl, ?_⟩
    exact .eq rfl (.eq rfl (.ret ⟨e2, by simp only [List.map_cons, List.map_nil, i1, i2, i3]⟩))

def FLDS : List (Int × Int) := [(1, 16), (2, 16), (3, 8), (4, 4), (5, 4), (6, 8), (7, 32), (8, 12), (9, 4)]
def projF (f : T_api_Field) : Int × Int := (f.f_ID, f.f_Bits)

/-- a schema of the laws' cases -/
structure SchOk (s : T_api_Schema) : Prop where
  fields : s.f_Fields.map projF = FLDS
  headers : s.f_Headers.length = 3
  states : s.f_States.length = 3
  actions : s.f_Actions.map projA = ACTS
  tables : ∃ b1 b2 b3, s.f_Tables.map projT = TABS b1 b2 b3
  roles : s.f_Roles.map (·.f_ID) = [1, 2, 7]

theorem SchOk.flen {s : T_api_Schema} (h : SchOk s) : s.f_Fields.length = 9 := by rw [← List.length_map (f := projF), h.fields]; rfl
theorem SchOk.tlen {s : T_api_Schema} (h : SchOk s) : s.f_Tables.length = 4 := by obtain ⟨b1, b2, b3, h1⟩ := h.tables; rw [← List.length_map (f := projT), h1]; rfl
theorem Schema_tot (c : T_mcase_Codes) (hc : CdOk c) : Tot (L_mcase_Codes_Schema c) (fun r => SchOk r.1 ∧ CdOk r.2) := by
  unfold L_mcase_Codes_Schema
  refine .bind (Next_tot _ 8 hc (by omega)) fun y1 h1 => .bind (Next_tot _ 30 h1.1 (by omega)) fun y2 h2 => ?_
  refine .eq rfl (.eq rfl (.eq rfl (.eq rfl (.eq rfl (.eq rfl (.eq rfl (.eq rfl (.eq rfl (.eq rfl (.eq rfl (.eq rfl ?_)))))))))))
  refine .bind (states_tot _ h2.1) fun y3 h3 => .bind (actions_tot _ h3.1) fun y4 h4 => .bind (tables_tot _ h4.1) fun y5 h5 => .eq rfl (.eq rfl ?_)
  obtain ⟨h5c, b1, b2, b3, h5⟩ := h5
  have hl : y5.1.length = 4 := by rw [← List.length_map (f := projT), h5]; rfl
  have hkeys : ∀ t ∈ y5.1, t.f_Keys.length ≤ 1000 := fun t ht => by
    have h6 : projT t ∈ TABS b1 b2 b3 := h5 ▸ List.mem_map_of_mem ht
    have h7 : ∀ p ∈ TABS b1 b2 b3, p.2.2.length ≤ 1000 := by
      intro p hp
      simp only [TABS, List.mem_cons, List.not_mem_nil, or_false] at hp
      rcases hp with rfl | rfl | rfl | rfl
      · simp
      · cases b1 <;> simp [keys2]
      · cases b2 <;> simp [keys3]
      · cases b3 <;> simp [keys4]
    exact h7 _ h6
  refine .bind (roles_tot _ _ h5c (by simp only; omega) hkeys) fun y6 h6 => .eq rfl (.bind (Bool_tot _ h6.1) fun y7 h7 => ?_)
  let Inv (s : T_api_Schema) : Prop := s.f_Fields.map projF = FLDS ∧ s.f_Headers.length = 3 ∧ s.f_States.length = 3 ∧ s.f_Actions.map projA = ACTS ∧ s.f_Tables = y5.1 ∧ s.f_Roles.map (·.f_ID) = [1, 2, 7]
  have hinv : ∀ (st : List T_api_Stage) (rf : List T_api_Ref) (s : T_api_Schema), Inv s → Inv { s with f_Stages := st, f_Refs := rf } := fun st rf s h => h
  refine .bind (P := fun _ => True) (.cond (fun _ => .eq (app_small _ _ (by simp) (by omega)) (.ret trivial)) (fun _ => .ret trivial)) fun m1 _ => ?_
  refine .bind (Bool_tot _ h7) fun y8 h8 => ?_
  refine .bind (P := fun m => Inv m.1 ∧ m.2.length ≤ 10) (.cond (fun _ => .eq rfl (.eq (app_small _ _ (by simp) (by omega)) (.ret ⟨⟨rfl, rfl, h3.2, h4.2, rfl, h6.2⟩, by simp⟩))) (fun _ => .ret ⟨⟨rfl, rfl, h3.2, h4.2, rfl, h6.2⟩, by simp⟩)) fun m2 hm2 => ?_
  refine .bind (Bool_tot _ h8) fun y9 h9 => ?_
  refine .condM (P := fun _ => True) (fun _ => ⟨2, idx_nat (k := 2) (by rw [hm2.1.2.2.2.2.1]; omega), trivial⟩) fun k1 _ => ?_
  refine .bind (P := fun m => Inv m.1 ∧ m.2.length ≤ 11) (.cond (fun _ => .eq rfl (.eq (app_small _ _ (by have := hm2.2; simp; omega) (by omega)) (.ret ⟨hm2.1, by have := hm2.2; simp; omega⟩))) (fun _ => .ret ⟨hm2.1, by have := hm2.2; simp only; omega⟩)) fun m3 hm3 => ?_
  refine .bind (Bool_tot _ h9) fun y10 h10 => ?_
  refine .condM (P := fun _ => True) (fun _ => ⟨3, idx_nat (k := 3) (by rw [hm3.1.2.2.2.2.1]; omega), trivial⟩) fun k2 _ => ?_
  refine .bind (P := fun m => Inv m.1 ∧ m.2.length ≤ 13) (.cond (fun _ => .eq rfl (.eq rfl (.eq (app_small _ _ (by have := hm3.2; simp; omega) (by omega)) (.ret ⟨hm3.1, by have := hm3.2; simp; omega⟩)))) (fun _ => .ret ⟨hm3.1, by have := hm3.2; simp only; omega⟩)) fun m4 hm4 => ?_
  obtain ⟨⟨i1, i2, i3, i4, i5, i6⟩, _⟩ := hm4
  exact .eq rfl (.ret ⟨⟨i1, i2, i3, i4, ⟨b1, b2, b3, by simp only [i5]; exact h5⟩, i6⟩, h10⟩)

end Go.Proofs.YtmnggbjcnoffeaaGreat

namespace Go.Proofs.YtmnggbjcnoffeaaGreat
open Go Gv
set_option linter.unusedVariables false
set_option linter.unusedSimpArgs false

/-- a bit of a value -/
def vb (v : T_api_Value) (i : Nat) : Bool := if i < 64 then v.f_Lo.getLsbD i else v.f_Hi.getLsbD (i - 64)
def band (x y : T_api_Value) : T_api_Value := { f_Hi := x.f_Hi &&& y.f_Hi, f_Lo := x.f_Lo &&& y.f_Lo }
def bor (x y : T_api_Value) : T_api_Value := { f_Hi := x.f_Hi ||| y.f_Hi, f_Lo := x.f_Lo ||| y.f_Lo }
def bxor (x y : T_api_Value) : T_api_Value := { f_Hi := x.f_Hi ^^^ y.f_Hi, f_Lo := x.f_Lo ^^^ y.f_Lo }
@[simp] theorem vb_band (x y : T_api_Value) (j : Nat) : vb (band x y) j = (vb x j && vb y j) := by unfold vb band; split <;> simp
@[simp] theorem vb_bor (x y : T_api_Value) (j : Nat) : vb (bor x y) j = (vb x j || vb y j) := by unfold vb bor; split <;> simp
@[simp] theorem vb_bxor (x y : T_api_Value) (j : Nat) : vb (bxor x y) j = (vb x j ^^ vb y j) := by unfold vb bxor; split <;> simp
theorem and_eq (x y : T_api_Value) : L_value_And x y = some (band x y) := rfl
end Go.Proofs.YtmnggbjcnoffeaaGreat

namespace Go.Proofs.YtmnggbjcnoffeaaGreat
open Go Gv
set_option linter.unusedVariables false
set_option linter.unusedSimpArgs false

/-- a word of 512 bits, the first bit first -/
def cv (w : Vector T_api_Value 4) (i : Nat) : Bool := vb (vget w (i / 128)) (127 - i % 128)
/-- a place of a cube: 2 free, else the bit that is asked for -/
def cell (val mask : Vector T_api_Value 4) (i : Nat) : BitVec 8 := if cv mask i then (if cv val i then 1#8 else 0#8) else 2#8
end Go.Proofs.YtmnggbjcnoffeaaGreat

namespace Go.Proofs.YtmnggbjcnoffeaaGreat
open Go Gv
set_option linter.unusedVariables false
set_option linter.unusedSimpArgs false
set_option maxRecDepth 100000

end Go.Proofs.YtmnggbjcnoffeaaGreat

namespace Go.Proofs.YtmnggbjcnoffeaaGreat
open Go Gv
set_option linter.unusedVariables false
set_option linter.unusedSimpArgs false
set_option maxRecDepth 100000

/-- a number out of its digits to the base 2 ^ w -/
def val (w : Nat) : Nat → (Nat → Nat) → Nat
  | 0, _ => 0
  | n + 1, d => d 0 + 2 ^ w * val w n (fun k => d (k + 1))

end Go.Proofs.YtmnggbjcnoffeaaGreat

namespace Go.Proofs.YtmnggbjcnoffeaaGreat
open Go Gv
set_option linter.unusedVariables false
set_option linter.unusedSimpArgs false
set_option maxRecDepth 100000

end Go.Proofs.YtmnggbjcnoffeaaGreat

namespace Go.Proofs.YtmnggbjcnoffeaaGreat
open Go Gv
set_option linter.unusedVariables false
set_option linter.unusedSimpArgs false
set_option maxRecDepth 100000

end Go.Proofs.YtmnggbjcnoffeaaGreat

namespace Go.Proofs.YtmnggbjcnoffeaaGreat
open Go Gv
set_option linter.unusedVariables false
set_option linter.unusedSimpArgs false
set_option maxRecDepth 100000

end Go.Proofs.YtmnggbjcnoffeaaGreat

namespace Go.Proofs.YtmnggbjcnoffeaaGreat
open Go Gv
set_option linter.unusedVariables false
set_option linter.unusedSimpArgs false
set_option maxRecDepth 100000

def BITS : List Int := [16, 16, 8, 4, 4, 8, 32, 12, 4]
theorem SchOk.fld {s : T_api_Schema} (h : SchOk s) {k : Nat} (hk : k < 9) : (lget s.f_Fields k).f_ID = (k : Int) + 1 ∧ (lget s.f_Fields k).f_Bits = lget BITS k := by
  have h1 := lget_map projF (l := s.f_Fields) (k := k) (by rw [h.flen]; exact hk)
  rw [h.fields] at h1
  have h2 : lget FLDS k = ((k : Int) + 1, lget BITS k) := by
    have : k = 0 ∨ k = 1 ∨ k = 2 ∨ k = 3 ∨ k = 4 ∨ k = 5 ∨ k = 6 ∨ k = 7 ∨ k = 8 := by omega
    rcases this with rfl | rfl | rfl | rfl | rfl | rfl | rfl | rfl | rfl <;> rfl
  rw [h2] at h1
  simp only [projF, Prod.mk.injEq] at h1
  exact ⟨h1.1.symm, h1.2.symm⟩
/-- a key of the cases: its field, its kind -/
def KeyOk (key : T_api_Key) : Prop := ∃ j : Nat, j < 9 ∧ key.f_Field = (j : Int) + 1 ∧ 1 ≤ key.f_Kind ∧ key.f_Kind ≤ 4 ∧ 4 ≤ lget BITS j ∧ lget BITS j ≤ 32 ∧ (key.f_Kind = 2 → j = 6)
/-- the bits of a key's field -/
def kb (key : T_api_Key) : Int := lget BITS (key.f_Field - 1).toNat
theorem SchOk.tab {s : T_api_Schema} (h : SchOk s) {k : Nat} (hk : k < 4) : (lget s.f_Tables k).f_ID = (k : Int) + 1 ∧
    (1 ≤ (lget s.f_Tables k).f_Keys.length ∧ (lget s.f_Tables k).f_Keys.length ≤ 3) ∧ (∀ key ∈ (lget s.f_Tables k).f_Keys, KeyOk key) ∧
    (1 ≤ (lget s.f_Tables k).f_Actions.length ∧ (lget s.f_Tables k).f_Actions.length ≤ 5) ∧ (∀ a ∈ (lget s.f_Tables k).f_Actions, 1 ≤ a ∧ a ≤ 6) := by
  obtain ⟨b1, b2, b3, ht⟩ := h.tables
  have h1 := lget_map projT (l := s.f_Tables) (k := k) (by rw [h.tlen]; exact hk)
  rw [ht] at h1
  have h2 : ∀ p : Int × List Int × List T_api_Key, p = projT (lget s.f_Tables k) → p.1 = (k : Int) + 1 → (1 ≤ p.2.2.length ∧ p.2.2.length ≤ 3) → (∀ key ∈ p.2.2, KeyOk key) →
      (1 ≤ p.2.1.length ∧ p.2.1.length ≤ 5) → (∀ a ∈ p.2.1, 1 ≤ a ∧ a ≤ 6) → (lget s.f_Tables k).f_ID = (k : Int) + 1 ∧
    (1 ≤ (lget s.f_Tables k).f_Keys.length ∧ (lget s.f_Tables k).f_Keys.length ≤ 3) ∧ (∀ key ∈ (lget s.f_Tables k).f_Keys, KeyOk key) ∧
    (1 ≤ (lget s.f_Tables k).f_Actions.length ∧ (lget s.f_Tables k).f_Actions.length ≤ 5) ∧ (∀ a ∈ (lget s.f_Tables k).f_Actions, 1 ≤ a ∧ a ≤ 6) := by
    rintro p rfl a b c d e
    exact ⟨a, b, c, d, e⟩
  have a0 : (1 ≤ ([1, 2, 4] : List Int).length ∧ ([1, 2, 4] : List Int).length ≤ 5) ∧ ∀ a ∈ ([1, 2, 4] : List Int), 1 ≤ a ∧ a ≤ 6 := by decide
  have a1 : (1 ≤ ([1, 2, 3, 4] : List Int).length ∧ ([1, 2, 3, 4] : List Int).length ≤ 5) ∧ ∀ a ∈ ([1, 2, 3, 4] : List Int), 1 ≤ a ∧ a ≤ 6 := by decide
  have a2 : (1 ≤ ([1, 2, 3, 5, 6] : List Int).length ∧ ([1, 2, 3, 5, 6] : List Int).length ≤ 5) ∧ ∀ a ∈ ([1, 2, 3, 5, 6] : List Int), 1 ≤ a ∧ a ≤ 6 := by decide
  have a3 : (1 ≤ ([1, 3, 5] : List Int).length ∧ ([1, 3, 5] : List Int).length ≤ 5) ∧ ∀ a ∈ ([1, 3, 5] : List Int), 1 ≤ a ∧ a ≤ 6 := by decide
  have kA_ok : KeyOk kA := ⟨3, by decide, rfl, by decide, by decide, by decide, by decide, by decide⟩
  have kA3_ok : KeyOk kA3 := ⟨3, by decide, rfl, by decide, by decide, by decide, by decide, by decide⟩
  have kB_ok : KeyOk kB := ⟨4, by decide, rfl, by decide, by decide, by decide, by decide, by decide⟩
  have kD_ok : KeyOk kD := ⟨6, by decide, rfl, by decide, by decide, by decide, by decide, by decide⟩
  have kM_ok : KeyOk kM := ⟨2, by decide, rfl, by decide, by decide, by decide, by decide, by decide⟩
  have kE_ok : KeyOk kE := ⟨5, by decide, rfl, by decide, by decide, by decide, by decide, by decide⟩
  have kF_ok : KeyOk kF := ⟨7, by decide, rfl, by decide, by decide, by decide, by decide, by decide⟩
  have kG_ok : KeyOk kG := ⟨8, by decide, rfl, by decide, by decide, by decide, by decide, by decide⟩
  have : k = 0 ∨ k = 1 ∨ k = 2 ∨ k = 3 := by omega
  rcases this with rfl | rfl | rfl | rfl
  · refine h2 _ h1 rfl (show 1 ≤ [kA].length ∧ [kA].length ≤ 3 by decide) ?_ a0.1 a0.2
    intro key hkey
    rcases List.mem_singleton.1 hkey with rfl
    exact kA_ok
  · refine h2 _ h1 rfl ?_ ?_ a1.1 a1.2
    · show 1 ≤ (keys2 b1).length ∧ (keys2 b1).length ≤ 3
      cases b1 <;> decide
    · intro key hkey
      replace hkey : key ∈ keys2 b1 := hkey
      cases b1 <;> simp only [keys2, List.mem_cons, List.not_mem_nil, or_false, if_true, if_false, Bool.false_eq_true] at hkey
      · subst hkey; exact kD_ok
      · rcases hkey with rfl | rfl; exact kD_ok; exact kM_ok
  · refine h2 _ h1 rfl ?_ ?_ a2.1 a2.2
    · show 1 ≤ (keys3 b2).length ∧ (keys3 b2).length ≤ 3
      cases b2 <;> decide
    · intro key hkey
      replace hkey : key ∈ keys3 b2 := hkey
      cases b2 <;> simp only [keys3, List.mem_cons, List.not_mem_nil, or_false, if_true, if_false, Bool.false_eq_true] at hkey
      · rcases hkey with rfl | rfl; exact kE_ok; exact kA3_ok
      · rcases hkey with rfl | rfl | rfl; exact kE_ok; exact kA3_ok; exact kB_ok
  · refine h2 _ h1 rfl ?_ ?_ a3.1 a3.2
    · show 1 ≤ (keys4 b3).length ∧ (keys4 b3).length ≤ 3
      cases b3 <;> decide
    · intro key hkey
      replace hkey : key ∈ keys4 b3 := hkey
      cases b3 <;> simp only [keys4, List.mem_cons, List.not_mem_nil, or_false, if_true, if_false, Bool.false_eq_true] at hkey
      · subst hkey; exact kF_ok
      · rcases hkey with rfl | rfl | rfl; exact kF_ok; exact kG_ok; exact kD_ok

/-- a match of the cases -/
structure MatOk (kind b : Int) (m : T_api_Match) : Prop where
  off : m.f_Present = false → m = default
  exa : kind = 1 → m.f_Present = true
  low : kind = 1 → ∀ j, j < 128 → vb m.f_Value j = true → (j : Int) < b
  mlo : kind = 3 → ∀ j, j < 128 → vb m.f_Mask j = true → (j : Int) < b
  ter : kind = 3 → ∀ j, j < 128 → vb m.f_Value j = true → vb m.f_Mask j = true
  pre : 0 ≤ m.f_Prefix ∧ m.f_Prefix ≤ 32
  pr2 : kind = 2 → m.f_Present = true → 1 ≤ m.f_Prefix
  pr0 : kind ≠ 2 → m.f_Prefix = 0
  msk : kind ≠ 3 → m.f_Mask = default
  mnz : kind = 3 → m.f_Present = true → m.f_Mask ≠ default
  hi4 : kind = 4 → m.f_Present = true → m.f_Value.f_Hi = m.f_High.f_Hi ∧ m.f_Value.f_Lo ≤ m.f_High.f_Lo

/-- an entry of the cases -/
structure EntOk (s : T_api_Schema) (k : Nat) (e : T_api_Entry) : Prop where
  tab : e.f_Table = (k : Int) + 1
  len : e.f_Matches.length = (lget s.f_Tables k).f_Keys.length
  mat : ∀ i, i < (lget s.f_Tables k).f_Keys.length → MatOk (lget (lget s.f_Tables k).f_Keys i).f_Kind (kb (lget (lget s.f_Tables k).f_Keys i)) (lget e.f_Matches i)
  args : e.f_Args.length ≤ 10

end Go.Proofs.YtmnggbjcnoffeaaGreat

namespace Go.Proofs.YtmnggbjcnoffeaaGreat
open Go Gv
set_option linter.unusedVariables false
set_option linter.unusedSimpArgs false
set_option maxRecDepth 100000

structure IdsOf (s : T_api_Schema) (r : Vector (List Int) 6) : Prop where
  fields : vget r 0 = s.f_Fields.map (·.f_ID)
  headers : vget r 1 = s.f_Headers.map (·.f_ID)
  states : vget r 2 = s.f_States.map (·.f_ID)
  actions : vget r 3 = s.f_Actions.map (·.f_ID)
  tables : vget r 4 = s.f_Tables.map (·.f_ID)
  roles : vget r 5 = s.f_Roles.map (·.f_ID)

end Go.Proofs.YtmnggbjcnoffeaaGreat

namespace Go.Proofs.YtmnggbjcnoffeaaGreat
open Go Gv
set_option linter.unusedVariables false
set_option linter.unusedSimpArgs false

theorem IndexFunc_api_Table {xs : List T_api_Table} {f : T_api_Table → Option Bool} {g : T_api_Table → Bool} (hf : ∀ x ∈ xs, f x = some (g x)) (hl : xs.length < 2 ^ 62) :
    Tot (L_slices_IndexFunc_api_Table xs f) (fun r => (r = -1 ∧ ∀ x ∈ xs, g x = false) ∨ ∃ i : Nat, i < xs.length ∧ r = i ∧ g (lget xs i) = true ∧ ∀ j, j < i → g (lget xs j) = false) := by
  unfold L_slices_IndexFunc_api_Table
  refine Tot.loop xs.length (fun k s => s = (k : Int) ∧ ∀ j, j < k → g (lget xs j) = false) (by omega) ⟨rfl, fun j hj => by omega⟩ (fun k s hk hi => ?_) (fun s hi => ?_)
  · obtain ⟨e1, e2⟩ := hi; subst e1
    refine Tot.cond (fun _ => ?_) (fun h => by simp at h; omega)
    refine .idx rfl hk (.eq (hf _ (by rw [lget_eq xs hk]; exact List.getElem_mem hk)) (.cond (fun h => .ret ?_) (fun h => .ret ⟨w64_succ (by omega), fun j hj => ?_⟩)))
    · exact .ret (.inr ⟨k, hk, rfl, h, e2⟩)
    · by_cases hjk : j = k
      · subst hjk; exact h
      · exact e2 j (by omega)
  · obtain ⟨e1, e2⟩ := hi; subst e1
    refine ⟨_, by simp; rfl, ?_⟩
    refine .ret (.inl ⟨rfl, fun x hx => ?_⟩)
    obtain ⟨j, hj, rfl⟩ := List.mem_iff_getElem.1 hx
    rw [← lget_eq xs hj]; exact e2 j hj
end Go.Proofs.YtmnggbjcnoffeaaGreat

namespace Go.Proofs.YtmnggbjcnoffeaaGreat
open Go Gv
set_option linter.unusedVariables false
set_option linter.unusedSimpArgs false

theorem IndexFunc_api_Field {xs : List T_api_Field} {f : T_api_Field → Option Bool} {g : T_api_Field → Bool} (hf : ∀ x ∈ xs, f x = some (g x)) (hl : xs.length < 2 ^ 62) :
    Tot (L_slices_IndexFunc_api_Field xs f) (fun r => (r = -1 ∧ ∀ x ∈ xs, g x = false) ∨ ∃ i : Nat, i < xs.length ∧ r = i ∧ g (lget xs i) = true ∧ ∀ j, j < i → g (lget xs j) = false) := by
  unfold L_slices_IndexFunc_api_Field
  refine Tot.loop xs.length (fun k s => s = (k : Int) ∧ ∀ j, j < k → g (lget xs j) = false) (by omega) ⟨rfl, fun j hj => by omega⟩ (fun k s hk hi => ?_) (fun s hi => ?_)
  · obtain ⟨e1, e2⟩ := hi; subst e1
    refine Tot.cond (fun _ => ?_) (fun h => by simp at h; omega)
    refine .idx rfl hk (.eq (hf _ (by rw [lget_eq xs hk]; exact List.getElem_mem hk)) (.cond (fun h => .ret ?_) (fun h => .ret ⟨w64_succ (by omega), fun j hj => ?_⟩)))
    · exact .ret (.inr ⟨k, hk, rfl, h, e2⟩)
    · by_cases hjk : j = k
      · subst hjk; exact h
      · exact e2 j (by omega)
  · obtain ⟨e1, e2⟩ := hi; subst e1
    refine ⟨_, by simp; rfl, ?_⟩
    refine .ret (.inl ⟨rfl, fun x hx => ?_⟩)
    obtain ⟨j, hj, rfl⟩ := List.mem_iff_getElem.1 hx
    rw [← lget_eq xs hj]; exact e2 j hj
end Go.Proofs.YtmnggbjcnoffeaaGreat

namespace Go.Proofs.YtmnggbjcnoffeaaGreat
open Go Gv
set_option linter.unusedVariables false
set_option linter.unusedSimpArgs false
set_option maxRecDepth 100000

theorem cTableOf_ok {s : T_api_Schema} (h : SchOk s) {k : Nat} (hk : k < 4) : Tot (L_check_TableOf s ((k : Int) + 1)) (fun r => r = (k : Int)) := by
  unfold L_check_TableOf
  refine (IndexFunc_api_Table (g := fun t => t.f_ID == (k : Int) + 1) (fun x hx => rfl) (by rw [h.tlen]; omega)).bind fun r hr => .ret ?_
  have hk2 : k < s.f_Tables.length := by rw [h.tlen]; exact hk
  rcases hr with ⟨_, hr⟩ | ⟨i, h1, h2, h3, h4⟩
  · have := hr (lget s.f_Tables k) (by rw [lget_eq _ hk2]; exact List.getElem_mem hk2)
    simp only [(h.tab hk).1, beq_self_eq_true] at this; cases this
  · have h5 := (h.tab (show i < 4 by have := h.tlen; omega)).1
    simp only [h5, beq_iff_eq] at h3; omega

theorem cFieldOf_ok {s : T_api_Schema} (h : SchOk s) {k : Nat} (hk : k < 9) : Tot (L_check_FieldOf s ((k : Int) + 1)) (fun r => r = (k : Int)) := by
  unfold L_check_FieldOf
  refine (IndexFunc_api_Field (g := fun t => t.f_ID == (k : Int) + 1) (fun x hx => rfl) (by rw [h.flen]; omega)).bind fun r hr => .ret ?_
  have hk2 : k < s.f_Fields.length := by rw [h.flen]; exact hk
  rcases hr with ⟨_, hr⟩ | ⟨i, h1, h2, h3, h4⟩
  · have := hr (lget s.f_Fields k) (by rw [lget_eq _ hk2]; exact List.getElem_mem hk2)
    simp only [(h.fld hk).1, beq_self_eq_true] at this; cases this
  · have h5 := (h.fld (show i < 9 by have := h.flen; omega)).1
    simp only [h5, beq_iff_eq] at h3; omega

theorem kb_of {key : T_api_Key} {j : Nat} (h : key.f_Field = (j : Int) + 1) : kb key = lget BITS j := by unfold kb; rw [h]; congr 1; omega

theorem KeyOk.kb {key : T_api_Key} (h : KeyOk key) : 4 ≤ Go.Proofs.YtmnggbjcnoffeaaGreat.kb key ∧ Go.Proofs.YtmnggbjcnoffeaaGreat.kb key ≤ 32 := by
  obtain ⟨j, hj, hf, _, _, h1, h2, _⟩ := h
  rw [kb_of hf]; exact ⟨h1, h2⟩

end Go.Proofs.YtmnggbjcnoffeaaGreat

namespace Go.Proofs.YtmnggbjcnoffeaaGreat
open Go Gv
set_option linter.unusedVariables false
set_option linter.unusedSimpArgs false
set_option maxRecDepth 100000

/-- a table by its number -/
theorem SchOk.prj {s : T_api_Schema} (h : SchOk s) : ∃ b1 b2 b3, ∀ k, k < 4 → projT (lget s.f_Tables k) = lget (TABS b1 b2 b3) k := by
  obtain ⟨b1, b2, b3, e⟩ := h.tables
  refine ⟨b1, b2, b3, fun k hk => ?_⟩
  rw [← e, lget_map projT (by rw [h.tlen]; exact hk)]

theorem kindOf_ks (t : T_api_Table) {r : Int × Int} (ks : List T_api_Key) (hk : t.f_Keys = ks) (h : L_index_kindOf { (default : T_api_Table) with f_Keys := ks } = some r) : L_index_kindOf t = some r := by
  subst hk
  exact h

/-- the kind of the index of table k -/
def KD (k : Nat) : Int := lget [1, 2, 3, 3] k
theorem kindOf_ok {s : T_api_Schema} (h : SchOk s) {k : Nat} (hk : k < 4) : Tot (L_index_kindOf (lget s.f_Tables k)) (fun r => r.1 = KD k ∧ (k = 1 → r.2 = 0)) := by
  obtain ⟨b1, b2, b3, e⟩ := h.prj
  have e := e k hk
  have hks : (lget s.f_Tables k).f_Keys = (lget (TABS b1 b2 b3) k).2.2 := congrArg (·.2.2) e
  have : k = 0 ∨ k = 1 ∨ k = 2 ∨ k = 3 := by omega
  rcases this with rfl | rfl | rfl | rfl
  · exact ⟨_, kindOf_ks _ [kA] hks rfl, rfl, fun h => by simp at h⟩
  · cases b1
    · exact ⟨_, kindOf_ks _ [kD] hks rfl, rfl, fun _ => rfl⟩
    · exact ⟨_, kindOf_ks _ [kD, kM] hks rfl, rfl, fun _ => rfl⟩
  · cases b2
    · exact ⟨_, kindOf_ks _ [kE, kA3] hks rfl, rfl, fun h => by simp at h⟩
    · exact ⟨_, kindOf_ks _ [kE, kA3, kB] hks rfl, rfl, fun h => by simp at h⟩
  · cases b3
    · exact ⟨_, kindOf_ks _ [kF] hks rfl, rfl, fun h => by simp at h⟩
    · exact ⟨_, kindOf_ks _ [kF, kG, kD] hks rfl, rfl, fun h => by simp at h⟩

theorem cTableOf_no {s : T_api_Schema} (h : SchOk s) {x : Int} (hx : x < 1 ∨ 4 < x) : Tot (L_check_TableOf s x) (fun r => r = -1) := by
  unfold L_check_TableOf
  have hl := h.tlen
  refine (IndexFunc_api_Table (g := fun t => t.f_ID == x) (fun _ _ => rfl) (by omega)).bind fun r hr => .ret ?_
  rcases hr with ⟨h1, _⟩ | ⟨i, h1, h2, h3, h4⟩
  · exact h1
  · have hi : i < 4 := by omega
    have := (h.tab hi).1
    simp only [beq_iff_eq] at h3
    omega

/-- what an index without entries holds -/
structure New0 (s : T_api_Schema) (k : Nat) (hp : Pool Cell) (p : Nat) : Prop where
  cell : ∃ c m, rd135 hp p = some c ∧ c.f_kind = KD k ∧ c.f_keys = ((lget s.f_Tables k).f_Keys.length : Int) ∧ c.f_entries = ⟨some m⟩ ∧ rd133 hp m = some [] ∧
    (k = 0 → ∃ q m2, c.f_finder = .c166 ⟨some q⟩ ∧ rd224 hp q = some ⟨⟨some m2⟩⟩ ∧ rd222 hp m2 = some []) ∧
    (k = 1 → ∃ m3, c.f_finder = .c169 ⟨0, 32, ⟨some m3⟩⟩ ∧ rd167 hp m3 = some []) ∧
    (2 ≤ k → ∃ q key cap, c.f_finder = .c173 ⟨some q⟩ ∧ rd228 hp q = some (({ f_schema := s, f_l := [] } : T_ordered_List), key, cap))

theorem New_w {s : T_api_Schema} (h : SchOk s) {k : Nat} (hk : k < 4) (hp : Pool Cell) : Wt (L_index_New hp s ((k : Int) + 1)) (fun r => ∃ p, r.1 = some p ∧ New0 s k r.2 p) := by
  unfold L_index_New
  refine .ofb (cTableOf_ok h hk) fun y1 e1 => ?_
  subst e1
  refine .cond (fun hc => by simp at hc; omega) fun _ => ?_
  refine .idx rfl (by rw [h.tlen]; exact hk) (.ofb (kindOf_ok h hk) fun y2 h2 => .mk fun m hm => .eq rfl (.mk fun p hp1 => ?_))
  obtain ⟨kd, key⟩ := y2
  obtain ⟨h2, h3⟩ := h2
  simp only at h2 h3 hp1
  subst h2
  have hpm : p ≠ m := fun e => by subst e; simp [pks] at hp1
  have : k = 0 ∨ k = 1 ∨ 2 ≤ k := by omega
  rcases this with rfl | rfl | hk2
  · have e : (KD 0 == 1) = true := rfl
    simp only [e, cond_true]
    unfold L_exact_New
    refine .bind (P := fun hp2 => New0 s 0 hp2 p) (.bind (P := fun r => ∃ q m2, r = ((some q : Ref), (q, Cell.c224 ⟨⟨some m2⟩⟩) :: (m2, Cell.c222 []) :: (p, _) :: (m, Cell.c133 []) :: hp) ∧ m2 ∉ pks ((p, _) :: (m, Cell.c133 []) :: hp) ∧ q ∉ pks ((m2, Cell.c222 []) :: (p, _) :: (m, Cell.c133 []) :: hp)) (.mk fun m2 hm2 => .mk fun q hq => .ret ⟨q, m2, rfl, hm2, hq⟩) fun y3 h4 => ?_) fun hp2 h5 => .ret ⟨p, rfl, h5⟩
    obtain ⟨q, m2, rfl, hm2, hq⟩ := h4
    simp only [pks, List.map_cons, List.mem_cons, not_or] at hm2 hq hp1
    refine .eq (by simp [rd135, pat, hq.1, hq.2, hm2.1, hq.2.2.1, Ne.symm]; rfl) (.eq rfl (.ret ?_))
    refine ⟨{ f_kind := KD 0, f_keys := ((lget s.f_Tables 0).f_Keys.length : Int), f_finder := .c166 ⟨some q⟩, f_entries := ⟨some m⟩ }, m, ?_, rfl, rfl, rfl, ?_, ?_, fun hc => by simp at hc, fun hc => by simp at hc⟩
    · simp [rd135, pat, pup, hq.1, hq.2, hm2.1, hq.2.2.1]
    · simp [rd133, pat, pup, hq.1, hq.2, hm2.1, hq.2.2.1, hm2.2.1, hp1.1]
    · intro _
      refine ⟨q, m2, rfl, ?_, ?_⟩
      · simp [rd224, pat, pup, hq.1, hq.2, hm2.1, hq.2.2.1, hm2.2.1, hp1.1]
      · simp [rd222, pat, pup, hq.1, hq.2, hm2.1, hq.2.2.1, hm2.2.1, hp1.1]
  · have e : (KD 1 == 1) = false := rfl
    have e2 : (KD 1 == 2) = true := rfl
    simp only [e, e2, cond_true, cond_false]
    have h3 := h3 rfl
    subst h3
    obtain ⟨t1, ⟨t2, t3⟩, t4, _⟩ := h.tab hk
    have hf : (lget (lget s.f_Tables 1).f_Keys 0).f_Field = ((6 : Nat) : Int) + 1 := by
      obtain ⟨b1, b2, b3, e⟩ := h.prj
      have e := congrArg (·.2.2) (e 1 hk)
      show (lget (projT (lget s.f_Tables 1)).2.2 0).f_Field = _
      rw [e]
      cases b1 <;> rfl
    refine .bind (P := fun hp2 => New0 s 1 hp2 p) (.bind (P := fun hp2 => New0 s 1 hp2 p) ?_ fun _ h6 => .ret h6) fun hp2 h5 => .ret ⟨p, rfl, h5⟩
    refine .idx (k := 0) rfl (by omega) ?_
    simp only [hf]
    refine .ofb (cFieldOf_ok h (show 6 < 9 by decide)) fun y4 e4 => ?_
    subst e4
    refine .ofb (P := fun r => r = 32) (.cond (fun _ => .idx rfl (by rw [h.flen]; decide) (.ret (h.fld (show 6 < 9 by decide)).2)) (fun hc => by simp at hc)) fun b hb => ?_
    subst hb
    refine .mk fun m3 hm3 => ?_
    simp only [pks, List.map_cons, List.mem_cons, not_or] at hm3 hp1
    refine .eq rfl (.eq (by simp [rd135, pat, hm3.1]; rfl) (.eq rfl (.ret ?_)))
    refine ⟨{ f_kind := KD 1, f_keys := ((lget s.f_Tables 1).f_Keys.length : Int), f_finder := .c169 ⟨0, 32, ⟨some m3⟩⟩, f_entries := ⟨some m⟩ }, m, ?_, rfl, rfl, rfl, ?_, fun hc => by simp at hc, ?_, fun hc => by simp at hc⟩
    · simp [rd135, pat, pup, hm3.1]
    · simp [rd133, pat, pup, hm3.1, hm3.2.1, hp1.1]
    · intro _
      refine ⟨m3, rfl, ?_⟩
      simp [rd167, pat, pup, hm3.1, hm3.2.1, hp1.1]
  · have e : (KD k == 1) = false := by
      have : k = 2 ∨ k = 3 := by omega
      rcases this with rfl | rfl <;> rfl
    have e2 : (KD k == 2) = false := by
      have : k = 2 ∨ k = 3 := by omega
      rcases this with rfl | rfl <;> rfl
    simp only [e, e2, cond_true, cond_false]
    refine .bind (P := fun hp2 => New0 s k hp2 p) (.bind (P := fun hp2 => New0 s k hp2 p) ?_ fun _ h6 => .ret h6) fun hp2 h5 => .ret ⟨p, rfl, h5⟩
    refine .eq rfl (.any fun q3 => .mk fun q hq => ?_)
    simp only [pks, List.map_cons, List.mem_cons, not_or] at hq hp1
    refine .eq (by simp [rd135, pat, hq.1]; rfl) (.eq rfl (.ret ?_))
    refine ⟨{ f_kind := KD k, f_keys := ((lget s.f_Tables k).f_Keys.length : Int), f_finder := .c173 ⟨some q⟩, f_entries := ⟨some m⟩ }, m, ?_, rfl, rfl, rfl, ?_, fun hc => by omega, fun hc => by omega, fun _ => ⟨q, q3.1, q3.2, rfl, ?_⟩⟩
    · simp [rd135, pat, pup, hq.1]
    · simp [rd133, pat, pup, hq.1, hq.2.1, hp1.1]
    · simp [rd228, pat, pup, hq.1]

theorem New_no {s : T_api_Schema} (h : SchOk s) {x : Int} (hx : x < 1 ∨ 4 < x) (hp : Pool Cell) : Wt (L_index_New hp s x) (fun r => r.1 = none) := by
  unfold L_index_New
  refine .ofb (cTableOf_no h hx) fun y1 e1 => ?_
  subst e1
  exact .cond (fun _ => .ret rfl) fun hc => by simp at hc
theorem Kind_ok {s : T_api_Schema} {k : Nat} {hp : Pool Cell} {p : Nat} (h : New0 s k hp p) : L_index_Index_Kind hp (some p) = some (KD k) := by
  obtain ⟨c, m, h1, h2, _⟩ := h.cell
  unfold L_index_Index_Kind
  simp [h1, h2]

theorem begun_w (hp : Pool Cell) : Wt (L_law14_begun hp) (fun r => r.1 = true) := by
  unfold L_law14_begun
  refine .ofb (New_tot [] 0 (by decide) (by decide)) fun y1 h1 => .ofb (Schema_tot _ h1) fun y2 h2 => ?_
  obtain ⟨h2, _⟩ := h2
  refine .bind (New_w h2 (k := 0) (by decide) _) fun y3 h3 => ?_
  obtain ⟨p, e, h3⟩ := h3
  rw [e]
  refine .eq (Kind_ok h3) ?_
  have e0 : (KD 0 == 1) = true := rfl
  simp only [e0, decide_true, cond_true]
  refine .bind (New_w h2 (k := 1) (by decide) _) fun y4 h4 => ?_
  obtain ⟨p4, e4, h4⟩ := h4
  rw [e4]
  refine .eq (a := KD 1) (by unfold condM; rw [if_pos rfl]; exact Kind_ok h4) ?_
  have e1 : (true && KD 1 == 2) = true := rfl
  simp only [e1, decide_true, cond_true]
  refine .bind (New_w h2 (k := 2) (by decide) _) fun y5 h5 => ?_
  obtain ⟨p5, e5, h5⟩ := h5
  rw [e5]
  refine .eq (a := KD 2) (by unfold condM; rw [if_pos rfl]; exact Kind_ok h5) ?_
  have e2 : (true && KD 2 == 3) = true := rfl
  simp only [e2, decide_true, cond_true]
  refine .bind (New_w h2 (k := 3) (by decide) _) fun y6 h6 => ?_
  obtain ⟨p6, e6, h6⟩ := h6
  rw [e6]
  refine .eq (a := KD 3) (by unfold condM; rw [if_pos rfl]; exact Kind_ok h6) ?_
  have e3 : (true && KD 3 == 3) = true := rfl
  simp only [e3, decide_true, cond_true]
  refine .bind (New_no h2 (x := 9) (by decide) _) fun y7 h7 => ?_
  refine .eq rfl (.ret ?_)
  rw [h7]; rfl
end Go.Proofs.YtmnggbjcnoffeaaGreat

namespace Go.Proofs.YtmnggbjcnoffeaaGreat
open Go Gv
set_option linter.unusedVariables false
set_option linter.unusedSimpArgs false
set_option maxRecDepth 100000

theorem indexNone_w (hp : Pool Cell) (x0 : List (BitVec 8)) (x1 : Int) (x2 : T_api_Entry) : Wt (L_law14_IndexNone hp x0 x1 x2) (fun r => r.1 = true) := by
  unfold L_law14_IndexNone
  refine .ofb (New_tot x0 120 (by decide) (by decide)) fun y1 h1 => .ofb (Schema_tot _ h1) fun y2 h2 => ?_
  obtain ⟨h2, _⟩ := h2
  have hnew : Wt (L_index_New hp y2.1 x1) (fun r => r.1.isNone = (decide (x1 < 1) || decide (x1 > 4))) := by
    by_cases hx : x1 < 1 ∨ 4 < x1
    · refine (New_no h2 hx hp).mono fun r hr => ?_
      rw [hr]
      symm
      simp only [Option.isNone_none, Bool.or_eq_true, decide_eq_true_eq]
      omega
    · obtain ⟨k, hk⟩ := Int.eq_ofNat_of_zero_le (show 0 ≤ x1 - 1 by omega)
      have e : x1 = (k : Int) + 1 := by omega
      subst e
      refine (New_w h2 (k := k) (by omega) hp).mono fun r hr => ?_
      obtain ⟨p, e, _⟩ := hr
      rw [e]
      symm
      simp only [Option.isNone_some, Bool.or_eq_false_iff, decide_eq_false_iff_not]
      omega
  refine .bind hnew fun y3 h3 => ?_
  rw [h3]
  refine .cond (fun hc => by simp at hc) fun _ => ?_
  refine .eq (a := (default, false)) rfl ?_
  refine .bind (P := fun r => r.2.1 = false) ?_ fun y5 h5 => ?_
  · unfold L_index_Index_Remove
    refine .eq (a := (default, false)) rfl (.bind (P := fun _ => True) (.cond (fun hc => by cases hc) fun _ => .ret trivial) fun m _ => .ret rfl)
  refine .eq (a := (default, false)) rfl ?_
  simp only [h5]
  refine .eq (a := 0) rfl (.eq (a := 0) rfl ?_)
  refine .bind (P := fun r => r.1 = false) (.cond (fun _ => ?_) fun hc => by simp at hc) fun y9 h9 => ?_
  · unfold L_index_Index_Put
    exact .cond (fun _ => .ret rfl) fun hc => by simp at hc
  refine .eq rfl ?_
  simp only [h9]
  refine .bind (P := fun r => r.1 = true) (.cond (fun _ => begun_w _) fun hc => by simp at hc) fun y11 h11 => .ret ?_
  simp only [h11]; rfl

theorem indexNone_ok (x0 : List (BitVec 8)) (x1 : Int) (x2 : T_api_Entry) : L_law14_IndexNone [] x0 x1 x2 (fun r => r.1 = true) := (indexNone_w [] x0 x1 x2).run
end Go.Proofs.YtmnggbjcnoffeaaGreat

