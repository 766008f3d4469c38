/-
  What the programs compute, in plain Lean. Conditions: none.
-/
import Derived.Test.YtmlgdkccoomiaaaJl0
import Derived.Test.YtmlgdkccoomiaaaJd
namespace Gv
open Go

theorem loop_inv {σ ε : Type} {body : σ → Option (σ ⊕ ε)} {Q : ε → Prop} {s0 : σ} (m : Nat) (I : Nat → σ → Prop)
    (hm : m < 2 ^ 80) (h0 : I 0 s0)
    (hs : ∀ k s, k < m → I k s → (∃ s', body s = some (.inl s') ∧ I (k + 1) s') ∨ (∃ e, body s = some (.inr e) ∧ Q e))
    (he : ∀ s, I m s → ∃ e, body s = some (.inr e) ∧ Q e) : ∃ e, loopM FUEL body s0 = some e ∧ Q e := by
  have key : ∀ n k s, k ≤ m → m - k < n → I k s → ∃ e, loopM n body s = some e ∧ Q e := by
    intro n
    induction n with
    | zero => intro k s _ h; omega
    | succ n ih =>
      intro k s hk hn hi
      by_cases hkm : k = m
      · subst hkm
        obtain ⟨e, h1, h2⟩ := he s hi
        exact ⟨e, by simp [loopM, h1], h2⟩
      · rcases hs k s (by omega) hi with ⟨s', h1, h2⟩ | ⟨e, h1, h2⟩
        · obtain ⟨e, h3, h4⟩ := ih (k + 1) s' (by omega) (by omega) h2
          exact ⟨e, by simp [loopM, h1, h3], h4⟩
        · exact ⟨e, by simp [loopM, h1], h2⟩
  exact key FUEL 0 s0 (by omega) (by unfold FUEL; omega) h0

/-- a computation that returns, and what it returns -/
def Tot {β : Type} (m : Option β) (P : β → Prop) : Prop := ∃ r, m = some r ∧ P r
theorem Tot.ret {β : Type} {P : β → Prop} {r : β} (h : P r) : Tot (some r) P := ⟨r, rfl, h⟩
theorem Tot.bind {α β : Type} {m : Option α} {f : α → Option β} {P : α → Prop} {Q : β → Prop} (h : Tot m P) (k : ∀ a, P a → Tot (f a) Q) : Tot (m.bind f) Q := by
  obtain ⟨a, h1, h2⟩ := h
  rw [h1]; exact k a h2
theorem Tot.eq {α β : Type} {m : Option α} {a : α} {f : α → Option β} {Q : β → Prop} (h : m = some a) (k : Tot (f a) Q) : Tot (m.bind f) Q := by
  rw [h]; exact k
theorem Tot.mono {β : Type} {m : Option β} {P Q : β → Prop} (h : Tot m P) (k : ∀ a, P a → Q a) : Tot m Q := by
  obtain ⟨a, h1, h2⟩ := h
  exact ⟨a, h1, k a h2⟩
theorem Tot.cond {β : Type} {b : Bool} {m n : Option β} {P : β → Prop} (h1 : b = true → Tot m P) (h2 : b = false → Tot n P) : Tot (cond b m n) P := by
  cases b
  · exact h2 rfl
  · exact h1 rfl
theorem Tot.condM {α β : Type} [Inhabited α] {b w : Bool} {m : Option α} {f : α → Option β} {P : α → Prop} {Q : β → Prop} (h : b = w → Tot m P) (k : ∀ a, (b = w → P a) → Tot (f a) Q) : Tot ((condM b w m).bind f) Q := by
  unfold Gv.condM
  by_cases hb : b = w
  · rw [if_pos hb]; exact (h hb).bind fun a ha => k a fun _ => ha
  · rw [if_neg hb]; exact k default fun h => absurd h hb
theorem Tot.loop {σ ε β : Type} {body : σ → Option (σ ⊕ ε)} {f : ε → Option β} {P : β → Prop} {s0 : σ} (m : Nat) (I : Nat → σ → Prop)
    (hm : m < 2 ^ 80) (h0 : I 0 s0)
    (hs : ∀ k s, k < m → I k s → Tot (body s) (fun x => match x with | .inl s' => I (k + 1) s' | .inr e => Tot (f e) P))
    (he : ∀ s, I m s → ∃ e, body s = some (.inr e) ∧ Tot (f e) P) : Tot ((loopM FUEL body s0).bind f) P := by
  obtain ⟨e, h1, h2⟩ := loop_inv (Q := fun e => Tot (f e) P) m I hm h0 (fun k s hk hi => by
    obtain ⟨r, h1, h2⟩ := hs k s hk hi
    cases r with
    | inl s' => exact .inl ⟨s', h1, h2⟩
    | inr e => exact .inr ⟨e, h1, h2⟩) he
  rw [h1]; exact h2
theorem Tot.idx {β : Type} {n : Nat} {i : Int} {k : Nat} {f : Nat → Option β} {Q : β → Prop} (hi : i = k) (hk : k < n) (h : Tot (f k) Q) : Tot ((Gv.idx n i).bind f) Q := by
  subst hi
  have : Gv.idx n (k : Int) = some k := by unfold Gv.idx; rw [if_pos (by omega)]; simp
  rw [this]; exact h

theorem vget_vset {α : Type} [Inhabited α] {n : Nat} (v : Vector α n) {k : Nat} (x : α) (hk : k < n) (j : Nat) : vget (vset v k x) j = if j = k then x else vget v j := by
  unfold vget vset
  by_cases h : j = k
  · subst h; simp [hk]
  · rw [if_neg h, Vector.getElem?_setIfInBounds_ne (by omega)]
theorem vget_default {α : Type} [Inhabited α] {n : Nat} (j : Nat) : vget (default : Vector α n) j = default := by
  show vget (Vector.replicate n default) j = default
  unfold vget
  by_cases h : j < n <;> simp [h]
theorem idx_nat {n k : Nat} (h : k < n) : idx n (k : Int) = some k := by
  unfold idx; rw [if_pos (by omega)]; simp
theorem idx_int {n : Nat} {i : Int} (h : 0 ≤ i) (h' : i < n) : idx n i = some i.toNat := by
  unfold idx; rw [if_pos ⟨h, h'⟩]
theorem w64_succ {k : Nat} (h : k < 2 ^ 62) : w64 ((k : Int) + 1) = ((k + 1 : Nat) : Int) := by
  rw [w64_in (by omega) (by omega)]; simp
theorem cnt_nat {k : Nat} (h : k < 2 ^ 64) : (BitVec.ofInt 64 (k : Int)).toNat = k := by
  simp; omega
theorem bit_one (x : BitVec 64) : ((x &&& 1#64) == 1#64) = x.getLsbD 0 := by
  rw [BitVec.and_one_eq_setWidth_ofBool_getLsbD]
  cases x.getLsbD 0 <;> rfl
theorem bit_test (x : BitVec 64) (n : Nat) : (((x >>> n) &&& 1#64) == 1#64) = x.getLsbD n := by
  rw [bit_one]; simp
theorem lget_map {α β : Type} [Inhabited α] [Inhabited β] (f : α → β) {l : List α} {k : Nat} (hk : k < l.length) : lget (l.map f) k = f (lget l k) := by
  rw [lget_eq l hk, lget_eq _ (by simpa using hk), List.getElem_map]
theorem take_succ_lget {α : Type} [Inhabited α] (l : List α) {k : Nat} (hk : k < l.length) : l.take (k + 1) = l.take k ++ [lget l k] := by
  rw [List.take_add_one, List.getElem?_eq_getElem hk, lget_eq l hk]; rfl

end Gv

namespace Go.Proofs.Ytmlgdkccoomiaaa
open Go Gv
set_option linter.unusedVariables false
set_option linter.unusedSimpArgs false
set_option maxRecDepth 100000

theorem app_small {α : Type} {b : Nat} (xs ys : List α) (h : xs.length + ys.length ≤ 1000000) (hb : b ≤ 100000) : appM b xs ys = some (xs ++ ys) := by
  unfold appM
  rw [if_pos]
  unfold maxLen
  refine ⟨Nat.le_trans (Nat.mul_le_mul h hb) (by omega), by omega⟩

/-- codes that are not many -/
def CdOk (c : T_mcase_Codes) : Prop := 0 ≤ c.f_at ∧ c.f_l.length ≤ 1000

theorem New_tot (l : List (BitVec 8)) (n : Int) (h0 : 0 ≤ n) (h1 : n ≤ 1000) : Tot (L_mcase_New l n) CdOk := by
  unfold L_mcase_New
  refine .eq (a := (l.drop 0).take ((min (l.length : Int) n).toNat - 0)) ?_ (.ret ⟨Int.le_refl 0, ?_⟩)
  · unfold sliceM; rw [if_pos ⟨by omega, by omega, by omega⟩]; rfl
  · simp only [List.length_take, List.length_drop]; omega

theorem Next_tot (c : T_mcase_Codes) (n : Int) (hc : CdOk c) (hn : 1 ≤ n) : Tot (L_mcase_Codes_Next c n) (fun r => CdOk r.2 ∧ 0 ≤ r.1 ∧ r.1 < n ∧ r.1 < 256) := by
  unfold L_mcase_Codes_Next L_mcase_Codes_Left
  obtain ⟨l, a⟩ := c
  obtain ⟨h0, h1⟩ := hc
  simp only at h0 h1
  obtain ⟨k, rfl⟩ := Int.eq_ofNat_of_zero_le h0
  refine .eq rfl (.cond (fun _ => .ret ⟨⟨h0, h1⟩, by omega, by omega, by omega⟩) fun h => ?_)
  simp only [Bool.or_eq_false_iff, Bool.not_eq_false', decide_eq_true_eq, decide_eq_false_iff_not] at h
  have e1 : w64 ((k : Int) + 1) = ((k + 1 : Nat) : Int) := w64_succ (by omega)
  simp only [e1]
  have e2 : w64 (((k + 1 : Nat) : Int) - 1) = (k : Int) := by rw [w64_in (by omega) (by omega)]; omega
  rw [e2]
  refine .idx rfl (by omega) (.eq (by unfold modM; rw [if_neg (by omega)]) (.ret ⟨⟨by simp only; omega, h1⟩, ?_, ?_, ?_⟩))
  · exact Int.tmod_nonneg _ (by omega)
  · exact Int.tmod_lt_of_pos _ (by omega)
  · simp only
    have h3 : (lget l k).toNat < 256 := (lget l k).isLt
    obtain ⟨m, rfl⟩ := Int.eq_ofNat_of_zero_le (show 0 ≤ n by omega)
    have h4 : (((lget l k).toNat : Int)).tmod m = (((lget l k).toNat % m : Nat) : Int) := (Int.ofNat_tmod _ _).symm
    have h5 := Nat.mod_le (lget l k).toNat m
    omega

theorem Bool_tot (c : T_mcase_Codes) (hc : CdOk c) : Tot (L_mcase_Codes_Bool c) (fun r => CdOk r.2) := by
  unfold L_mcase_Codes_Bool
  exact .bind (Next_tot c 2 hc (by omega)) fun y h => .ret h.1

theorem states_tot (c : T_mcase_Codes) (hc : CdOk c) : Tot (L_mcase_Codes_states c) (fun r => CdOk r.2 ∧ r.1.length = 3) := by
  unfold L_mcase_Codes_states
  refine .bind (Next_tot c 4 hc (by omega)) fun y1 h1 => ?_
  refine .eq (idx_int h1.2.1 (by simpa using h1.2.2.1)) (.eq rfl (.eq rfl (.bind (Bool_tot _ h1.1) fun y2 h2 => ?_)))
  refine .bind (P := fun m => CdOk m.1) (.cond (fun _ => ?_) (fun _ => .ret h2)) fun m1 hm1 => ?_
  · refine .bind (Next_tot _ 2 h2 (by omega)) fun y6 h6 => .eq rfl (.bind (Next_tot _ 4 h6.1 (by omega)) fun y7 h7 => ?_)
    exact .eq (idx_int h7.2.1 (by simpa using h7.2.2.1)) (.eq rfl (.eq (app_small _ _ (by simp) (by omega)) (.ret h7.1)))
  · refine .bind (Next_tot _ 4 hm1 (by omega)) fun y3 h3 => .eq (idx_int h3.2.1 (by simpa using h3.2.2.1)) (.eq rfl (.eq rfl ?_))
    refine .bind (Next_tot _ 3 h3.1 (by omega)) fun y4 h4 => ?_
    refine .bind (P := fun m => CdOk m.1) (.cond (fun _ => ?_) (fun _ => .ret h4.1)) fun m2 hm2 => .ret ⟨hm2, rfl⟩
    exact .bind (Next_tot _ 3 h4.1 (by omega)) fun y5 h5 => .eq rfl (.ret h5.1)

def projA (a : T_api_Action) : Int × List Int := (a.f_ID, a.f_Params.map (·.f_Bits))
def ACTS : List (Int × List Int) := [(1, []), (2, []), (3, [16]), (4, [4]), (5, [4, 12]), (6, [])]

theorem map_lset {α β : Type} [Inhabited α] (f : α → β) (l : List α) (k : Nat) (x : α) (h : f x = f (lget l k)) : (lset l k x).map f = l.map f := by
  unfold lset
  apply List.ext_getElem
  · simp
  · intro i h1 h2
    simp only [List.length_map, List.length_set] at h1
    simp only [List.getElem_map, List.getElem_set]
    split
    · rename_i e; subst e; rw [h, lget_eq l h1]
    · rfl

theorem map_lset' {α β : Type} [Inhabited α] (f : α → β) {l : List α} {k : Nat} {x : α} {r : List β} (h : f x = f (lget l k)) (hl : l.map f = r) : (lset l k x).map f = r := (map_lset f l k x h).trans hl

theorem actions_tot (c : T_mcase_Codes) (hc : CdOk c) : Tot (L_mcase_Codes_actions c) (fun r => CdOk r.2 ∧ r.1.map projA = ACTS) := by
  unfold L_mcase_Codes_actions
  refine .eq rfl (.eq rfl (.eq rfl (.eq rfl (.eq rfl (.eq rfl (.eq rfl (.eq rfl (.eq rfl (.eq rfl (.eq rfl (.eq rfl (.eq rfl ?_))))))))))))
  refine .bind (Next_tot _ 2 hc (by omega)) fun y1 h1 => .eq rfl (.bind (Next_tot _ 256 h1.1 (by omega)) fun y2 h2 => .eq rfl (.eq rfl (.eq rfl ?_)))
  refine .bind (Bool_tot _ h2.1) fun y3 h3 => ?_
  refine .bind (P := fun m => m.map projA = ACTS) (.cond (fun _ => ?_) (fun _ => .ret rfl)) fun m1 hm1 => ?_
  · exact .idx (k := 2) rfl (by simp) (.eq rfl (.ret (map_lset' projA rfl rfl)))
  · refine .bind (Bool_tot _ h3) fun y4 h4 => .bind (P := fun m => m.map projA = ACTS) (.cond (fun _ => ?_) (fun _ => .ret hm1)) fun m2 hm2 => .ret ⟨h4, hm2⟩
    have hl : m1.length = 6 := by rw [← List.length_map (f := projA), hm1]; rfl
    exact .idx (k := 4) rfl (by omega) (.eq rfl (.ret (map_lset' projA rfl hm1)))

def kA : T_api_Key := { f_Name := ByteArray.mk #[97], f_Field := 4, f_Kind := 1 }
def kD : T_api_Key := { f_Name := ByteArray.mk #[100], f_Field := 7, f_Kind := 2 }
def kM : T_api_Key := { f_Name := ByteArray.mk #[109], f_Field := 3, f_Kind := 1 }
def kE : T_api_Key := { f_Name := ByteArray.mk #[101], f_Field := 6, f_Kind := 3 }
def kA3 : T_api_Key := { f_Name := ByteArray.mk #[97], f_Field := 4, f_Kind := 3 }
def kB : T_api_Key := { f_Name := ByteArray.mk #[98], f_Field := 5, f_Kind := 1 }
def kF : T_api_Key := { f_Name := ByteArray.mk #[102], f_Field := 8, f_Kind := 4 }
def kG : T_api_Key := { f_Name := ByteArray.mk #[103], f_Field := 9, f_Kind := 1 }
def projT (t : T_api_Table) : Int × List Int × List T_api_Key := (t.f_ID, t.f_Actions, t.f_Keys)
def keys2 (b : Bool) : List T_api_Key := if b then [kD, kM] else [kD]
def keys3 (b : Bool) : List T_api_Key := if b then [kE, kA3, kB] else [kE, kA3]
def keys4 (b : Bool) : List T_api_Key := if b then [kF, kG, kD] else [kF]
def TABS (b1 b2 b3 : Bool) : List (Int × List Int × List T_api_Key) :=
  [(1, [1, 2, 4], [kA]), (2, [1, 2, 3, 4], keys2 b1), (3, [1, 2, 3, 5, 6], keys3 b2), (4, [1, 3, 5], keys4 b3)]

theorem tables_tot (c : T_mcase_Codes) (hc : CdOk c) : Tot (L_mcase_Codes_tables c) (fun r => CdOk r.2 ∧ (∀ x ∈ r.1.map (·.f_Size), 2 ≤ x ∧ x ≤ 12) ∧ ∃ b1 b2 b3, r.1.map projT = TABS b1 b2 b3) := by
  unfold L_mcase_Codes_tables
  refine .eq rfl (.bind (Next_tot _ 2 hc (by omega)) fun y1 h1 => .bind (Next_tot _ 5 h1.1 (by omega)) fun y2 h2 => .eq rfl (.eq rfl ?_))
  refine .bind (Next_tot _ 6 h2.1 (by omega)) fun y3 h3 => .bind (Bool_tot _ h3.1) fun y4 h4 => ?_
  refine .bind (P := fun m => (m.1.f_ID = 2 ∧ m.1.f_Actions = [1, 2, 3, 4] ∧ m.1.f_Size = w64 (3 + y3.1)) ∧ ∃ b, m.2 = keys2 b) (.cond (fun _ => ?_) (fun _ => .ret ⟨⟨rfl, rfl, rfl⟩, false, rfl⟩)) fun m1 hm1 => ?_
  · exact .eq rfl (.eq (app_small _ _ (by simp) (by omega)) (.ret ⟨⟨rfl, rfl, rfl⟩, true, rfl⟩))
  refine .eq rfl (.eq rfl (.bind (Next_tot _ 6 h4 (by omega)) fun y5 h5 => .bind (Bool_tot _ h5.1) fun y6 h6 => ?_))
  refine .bind (P := fun m => (m.1.f_ID = 3 ∧ m.1.f_Actions = [1, 2, 3, 5, 6] ∧ m.1.f_Size = w64 (4 + y5.1)) ∧ ∃ b, m.2 = keys3 b) (.cond (fun _ => ?_) (fun _ => .ret ⟨⟨rfl, rfl, rfl⟩, false, rfl⟩)) fun m2 hm2 => ?_
  · exact .eq rfl (.eq (app_small _ _ (by simp) (by omega)) (.ret ⟨⟨rfl, rfl, rfl⟩, true, rfl⟩))
  refine .eq rfl (.bind (Next_tot _ 5 h6 (by omega)) fun y7 h7 => .bind (Bool_tot _ h7.1) fun y8 h8 => ?_)
  refine .bind (P := fun m => (m.1.f_ID = 4 ∧ m.1.f_Actions = [1, 3, 5] ∧ m.1.f_Size = w64 (3 + y7.1)) ∧ ∃ b, m.2 = keys4 b) (.cond (fun _ => ?_) (fun _ => .ret ⟨⟨rfl, rfl, rfl⟩, false, rfl⟩)) fun m3 hm3 => ?_
  · exact .eq rfl (.eq rfl (.eq (app_small _ _ (by simp) (by omega)) (.ret ⟨⟨rfl, rfl, rfl⟩, true, rfl⟩)))
  refine .eq rfl (.eq rfl (.eq rfl (.eq rfl (.eq rfl ?_))))
  obtain ⟨⟨a1, a2, a4⟩, b1, a3⟩ := hm1
  obtain ⟨⟨c1, c2, c4⟩, b2, c3⟩ := hm2
  obtain ⟨⟨d1, d2, d4⟩, b3, d3⟩ := hm3
  refine Tot.loop 4 (fun k s => s.1 = (k : Int) ∧ s.2.1.map projT = TABS b1 b2 b3 ∧ CdOk s.2.2 ∧ s.2.1.map (·.f_Size) = [w64 (2 + y2.1), w64 (3 + y3.1), w64 (4 + y5.1), w64 (3 + y7.1)]) (by omega) ⟨rfl, ?_, h8, ?_⟩ (fun k s hk hi => ?_) (fun s hi => ?_)
  · simp only [List.map_cons, List.map_nil, projT, a1, a2, a3, c1, c2, c3, d1, d2, d3, TABS]; rfl
  · simp only [List.map_cons, List.map_nil, a4, c4, d4]
  · obtain ⟨i, ts, cd⟩ := s; obtain ⟨e1, e2, e3, e4⟩ := hi
    simp only at e1 e2 e3 e4; subst e1
    refine Tot.cond (fun _ => ?_) (fun h => by simp at h; omega)
    have hl : ts.length = 4 := by rw [← List.length_map (f := projT), e2]; rfl
    refine .idx rfl (by simpa using hk) (.bind (Next_tot _ 3 e3 (by omega)) fun y9 h9 => .eq (idx_int h9.2.1 ?_) (.idx rfl (by simp only; omega) (.eq rfl (.ret ⟨w64_succ (by omega), ?_, h9.1, ?_⟩))))
    · have h10 := h9.2.2.1
      have : k = 0 ∨ k = 1 ∨ k = 2 ∨ k = 3 := by omega
      rcases this with rfl | rfl | rfl | rfl <;> exact h10
    · exact map_lset' projT rfl e2
    · exact map_lset' T_api_Table.f_Size rfl e4
  · obtain ⟨i, ts, cd⟩ := s; obtain ⟨e1, e2, e3, e4⟩ := hi
    simp only at e1 e2 e3 e4; subst e1
    refine ⟨_, rfl, ?_⟩
    refine .ret ⟨e3, fun x hx => ?_, b1, b2, b3, e2⟩
    rw [e4] at hx
    have g2 := h2.2; have g3 := h3.2; have g5 := h5.2; have g7 := h7.2
    simp only [List.mem_cons, List.not_mem_nil, or_false] at hx
    rcases hx with rfl | rfl | rfl | rfl <;> (rw [w64_in (by omega) (by omega)]; omega)

theorem mk_bool (n : Nat) (h : n ≤ 1000) : mkM (α := Bool) 1 (n : Int) = some (List.replicate n default) := by
  unfold mkM; rw [if_pos ⟨by omega, by omega, by omega⟩]; simp

theorem roles_tot (c : T_mcase_Codes) (ts : List T_api_Table) (hc : CdOk c) (hl : ts.length ≤ 1000) (hk : ∀ t ∈ ts, t.f_Keys.length ≤ 1000) : Tot (L_mcase_Codes_roles c ts) (fun r => CdOk r.2 ∧ r.1.map (·.f_ID) = [1, 2, 7]) := by
  unfold L_mcase_Codes_roles
  refine .bind (Next_tot _ 3 hc (by omega)) fun y1 h1 => .bind (Next_tot _ 6 h1.1 (by omega)) fun y2 h2 => .bind (Next_tot _ 6 h2.1 (by omega)) fun y3 h3 => .bind (Next_tot _ 4 h3.1 (by omega)) fun y4 h4 => ?_
  refine Tot.loop ts.length (fun k s => s.1 = (k : Int) ∧ CdOk s.2.2.2.1 ∧ s.2.2.1.length ≤ k ∧ s.2.2.2.2.2.1.length ≤ k ∧ s.2.2.2.2.2.2.2.length ≤ k ∧ s.2.1.f_ID = 7 ∧ s.2.2.2.2.1.f_ID = 2 ∧ s.2.2.2.2.2.2.1.f_ID = 1) (by omega) ⟨rfl, h4.1, by simp, by simp, by simp, rfl, rfl, rfl⟩ (fun k s hkk hi => ?_) (fun s hi => ?_)
  · obtain ⟨i, r1, g1, cd, r2, g2, r3, g3⟩ := s; obtain ⟨e1, e2, e3, e4, e5, i1, i2, i3⟩ := hi
    simp only at e1 e2 e3 e4 e5 i1 i2 i3; subst e1
    refine Tot.cond (fun _ => ?_) (fun h => by simp at h; omega)
    have hkk2 : (lget ts k).f_Keys.length ≤ 1000 := hk _ (by rw [lget_eq ts hkk]; exact List.getElem_mem hkk)
    refine .idx rfl hkk (.eq (mk_bool _ hkk2) (.eq (mk_bool _ hkk2) ?_))
    refine Tot.loop (lget ts k).f_Keys.length (fun j s => s.1 = (j : Int) ∧ s.2.1.length = (lget ts k).f_Keys.length ∧ s.2.2.1.length = (lget ts k).f_Keys.length ∧ CdOk s.2.2.2) (by omega) ⟨rfl, by simp, by simp, e2⟩ (fun j s hj hi => ?_) (fun s hi => ?_)
    · obtain ⟨i, b1, b2, cd2⟩ := s; obtain ⟨f1, f2, f3, f4⟩ := hi
      simp only at f1 f2 f3 f4; subst f1
      refine Tot.cond (fun _ => ?_) (fun h => by simp at h; omega)
      exact .bind (Next_tot _ 4 f4 (by omega)) fun y7 h7 => .idx rfl (by simp only; omega) (.idx rfl (by simp only; omega) (.ret ⟨w64_succ (by omega), by simp [lset, f2], by simp [lset, f3], h7.1⟩))
    · obtain ⟨i, b1, b2, cd2⟩ := s; obtain ⟨f1, f2, f3, f4⟩ := hi
      simp only at f1 f2 f3 f4; subst f1
      refine ⟨_, by simp; rfl, ?_⟩
      refine .eq rfl (.eq (app_small _ _ (by simp; omega) (by omega)) (.bind (Next_tot _ 4 f4 (by omega)) fun y9 h9 => ?_))
      refine .bind (P := fun m => CdOk m.1 ∧ m.2.2.length ≤ k + 1 ∧ m.2.1.f_ID = 2) (.cond (fun _ => ?_) (fun _ => .ret ⟨h9.1, by simp only; omega, i2⟩)) fun m1 hm1 => ?_
      · exact .bind (Next_tot _ 4 h9.1 (by omega)) fun y14 h14 => .bind (Bool_tot _ h14.1) fun y15 h15 => .eq rfl (.eq (app_small _ _ (by simp; omega) (by omega)) (.ret ⟨h15, by simp; omega, i2⟩))
      refine .bind (Bool_tot _ hm1.1) fun y10 h10 => ?_
      refine .bind (P := fun m => CdOk m.1 ∧ m.2.2.length ≤ k + 1 ∧ m.2.1.f_ID = 7) (.cond (fun _ => ?_) (fun _ => .ret ⟨h10, by simp only; omega, i1⟩)) fun m2 hm2 => ?_
      · exact .bind (Bool_tot _ h10) fun y11 h11 => .bind (Bool_tot _ h11) fun y12 h12 => .eq rfl (.eq (app_small _ _ (by simp; omega) (by omega)) (.ret ⟨h12, by simp; omega, i1⟩))
      exact .ret ⟨w64_succ (by omega), hm2.1, hm2.2.1, hm1.2.1, by simp; omega, hm2.2.2, hm1.2.2, i3⟩
  · obtain ⟨i, r1, g1, cd, r2, g2, r3, g3⟩ := s; obtain ⟨e1, e2, e3, e4, e5, i1, i2, i3⟩ := hi
    simp only at e1 e2 e3 e4 e5 i1 i2 i3; subst e1
    refine ⟨_, by simp; rfl, ?_⟩
    exact .eq rfl (.eq rfl (.ret ⟨e2, by simp only [List.map_cons, List.map_nil, i1, i2, i3]⟩))

def FLDS : List (Int × Int) := [(1, 16), (2, 16), (3, 8), (4, 4), (5, 4), (6, 8), (7, 32), (8, 12), (9, 4)]
def projF (f : T_api_Field) : Int × Int := (f.f_ID, f.f_Bits)

/-- a schema of the laws' cases -/
structure SchOk (s : T_api_Schema) : Prop where
  fields : s.f_Fields.map projF = FLDS
  headers : s.f_Headers.length = 3
  states : s.f_States.length = 3
  actions : s.f_Actions.map projA = ACTS
  tables : ∃ b1 b2 b3, s.f_Tables.map projT = TABS b1 b2 b3
  roles : s.f_Roles.map (·.f_ID) = [1, 2, 7]
  sizes : ∀ x ∈ s.f_Tables.map (·.f_Size), 2 ≤ x ∧ x ≤ 12

theorem SchOk.rlen {s : T_api_Schema} (h : SchOk s) : s.f_Roles.length = 3 := by rw [← List.length_map (f := (·.f_ID)), h.roles]; rfl

theorem SchOk.flen {s : T_api_Schema} (h : SchOk s) : s.f_Fields.length = 9 := by rw [← List.length_map (f := projF), h.fields]; rfl
theorem SchOk.tlen {s : T_api_Schema} (h : SchOk s) : s.f_Tables.length = 4 := by obtain ⟨b1, b2, b3, h1⟩ := h.tables; rw [← List.length_map (f := projT), h1]; rfl
theorem SchOk.alen {s : T_api_Schema} (h : SchOk s) : s.f_Actions.length = 6 := by rw [← List.length_map (f := projA), h.actions]; rfl

theorem Schema_tot (c : T_mcase_Codes) (hc : CdOk c) : Tot (L_mcase_Codes_Schema c) (fun r => SchOk r.1 ∧ CdOk r.2) := by
  unfold L_mcase_Codes_Schema
  refine .bind (Next_tot _ 8 hc (by omega)) fun y1 h1 => .bind (Next_tot _ 30 h1.1 (by omega)) fun y2 h2 => ?_
  refine .eq rfl (.eq rfl (.eq rfl (.eq rfl (.eq rfl (.eq rfl (.eq rfl (.eq rfl (.eq rfl (.eq rfl (.eq rfl (.eq rfl ?_)))))))))))
  refine .bind (states_tot _ h2.1) fun y3 h3 => .bind (actions_tot _ h3.1) fun y4 h4 => .bind (tables_tot _ h4.1) fun y5 h5 => .eq rfl (.eq rfl ?_)
  obtain ⟨h5c, hsz, b1, b2, b3, h5⟩ := h5
  have hl : y5.1.length = 4 := by rw [← List.length_map (f := projT), h5]; rfl
  have hkeys : ∀ t ∈ y5.1, t.f_Keys.length ≤ 1000 := fun t ht => by
    have h6 : projT t ∈ TABS b1 b2 b3 := h5 ▸ List.mem_map_of_mem ht
    have h7 : ∀ p ∈ TABS b1 b2 b3, p.2.2.length ≤ 1000 := by
      intro p hp
      simp only [TABS, List.mem_cons, List.not_mem_nil, or_false] at hp
      rcases hp with rfl | rfl | rfl | rfl
      · simp
      · cases b1 <;> simp [keys2]
      · cases b2 <;> simp [keys3]
      · cases b3 <;> simp [keys4]
    exact h7 _ h6
  refine .bind (roles_tot _ _ h5c (by simp only; omega) hkeys) fun y6 h6 => .eq rfl (.bind (Bool_tot _ h6.1) fun y7 h7 => ?_)
  let Inv (s : T_api_Schema) : Prop := s.f_Fields.map projF = FLDS ∧ s.f_Headers.length = 3 ∧ s.f_States.length = 3 ∧ s.f_Actions.map projA = ACTS ∧ s.f_Tables = y5.1 ∧ s.f_Roles.map (·.f_ID) = [1, 2, 7]
  have hinv : ∀ (st : List T_api_Stage) (rf : List T_api_Ref) (s : T_api_Schema), Inv s → Inv { s with f_Stages := st, f_Refs := rf } := fun st rf s h => h
  refine .bind (P := fun _ => True) (.cond (fun _ => .eq (app_small _ _ (by simp) (by omega)) (.ret trivial)) (fun _ => .ret trivial)) fun m1 _ => ?_
  refine .bind (Bool_tot _ h7) fun y8 h8 => ?_
  refine .bind (P := fun m => Inv m.1 ∧ m.2.length ≤ 10) (.cond (fun _ => .eq rfl (.eq (app_small _ _ (by simp) (by omega)) (.ret ⟨⟨rfl, rfl, h3.2, h4.2, rfl, h6.2⟩, by simp⟩))) (fun _ => .ret ⟨⟨rfl, rfl, h3.2, h4.2, rfl, h6.2⟩, by simp⟩)) fun m2 hm2 => ?_
  refine .bind (Bool_tot _ h8) fun y9 h9 => ?_
  refine .condM (P := fun _ => True) (fun _ => ⟨2, idx_nat (k := 2) (by rw [hm2.1.2.2.2.2.1]; omega), trivial⟩) fun k1 _ => ?_
  refine .bind (P := fun m => Inv m.1 ∧ m.2.length ≤ 11) (.cond (fun _ => .eq rfl (.eq (app_small _ _ (by have := hm2.2; simp; omega) (by omega)) (.ret ⟨hm2.1, by have := hm2.2; simp; omega⟩))) (fun _ => .ret ⟨hm2.1, by have := hm2.2; simp only; omega⟩)) fun m3 hm3 => ?_
  refine .bind (Bool_tot _ h9) fun y10 h10 => ?_
  refine .condM (P := fun _ => True) (fun _ => ⟨3, idx_nat (k := 3) (by rw [hm3.1.2.2.2.2.1]; omega), trivial⟩) fun k2 _ => ?_
  refine .bind (P := fun m => Inv m.1 ∧ m.2.length ≤ 13) (.cond (fun _ => .eq rfl (.eq rfl (.eq (app_small _ _ (by have := hm3.2; simp; omega) (by omega)) (.ret ⟨hm3.1, by have := hm3.2; simp; omega⟩)))) (fun _ => .ret ⟨hm3.1, by have := hm3.2; simp only; omega⟩)) fun m4 hm4 => ?_
  obtain ⟨⟨i1, i2, i3, i4, i5, i6⟩, _⟩ := hm4
  exact .eq rfl (.ret ⟨⟨i1, i2, i3, i4, ⟨b1, b2, b3, by simp only [i5]; exact h5⟩, i6, by simp only [i5]; exact hsz⟩, h10⟩)

theorem SchOk.size {s : T_api_Schema} (h : SchOk s) {k : Nat} (hk : k < 4) : 2 ≤ (lget s.f_Tables k).f_Size ∧ (lget s.f_Tables k).f_Size ≤ 12 := by
  have hl := h.tlen
  exact h.sizes _ (List.mem_map.2 ⟨_, by rw [lget_eq _ (by omega)]; exact List.getElem_mem _, rfl⟩)
theorem Mod_tot (x : Int) (n : Int) (h1 : 1 ≤ n) (h2 : n ≤ 1000000) : Tot (L_mcase_Mod x n) (fun r => 0 ≤ r ∧ r < n) := by
  unfold L_mcase_Mod
  refine .cond (fun h => by simp at h; omega) fun _ => ?_
  have hm : ∀ y : Int, modM y n = some (y.tmod n) := fun y => by unfold modM; rw [if_neg (by omega)]
  refine .eq (hm _) ?_
  have h3 := Int.tmod_lt_of_pos x (show 0 < n by omega)
  have h4 : -n < x.tmod n := by
    have := Int.tmod_lt_of_pos (-x) (show 0 < n by omega)
    rw [Int.neg_tmod] at this; omega
  rw [w64_in (by omega) (by omega)]
  exact .eq (hm _) (.ret ⟨Int.tmod_nonneg _ (by omega), Int.tmod_lt_of_pos _ (by omega)⟩)
end Go.Proofs.Ytmlgdkccoomiaaa

namespace Go.Proofs.Ytmlgdkccoomiaaa
open Go Gv
set_option linter.unusedVariables false
set_option linter.unusedSimpArgs false

/-- a bit of a value -/
def vb (v : T_api_Value) (i : Nat) : Bool := if i < 64 then v.f_Lo.getLsbD i else v.f_Hi.getLsbD (i - 64)
theorem vb_ext {v w : T_api_Value} (h : ∀ j, j < 128 → vb v j = vb w j) : v = w := by
  cases v with | mk vh vl => cases w with | mk wh wl =>
  have h1 : vh = wh := by
    apply BitVec.eq_of_getLsbD_eq
    intro i hi
    have := h (i + 64) (by omega)
    simpa [vb, show ¬ (i + 64 < 64) by omega] using this
  have h2 : vl = wl := by
    apply BitVec.eq_of_getLsbD_eq
    intro i hi
    have := h i (by omega)
    simpa [vb, hi] using this
  rw [h1, h2]
theorem vb_zero (j : Nat) : vb default j = false := by
  unfold vb; split <;> exact BitVec.getLsbD_zero
def band (x y : T_api_Value) : T_api_Value := { f_Hi := x.f_Hi &&& y.f_Hi, f_Lo := x.f_Lo &&& y.f_Lo }
def bor (x y : T_api_Value) : T_api_Value := { f_Hi := x.f_Hi ||| y.f_Hi, f_Lo := x.f_Lo ||| y.f_Lo }
def bxor (x y : T_api_Value) : T_api_Value := { f_Hi := x.f_Hi ^^^ y.f_Hi, f_Lo := x.f_Lo ^^^ y.f_Lo }
@[simp] theorem vb_band (x y : T_api_Value) (j : Nat) : vb (band x y) j = (vb x j && vb y j) := by unfold vb band; split <;> simp
@[simp] theorem vb_bor (x y : T_api_Value) (j : Nat) : vb (bor x y) j = (vb x j || vb y j) := by unfold vb bor; split <;> simp
@[simp] theorem vb_bxor (x y : T_api_Value) (j : Nat) : vb (bxor x y) j = (vb x j ^^ vb y j) := by unfold vb bxor; split <;> simp
theorem and_eq (x y : T_api_Value) : L_value_And x y = some (band x y) := rfl
theorem Read_eq (x : T_api_Value) : Tot (L_ref01_Read x) (fun r => ∀ j, j < 128 → vget r j = vb x j) := by
  unfold L_ref01_Read
  refine Tot.loop 64 (fun k s => s.1 = k ∧ ∀ j, j < 128 → vget s.2 j = (decide (j % 64 < k) && vb x j)) (by omega)
    ⟨rfl, fun j hj => by simp [vget_default]⟩ (fun k s hk hi => ?_) (fun s hi => ?_)
  · obtain ⟨i, v⟩ := s; obtain ⟨h1, h2⟩ := hi
    simp only at h1 h2; subst h1
    have e1 : w64 ((k : Int) + 64) = ((k + 64 : Nat) : Int) := by rw [w64_in (by omega) (by omega)]; simp
    refine Tot.cond (fun _ => ?_) (fun h => by simp at h; omega)
    refine Tot.idx rfl (show k < 128 by omega) (.eq rfl (.idx e1 (show k + 64 < 128 by omega) (.eq rfl (.ret ⟨w64_succ (by omega), fun j hj => ?_⟩))))
    simp only [vget_vset _ _ (show k < 128 by omega), vget_vset _ _ (show k + 64 < 128 by omega), cnt_nat (show k < 2 ^ 64 by omega), bit_test, h2 j hj]
    by_cases hj1 : j = k + 64
    · subst hj1
      have h1 : (k + 64) % 64 < k + 1 := by omega
      have h2 : ¬ (k + 64 < 64) := by omega
      simp only [vb, h1, h2, if_true, if_false, decide_true, Bool.true_and, Nat.add_sub_cancel]
    · by_cases hj2 : j = k
      · subst hj2
        have : j % 64 < j + 1 := by omega
        simp [vb, this, hk]
      · rw [if_neg hj1, if_neg hj2]
        congr 1
        rw [decide_eq_decide]; omega
  · obtain ⟨i, v⟩ := s; obtain ⟨h1, h2⟩ := hi
    simp only at h1 h2; subst h1
    refine ⟨_, rfl, .ret fun j hj => ?_⟩
    have : j % 64 < 64 := by omega
    simp [h2 j hj, this]

end Go.Proofs.Ytmlgdkccoomiaaa

namespace Go.Proofs.Ytmlgdkccoomiaaa
open Go Gv
set_option linter.unusedVariables false
set_option linter.unusedSimpArgs false

/-- a word of 512 bits, the first bit first -/
def cv (w : Vector T_api_Value 4) (i : Nat) : Bool := vb (vget w (i / 128)) (127 - i % 128)
/-- a place of a cube: 2 free, else the bit that is asked for -/
def cell (val mask : Vector T_api_Value 4) (i : Nat) : BitVec 8 := if cv mask i then (if cv val i then 1#8 else 0#8) else 2#8
end Go.Proofs.Ytmlgdkccoomiaaa

namespace Go.Proofs.Ytmlgdkccoomiaaa
open Go Gv
set_option linter.unusedVariables false
set_option linter.unusedSimpArgs false
set_option maxRecDepth 100000

end Go.Proofs.Ytmlgdkccoomiaaa

namespace Go.Proofs.Ytmlgdkccoomiaaa
open Go Gv
set_option linter.unusedVariables false
set_option linter.unusedSimpArgs false
set_option maxRecDepth 100000

/-- a number out of its digits to the base 2 ^ w -/
def val (w : Nat) : Nat → (Nat → Nat) → Nat
  | 0, _ => 0
  | n + 1, d => d 0 + 2 ^ w * val w n (fun k => d (k + 1))

/-- how many of the first n are true -/
def cnt (n : Nat) (p : Nat → Bool) : Nat := val 0 n (fun i => (p i).toNat)
end Go.Proofs.Ytmlgdkccoomiaaa

namespace Go.Proofs.Ytmlgdkccoomiaaa
open Go Gv
set_option linter.unusedVariables false
set_option linter.unusedSimpArgs false
set_option maxRecDepth 100000

end Go.Proofs.Ytmlgdkccoomiaaa

namespace Go.Proofs.Ytmlgdkccoomiaaa
open Go Gv
set_option linter.unusedVariables false
set_option linter.unusedSimpArgs false
set_option maxRecDepth 100000

end Go.Proofs.Ytmlgdkccoomiaaa

namespace Go.Proofs.Ytmlgdkccoomiaaa
open Go Gv
set_option linter.unusedVariables false
set_option linter.unusedSimpArgs false
set_option maxRecDepth 100000

end Go.Proofs.Ytmlgdkccoomiaaa

namespace Go.Proofs.Ytmlgdkccoomiaaa
open Go Gv
set_option linter.unusedVariables false
set_option linter.unusedSimpArgs false
set_option maxRecDepth 100000

def BITS : List Int := [16, 16, 8, 4, 4, 8, 32, 12, 4]
theorem SchOk.fld {s : T_api_Schema} (h : SchOk s) {k : Nat} (hk : k < 9) : (lget s.f_Fields k).f_ID = (k : Int) + 1 ∧ (lget s.f_Fields k).f_Bits = lget BITS k := by
  have h1 := lget_map projF (l := s.f_Fields) (k := k) (by rw [h.flen]; exact hk)
  rw [h.fields] at h1
  have h2 : lget FLDS k = ((k : Int) + 1, lget BITS k) := by
    have : k = 0 ∨ k = 1 ∨ k = 2 ∨ k = 3 ∨ k = 4 ∨ k = 5 ∨ k = 6 ∨ k = 7 ∨ k = 8 := by omega
    rcases this with rfl | rfl | rfl | rfl | rfl | rfl | rfl | rfl | rfl <;> rfl
  rw [h2] at h1
  simp only [projF, Prod.mk.injEq] at h1
  exact ⟨h1.1.symm, h1.2.symm⟩
def PARS : List (List Int) := [[], [], [16], [4], [4, 12], []]
theorem SchOk.act {s : T_api_Schema} (h : SchOk s) {k : Nat} (hk : k < 6) : (lget s.f_Actions k).f_ID = (k : Int) + 1 ∧ (lget s.f_Actions k).f_Params.map (·.f_Bits) = lget PARS k := by
  have h1 := lget_map projA (l := s.f_Actions) (k := k) (by rw [h.alen]; exact hk)
  rw [h.actions] at h1
  have h2 : lget ACTS k = ((k : Int) + 1, lget PARS k) := by
    have : k = 0 ∨ k = 1 ∨ k = 2 ∨ k = 3 ∨ k = 4 ∨ k = 5 := by omega
    rcases this with rfl | rfl | rfl | rfl | rfl | rfl <;> rfl
  rw [h2] at h1
  simp only [projA, Prod.mk.injEq] at h1
  exact ⟨h1.1.symm, h1.2.symm⟩

/-- a key of the cases: its field, its kind -/
def KeyOk (key : T_api_Key) : Prop := ∃ j : Nat, j < 9 ∧ key.f_Field = (j : Int) + 1 ∧ 1 ≤ key.f_Kind ∧ key.f_Kind ≤ 4 ∧ 4 ≤ lget BITS j ∧ lget BITS j ≤ 32 ∧ (key.f_Kind = 2 → j = 6)
/-- the bits of a key's field -/
def kb (key : T_api_Key) : Int := lget BITS (key.f_Field - 1).toNat
theorem SchOk.tab {s : T_api_Schema} (h : SchOk s) {k : Nat} (hk : k < 4) : (lget s.f_Tables k).f_ID = (k : Int) + 1 ∧
    (1 ≤ (lget s.f_Tables k).f_Keys.length ∧ (lget s.f_Tables k).f_Keys.length ≤ 3) ∧ (∀ key ∈ (lget s.f_Tables k).f_Keys, KeyOk key) ∧
    (1 ≤ (lget s.f_Tables k).f_Actions.length ∧ (lget s.f_Tables k).f_Actions.length ≤ 5) ∧ (∀ a ∈ (lget s.f_Tables k).f_Actions, 1 ≤ a ∧ a ≤ 6) := by
  obtain ⟨b1, b2, b3, ht⟩ := h.tables
  have h1 := lget_map projT (l := s.f_Tables) (k := k) (by rw [h.tlen]; exact hk)
  rw [ht] at h1
  have h2 : ∀ p : Int × List Int × List T_api_Key, p = projT (lget s.f_Tables k) → p.1 = (k : Int) + 1 → (1 ≤ p.2.2.length ∧ p.2.2.length ≤ 3) → (∀ key ∈ p.2.2, KeyOk key) →
      (1 ≤ p.2.1.length ∧ p.2.1.length ≤ 5) → (∀ a ∈ p.2.1, 1 ≤ a ∧ a ≤ 6) → (lget s.f_Tables k).f_ID = (k : Int) + 1 ∧
    (1 ≤ (lget s.f_Tables k).f_Keys.length ∧ (lget s.f_Tables k).f_Keys.length ≤ 3) ∧ (∀ key ∈ (lget s.f_Tables k).f_Keys, KeyOk key) ∧
    (1 ≤ (lget s.f_Tables k).f_Actions.length ∧ (lget s.f_Tables k).f_Actions.length ≤ 5) ∧ (∀ a ∈ (lget s.f_Tables k).f_Actions, 1 ≤ a ∧ a ≤ 6) := by
    rintro p rfl a b c d e
    exact ⟨a, b, c, d, e⟩
  have a0 : (1 ≤ ([1, 2, 4] : List Int).length ∧ ([1, 2, 4] : List Int).length ≤ 5) ∧ ∀ a ∈ ([1, 2, 4] : List Int), 1 ≤ a ∧ a ≤ 6 := by decide
  have a1 : (1 ≤ ([1, 2, 3, 4] : List Int).length ∧ ([1, 2, 3, 4] : List Int).length ≤ 5) ∧ ∀ a ∈ ([1, 2, 3, 4] : List Int), 1 ≤ a ∧ a ≤ 6 := by decide
  have a2 : (1 ≤ ([1, 2, 3, 5, 6] : List Int).length ∧ ([1, 2, 3, 5, 6] : List Int).length ≤ 5) ∧ ∀ a ∈ ([1, 2, 3, 5, 6] : List Int), 1 ≤ a ∧ a ≤ 6 := by decide
  have a3 : (1 ≤ ([1, 3, 5] : List Int).length ∧ ([1, 3, 5] : List Int).length ≤ 5) ∧ ∀ a ∈ ([1, 3, 5] : List Int), 1 ≤ a ∧ a ≤ 6 := by decide
  have kA_ok : KeyOk kA := ⟨3, by decide, rfl, by decide, by decide, by decide, by decide, by decide⟩
  have kA3_ok : KeyOk kA3 := ⟨3, by decide, rfl, by decide, by decide, by decide, by decide, by decide⟩
  have kB_ok : KeyOk kB := ⟨4, by decide, rfl, by decide, by decide, by decide, by decide, by decide⟩
  have kD_ok : KeyOk kD := ⟨6, by decide, rfl, by decide, by decide, by decide, by decide, by decide⟩
  have kM_ok : KeyOk kM := ⟨2, by decide, rfl, by decide, by decide, by decide, by decide, by decide⟩
  have kE_ok : KeyOk kE := ⟨5, by decide, rfl, by decide, by decide, by decide, by decide, by decide⟩
  have kF_ok : KeyOk kF := ⟨7, by decide, rfl, by decide, by decide, by decide, by decide, by decide⟩
  have kG_ok : KeyOk kG := ⟨8, by decide, rfl, by decide, by decide, by decide, by decide, by decide⟩
  have : k = 0 ∨ k = 1 ∨ k = 2 ∨ k = 3 := by omega
  rcases this with rfl | rfl | rfl | rfl
  · refine h2 _ h1 rfl (show 1 ≤ [kA].length ∧ [kA].length ≤ 3 by decide) ?_ a0.1 a0.2
    intro key hkey
    rcases List.mem_singleton.1 hkey with rfl
    exact kA_ok
  · refine h2 _ h1 rfl ?_ ?_ a1.1 a1.2
    · show 1 ≤ (keys2 b1).length ∧ (keys2 b1).length ≤ 3
      cases b1 <;> decide
    · intro key hkey
      replace hkey : key ∈ keys2 b1 := hkey
      cases b1 <;> simp only [keys2, List.mem_cons, List.not_mem_nil, or_false, if_true, if_false, Bool.false_eq_true] at hkey
      · subst hkey; exact kD_ok
      · rcases hkey with rfl | rfl; exact kD_ok; exact kM_ok
  · refine h2 _ h1 rfl ?_ ?_ a2.1 a2.2
    · show 1 ≤ (keys3 b2).length ∧ (keys3 b2).length ≤ 3
      cases b2 <;> decide
    · intro key hkey
      replace hkey : key ∈ keys3 b2 := hkey
      cases b2 <;> simp only [keys3, List.mem_cons, List.not_mem_nil, or_false, if_true, if_false, Bool.false_eq_true] at hkey
      · rcases hkey with rfl | rfl; exact kE_ok; exact kA3_ok
      · rcases hkey with rfl | rfl | rfl; exact kE_ok; exact kA3_ok; exact kB_ok
  · refine h2 _ h1 rfl ?_ ?_ a3.1 a3.2
    · show 1 ≤ (keys4 b3).length ∧ (keys4 b3).length ≤ 3
      cases b3 <;> decide
    · intro key hkey
      replace hkey : key ∈ keys4 b3 := hkey
      cases b3 <;> simp only [keys4, List.mem_cons, List.not_mem_nil, or_false, if_true, if_false, Bool.false_eq_true] at hkey
      · subst hkey; exact kF_ok
      · rcases hkey with rfl | rfl | rfl; exact kF_ok; exact kG_ok; exact kD_ok

theorem mbitsOf_ok {s : T_api_Schema} (h : SchOk s) {j : Nat} (hj : j < 9) : Tot (L_mcase_bitsOf s ((j : Int) + 1)) (fun r => r = lget BITS j) := by
  unfold L_mcase_bitsOf
  have hl := h.flen
  refine Tot.loop j (fun k s => s = (k : Int)) (by omega) rfl (fun k i hk hi => ?_) (fun i hi => ?_)
  · subst hi
    refine Tot.cond (fun _ => ?_) (fun h => by simp at h; omega)
    refine .idx rfl (by omega) (.cond (fun hc => ?_) (fun hc => .ret (w64_succ (by omega))))
    have := (h.fld (show k < 9 by omega)).1
    simp only [this, beq_iff_eq] at hc
    omega
  · subst hi
    have h1 : decide ((j : Int) < (s.f_Fields.length : Int)) = true := by simp; omega
    have h2 : ((lget s.f_Fields j).f_ID == (j : Int) + 1) = true := by rw [(h.fld hj).1]; simp
    rw [h1]
    simp only [cond_true]
    rw [idx_nat (by omega)]
    simp only [Option.bind_some, h2, cond_true]
    exact ⟨_, rfl, .ret (h.fld hj).2⟩

theorem ActionIn_ok {s : T_api_Schema} (h : SchOk s) {j : Nat} (hj : j < 6) : Tot (L_mcase_ActionIn s ((j : Int) + 1)) (fun r => r = lget s.f_Actions j) := by
  unfold L_mcase_ActionIn
  have hl := h.alen
  refine Tot.loop j (fun k s => s = (k : Int)) (by omega) rfl (fun k i hk hi => ?_) (fun i hi => ?_)
  · subst hi
    refine Tot.cond (fun _ => ?_) (fun h => by simp at h; omega)
    refine .idx rfl (by omega) (.cond (fun hc => ?_) (fun hc => .ret (w64_succ (by omega))))
    have := (h.act (show k < 6 by omega)).1
    simp only [this, beq_iff_eq] at hc
    omega
  · subst hi
    have h1 : decide ((j : Int) < (s.f_Actions.length : Int)) = true := by simp; omega
    have h2 : ((lget s.f_Actions j).f_ID == (j : Int) + 1) = true := by rw [(h.act hj).1]; simp
    rw [h1]
    simp only [cond_true]
    rw [idx_nat (by omega)]
    simp only [Option.bind_some, h2, cond_true]
    exact ⟨_, rfl, .ret rfl⟩

theorem low_bits {n : Nat} (hn : n < 64) (j : Nat) : (((1#64) <<< n) - 1#64).getLsbD j = decide (j < n) := by
  have h1 : (((1#64) <<< n) - 1#64).toNat = 2 ^ n - 1 := by
    have h2 : ((1#64) <<< n).toNat = 2 ^ n := by
      rw [BitVec.toNat_shiftLeft, BitVec.toNat_ofNat, Nat.shiftLeft_eq]
      have := Nat.pow_lt_pow_right (show 1 < 2 by omega) hn
      rw [show (1 % 2 ^ 64 : Nat) = 1 from rfl, Nat.one_mul]
      exact Nat.mod_eq_of_lt this
    have h3 : 1 ≤ 2 ^ n := Nat.one_le_two_pow
    have h4 := Nat.pow_lt_pow_right (show 1 < 2 by omega) hn
    rw [BitVec.toNat_sub, h2]
    simp only [BitVec.toNat_ofNat]
    omega
  rw [← BitVec.testBit_toNat, h1, Nat.testBit_two_pow_sub_one]

theorem Low_vb (x : T_api_Value) (n : Int) (h0 : 0 ≤ n) (h1 : n < 1000) : Tot (L_mcase_Low x n) (fun r => ∀ j, j < 128 → vb r j = (vb x j && decide ((j : Int) < n))) := by
  unfold L_mcase_Low
  obtain ⟨m, rfl⟩ := Int.eq_ofNat_of_zero_le h0
  refine .cond (fun h => .ret fun j hj => ?_) fun h => .cond (fun h' => .eq rfl (.ret fun j hj => ?_)) fun h' => .cond (fun h'' => .ret fun j hj => ?_) fun h'' => .eq rfl (.eq rfl (.ret fun j hj => ?_))
  · simp only [decide_eq_true_eq] at h
    have : decide ((j : Int) < (m : Int)) = true := by simp; omega
    rw [this, Bool.and_true]
  · simp only [decide_eq_true_eq, decide_eq_false_iff_not] at h h'
    have e : w64 ((m : Int) - 64) = ((m - 64 : Nat) : Int) := by rw [w64_in (by omega) (by omega)]; omega
    simp only [vb, e, cnt_nat (show m - 64 < 2 ^ 64 by omega), BitVec.getLsbD_and, low_bits (show m - 64 < 64 by omega)]
    split
    · have : decide ((j : Int) < (m : Int)) = true := by simp; omega
      rw [this, Bool.and_true]
    · congr 1; rw [decide_eq_decide]; omega
  · simp only [decide_eq_true_eq] at h''
    have : decide ((j : Int) < (m : Int)) = false := by simp; omega
    rw [vb_zero, this, Bool.and_false]
  · simp only [decide_eq_true_eq, decide_eq_false_iff_not] at h h' h''
    simp only [vb, cnt_nat (show m < 2 ^ 64 by omega), BitVec.getLsbD_and, low_bits (show m < 64 by omega)]
    split
    · congr 1; rw [decide_eq_decide]; omega
    · have : decide ((j : Int) < (m : Int)) = false := by simp; omega
      rw [this, Bool.and_false]; exact BitVec.getLsbD_zero

/-- the low word alone -/
theorem vb_lo (w : BitVec 64) (j : Nat) : vb { (default : T_api_Value) with f_Lo := w } j = w.getLsbD j := by
  unfold vb
  split
  · rfl
  · rw [BitVec.getLsbD_of_ge w j (by omega)]; exact BitVec.getLsbD_zero

/-- a match of the cases -/
structure MatOk (kind b : Int) (m : T_api_Match) : Prop where
  off : m.f_Present = false → m = default
  exa : kind = 1 → m.f_Present = true
  low : kind = 1 → ∀ j, j < 128 → vb m.f_Value j = true → (j : Int) < b
  mlo : kind = 3 → ∀ j, j < 128 → vb m.f_Mask j = true → (j : Int) < b
  ter : kind = 3 → ∀ j, j < 128 → vb m.f_Value j = true → vb m.f_Mask j = true
  pre : 0 ≤ m.f_Prefix ∧ m.f_Prefix ≤ 32
  pr2 : kind = 2 → m.f_Present = true → 1 ≤ m.f_Prefix
  pr0 : kind ≠ 2 → m.f_Prefix = 0
  msk : kind ≠ 3 → m.f_Mask = default
  mnz : kind = 3 → m.f_Present = true → m.f_Mask ≠ default
  hi4 : kind = 4 → m.f_Present = true → m.f_Value.f_Hi = m.f_High.f_Hi ∧ m.f_Value.f_Lo ≤ m.f_High.f_Lo
  lpm : kind = 2 → ∀ j, j < 128 → vb m.f_Value j = true → 32 - m.f_Prefix ≤ (j : Int) ∧ j < 32
  hig : kind ≠ 4 → m.f_High = default

theorem pre0 : (0 : Int) ≤ 0 ∧ (0 : Int) ≤ 32 := ⟨Int.le_refl 0, by decide⟩
theorem MatOk_def {kind b : Int} (h : kind ≠ 1) : MatOk kind b default :=
  ⟨fun _ => rfl, fun k => absurd k h, fun k => absurd k h, fun _ j _ hv => (by rw [show (default : T_api_Match).f_Mask = default from rfl, vb_zero] at hv; cases hv),
   fun _ j _ hv => (by rw [show (default : T_api_Match).f_Value = default from rfl, vb_zero] at hv; cases hv),
   pre0, fun _ k => (by cases k), fun _ => rfl, fun _ => rfl, fun _ k => (by cases k), fun _ k => (by cases k),
   fun _ j _ hv => (by rw [show (default : T_api_Match).f_Value = default from rfl, vb_zero] at hv; cases hv), fun _ => rfl⟩

theorem umin_ge {a x y : BitVec 64} (h1 : a ≤ x) (h2 : a ≤ y) : a ≤ umin x y := by
  unfold umin; split <;> assumption
/-- a value of few bits, and a bit more, cut -/
theorem span_le {v : T_api_Value} {b c : Int} (hb : 0 ≤ b ∧ b ≤ 32) (hc : 0 ≤ c ∧ c < 256) (hv : ∀ j, j < 128 → vb v j = true → (j : Int) < b) :
    v.f_Hi = 0#64 ∧ v.f_Lo ≤ umin (v.f_Lo + BitVec.ofInt 64 c) (((1#64) <<< (BitVec.ofInt 64 b).toNat) - (1#64)) := by
  have hhi : v.f_Hi = 0#64 := by
    apply BitVec.eq_of_getLsbD_eq
    intro i hi
    have h := hv (64 + i) (by omega)
    unfold vb at h
    rw [if_neg (by omega), Nat.add_sub_cancel_left] at h
    rw [BitVec.getLsbD_zero]
    cases hx : v.f_Hi.getLsbD i
    · rfl
    · have := h hx; omega
  obtain ⟨n, rfl⟩ := Int.eq_ofNat_of_zero_le hb.1
  have hn : n ≤ 32 := by omega
  have hcn : (BitVec.ofInt 64 (n : Int)).toNat = n := cnt_nat (by omega)
  rw [hcn]
  have hmask : v.f_Lo ≤ ((1#64) <<< n) - 1#64 := by
    have hand : v.f_Lo &&& (((1#64) <<< n) - 1#64) = v.f_Lo := by
      apply BitVec.eq_of_getLsbD_eq
      intro i hi
      rw [BitVec.getLsbD_and, low_bits (by omega)]
      have h := hv i (by omega)
      unfold vb at h
      rw [if_pos hi] at h
      cases hx : v.f_Lo.getLsbD i
      · rfl
      · have := h hx
        simp; omega
    rw [← hand]
    rw [BitVec.le_def, BitVec.toNat_and]
    exact Nat.and_le_right
  have hM : (((1#64) <<< n) - 1#64).toNat < 2 ^ 33 := by
    have h32 : (((1#64) <<< n) - 1#64) &&& (((1#64) <<< 32) - 1#64) = (((1#64) <<< n) - 1#64) := by
      apply BitVec.eq_of_getLsbD_eq
      intro i hi
      rw [BitVec.getLsbD_and, low_bits (by omega), low_bits (by omega)]
      simp; omega
    rw [← h32, BitVec.toNat_and]
    exact Nat.lt_of_le_of_lt Nat.and_le_right (by decide)
  refine ⟨hhi, umin_ge ?_ hmask⟩
  rw [BitVec.le_def] at hmask ⊢
  obtain ⟨m, rfl⟩ := Int.eq_ofNat_of_zero_le hc.1
  rw [BitVec.toNat_add, cnt_nat (by omega), Nat.mod_eq_of_lt (by omega)]
  omega

theorem mask_low (x : BitVec 64) {n : Int} (h1 : 1 ≤ n) (h2 : n ≤ 32) {i : Nat} (hi : i < 128)
    (hv : vb { (default : T_api_Value) with f_Lo := x &&& ((((1#64) <<< (BitVec.ofInt 64 32).toNat) - (1#64)) - (((1#64) <<< (BitVec.ofInt 64 (w64 (32 - n))).toNat) - (1#64))) } i = true) : 32 - n ≤ (i : Int) ∧ i < 32 := by
  rw [vb_lo, BitVec.getLsbD_and, Bool.and_eq_true] at hv
  have h3 := hv.2
  obtain ⟨k, hk⟩ := Int.eq_ofNat_of_zero_le (show 0 ≤ 32 - n by omega)
  have hk2 : k < 32 := by omega
  have e : w64 (32 - n) = (k : Int) := by rw [hk, w64_in (by omega) (by omega)]
  rw [e, cnt_nat (by omega)] at h3
  have hi6 : i < 64 := by
    rcases Nat.lt_or_ge i 64 with h | h
    · exact h
    · rw [BitVec.getLsbD_of_ge _ i h] at h3; cases h3
  have key : ∀ (k : Fin 32) (i : Fin 64), ((((1#64) <<< (BitVec.ofInt 64 32).toNat) - (1#64)) - (((1#64) <<< k.1) - (1#64))).getLsbD i.1 = true → k.1 ≤ i.1 ∧ i.1 < 32 := by decide +kernel
  have := key ⟨k, hk2⟩ ⟨i, hi6⟩ h3
  simp only at this
  omega

theorem match_tot (c : T_mcase_Codes) {s : T_api_Schema} (key : T_api_Key) (hc : CdOk c) (h : SchOk s) (hk : KeyOk key) :
    Tot (L_mcase_Codes_match c s key) (fun r => CdOk r.2 ∧ MatOk key.f_Kind (kb key) r.1) := by
  obtain ⟨j, hj, hf, k1, k4, b4, b32, hk2⟩ := hk
  have hb : kb key = lget BITS j := by unfold kb; rw [hf]; congr 1; omega
  unfold L_mcase_Codes_match
  rw [hf]
  refine (mbitsOf_ok h hj).bind fun y1 e1 => ?_
  rw [hb]
  subst e1
  generalize hB : lget BITS j = b at *
  refine .bind (Next_tot _ 256 hc (by omega)) fun y2 h2 => .bind (Next_tot _ 16 h2.1 (by omega)) fun y3 h3 => .eq rfl (.bind (Next_tot _ 16 h3.1 (by omega)) fun y4 h4 => .eq rfl ?_)
  refine .bind (Low_vb _ b (by omega) (by omega)) fun y5 h5 => ?_
  refine .cond (fun q => ?_) fun q => ?_
  · have q : key.f_Kind = 2 := by simpa using q
    refine .bind (Next_tot _ 5 h4.1 (by omega)) fun y6 h6 => .cond (fun _ => ?_) fun _ => .ret ⟨h6.1, MatOk_def (by omega)⟩
    refine .bind (Next_tot _ b h6.1 (by omega)) fun y7 h7 => .bind (Next_tot _ 5 h7.1 (by omega)) fun y8 h8 => ?_
    refine .eq (idx_int h8.2.1 (by simpa using h8.2.2.1)) ?_
    have hpn : 1 ≤ lget [b, 8, 16, 1, w64 (1 + y7.1)] y8.1.toNat ∧ lget [b, 8, 16, 1, w64 (1 + y7.1)] y8.1.toNat ≤ 32 := by
      have hlt : y8.1.toNat < [b, 8, 16, 1, w64 (1 + y7.1)].length := by have := h8.2.1; have := h8.2.2.1; simp; omega
      have hm := List.getElem_mem hlt
      rw [← lget_eq _ hlt] at hm
      have hw : w64 (1 + y7.1) = 1 + y7.1 := w64_in (by have := h7.2.1; omega) (by have := h7.2.2.1; omega)
      have := h7.2.1; have := h7.2.2.1
      simp only [List.mem_cons, List.not_mem_nil, or_false] at hm
      rcases hm with hm | hm | hm | hm | hm <;> rw [hm] <;> omega
    unfold L_mcase_mask
    refine .eq rfl (.eq rfl (.eq rfl (.ret ⟨h8.1, fun h => (by cases h), fun h => (by omega), fun h => by omega, fun h => (by omega), fun h => (by omega), ⟨by have := hpn.1; show 0 ≤ lget _ _; omega, hpn.2⟩, fun _ _ => hpn.1, fun h => absurd q h, fun _ => rfl, fun h => (by omega), fun h => (by omega), fun _ i hi hv => ?_, fun _ => rfl⟩)))
    have h32 : b = 32 := by rw [← hB, hk2 q]; rfl
    rw [h32] at hpn hv
    rw [h32]
    exact mask_low _ hpn.1 hpn.2 hi hv
  refine .cond (fun q3 => ?_) fun q3 => ?_
  · have q3 : key.f_Kind = 3 := by simpa using q3
    refine .bind (Next_tot _ 256 h4.1 (by omega)) fun y10 h10 => .bind (Next_tot _ 5 h10.1 (by omega)) fun y11 h11 => ?_
    refine .eq (idx_int h11.2.1 (by simpa using h11.2.2.1)) (.eq rfl (.bind (Low_vb _ b (by omega) (by omega)) fun y12 h12 => ?_))
    refine .cond (fun hnz => ?_) fun _ => .ret ⟨h11.1, MatOk_def (by omega)⟩
    refine .eq rfl (.eq rfl (.ret ⟨h11.1, fun h => (by cases h), fun h => (by omega), fun h => by omega, fun _ i hi hv => ?_, fun _ i hi hv => ?_, pre0, fun h => (by omega), fun _ => rfl, fun h => absurd q3 h, fun _ _ hd => ?_, fun h => (by omega), fun h => (by omega), fun _ => rfl⟩))
    · have h13 := h12 i hi
      simp only at hv
      rw [hv] at h13
      have := h13.symm
      simp only [Bool.and_eq_true, decide_eq_true_eq] at this
      exact this.2
    · simp only at hv ⊢
      rw [vb_lo, BitVec.getLsbD_and, Bool.and_eq_true] at hv
      have hi6 : i < 64 := by
        rcases Nat.lt_or_ge i 64 with h | h
        · exact h
        · rw [BitVec.getLsbD_of_ge _ i h] at hv; cases hv.1
      unfold vb; rw [if_pos hi6]; exact hv.2
    · have hd' : y12 = default := hd
      rw [hd'] at hnz; simp at hnz
      exact hnz rfl
  refine .cond (fun q4 => ?_) fun q4 => ?_
  · have q4 : key.f_Kind = 4 := by simpa using q4
    refine .bind (Next_tot _ 256 h4.1 (by omega)) fun y13 h13 => .eq rfl (.bind (Next_tot _ 5 h13.1 (by omega)) fun y14 h14 => .eq rfl (.cond (fun _ => ?_) fun _ => .ret ⟨h14.1, MatOk_def (by omega)⟩))
    have hsp := span_le (v := y5) (b := b) (c := y13.1) ⟨by omega, b32⟩ ⟨h13.2.1, h13.2.2.1⟩ fun i hi hv => by
      have h15 := h5 i hi
      rw [hv] at h15
      have := h15.symm
      simp only [Bool.and_eq_true, decide_eq_true_eq] at this
      exact this.2
    exact .eq rfl (.ret ⟨h14.1, fun h => (by cases h), fun h => (by omega), fun h => by omega, fun h => (by omega), fun h => (by omega), pre0, fun h => (by omega), fun _ => rfl, fun _ => rfl, fun h => (by omega), fun _ _ => hsp, fun h => (by omega), fun h => absurd q4 h⟩)
  · have q1 : key.f_Kind = 1 := by
      simp only [beq_eq_false_iff_ne] at q q3 q4
      omega
    refine .eq rfl (.ret ⟨h4.1, fun h => (by cases h), fun _ => rfl, fun _ i hi hv => ?_, fun h => (by omega), fun h => (by omega), pre0, fun h => (by omega), fun _ => rfl, fun _ => rfl, fun h => (by omega), fun h => (by omega), fun h => (by omega), fun _ => rfl⟩)
    have h13 := h5 i hi
    simp only at hv
    rw [hv] at h13
    have := h13.symm
    simp only [Bool.and_eq_true, decide_eq_true_eq] at this
    exact this.2

/-- an entry of the cases -/
structure EntOk (s : T_api_Schema) (k : Nat) (e : T_api_Entry) : Prop where
  tab : e.f_Table = (k : Int) + 1
  len : e.f_Matches.length = (lget s.f_Tables k).f_Keys.length
  mat : ∀ i, i < (lget s.f_Tables k).f_Keys.length → MatOk (lget (lget s.f_Tables k).f_Keys i).f_Kind (kb (lget (lget s.f_Tables k).f_Keys i)) (lget e.f_Matches i)
  args : e.f_Args.length ≤ 10
  pri : (∀ i, i < (lget s.f_Tables k).f_Keys.length → (lget (lget s.f_Tables k).f_Keys i).f_Kind ≤ 2) → e.f_Priority = 0

theorem lget_snoc {α : Type} [Inhabited α] (l : List α) (x : α) (i : Nat) : lget (l ++ [x]) i = if i = l.length then x else lget l i := by
  unfold lget
  by_cases h : i = l.length
  · subst h; simp
  · rw [if_neg h]
    rcases Nat.lt_or_ge i l.length with h1 | h1
    · rw [List.getElem?_append_left h1]
    · rw [List.getElem?_eq_none (by simp; omega), List.getElem?_eq_none h1]

theorem Entry_tot (c : T_mcase_Codes) {s : T_api_Schema} (x : Int) (hc : CdOk c) (h : SchOk s) :
    Tot (L_mcase_Codes_Entry c s x) (fun r => CdOk r.2 ∧ ∃ k : Nat, k < 4 ∧ L_mcase_Mod x (s.f_Tables.length : Int) = some (k : Int) ∧ EntOk s k r.1) := by
  unfold L_mcase_Codes_Entry
  obtain ⟨y1, e1, h0, h1⟩ := Mod_tot x (s.f_Tables.length : Int) (by rw [h.tlen]; omega) (by rw [h.tlen]; omega)
  obtain ⟨k, rfl⟩ := Int.eq_ofNat_of_zero_le h0
  have hk : k < 4 := by have := h.tlen; omega
  obtain ⟨t1, ⟨t2, t3⟩, t4, ⟨t5, t6⟩, t7⟩ := h.tab hk
  refine .eq e1 (.idx rfl (by have := h.tlen; omega) ?_)
  refine Tot.loop (lget s.f_Tables k).f_Keys.length (fun i st => st.1 = (i : Int) ∧ st.2.1.f_Table = (k : Int) + 1 ∧ st.2.2.1.length = i ∧ CdOk st.2.2.2 ∧
    (∀ j, j < i → MatOk (lget (lget s.f_Tables k).f_Keys j).f_Kind (kb (lget (lget s.f_Tables k).f_Keys j)) (lget st.2.2.1 j)) ∧ ((∀ j, j < i → (lget (lget s.f_Tables k).f_Keys j).f_Kind ≤ 2) → st.2.1.f_Priority = 0)) (by omega) ⟨rfl, t1, rfl, hc, fun j hj => by omega, fun _ => rfl⟩ (fun i st hi hs => ?_) (fun st hs => ?_)
  · obtain ⟨i', e, ms, cd⟩ := st; obtain ⟨e2, e3, e4, e5, e6, e7⟩ := hs
    simp only at e2 e3 e4 e5 e6 e7; subst e2
    refine Tot.cond (fun _ => ?_) (fun h => by simp at h; omega)
    refine .idx rfl hi (.bind (match_tot _ _ e5 h (t4 _ (by rw [lget_eq _ hi]; exact List.getElem_mem hi))) fun y2 h2 => .eq (app_small _ _ (by simp; omega) (by omega)) (.eq rfl ?_))
    refine .bind (P := fun m => m.1.f_Table = (k : Int) + 1 ∧ CdOk m.2 ∧ ((lget (lget s.f_Tables k).f_Keys i).f_Kind ≤ 2 → m.1.f_Priority = e.f_Priority)) (.cond (fun hz => .bind (Next_tot _ 5 h2.1 (by omega)) fun y4 h4 => .eq rfl (.ret ⟨e3, h4.1, fun h => by simp at hz; omega⟩)) (fun _ => .ret ⟨e3, h2.1, fun _ => rfl⟩)) fun m1 hm1 => ?_
    refine .ret ⟨w64_succ (by omega), hm1.1, by simp; omega, hm1.2.1, fun j hj => ?_, fun h => ?_⟩
    · simp only [lget_snoc]
      by_cases hj2 : j = ms.length
      · rw [if_pos hj2]; rw [hj2, e4]; exact h2.2
      · rw [if_neg hj2]; exact e6 j (by omega)
    · exact (hm1.2.2 (h i (by omega))).trans (e7 fun j hj => h j (by omega))
  · obtain ⟨i', e, ms, cd⟩ := st; obtain ⟨e2, e3, e4, e5, e6, e7⟩ := hs
    simp only at e2 e3 e4 e5 e6 e7; subst e2
    refine ⟨_, by simp; rfl, ?_⟩
    refine .bind (Next_tot _ _ e5 (by omega)) fun y5 h5 => ?_
    refine .eq (idx_int h5.2.1 h5.2.2.1) (.eq rfl ?_)
    have ha : 1 ≤ lget (lget s.f_Tables k).f_Actions y5.1.toNat ∧ lget (lget s.f_Tables k).f_Actions y5.1.toNat ≤ 6 := t7 _ (by
      have hlt : y5.1.toNat < (lget s.f_Tables k).f_Actions.length := by have := h5.2.1; have := h5.2.2.1; omega
      rw [lget_eq _ hlt]; exact List.getElem_mem hlt)
    obtain ⟨a, hA⟩ := Int.eq_ofNat_of_zero_le (show 0 ≤ lget (lget s.f_Tables k).f_Actions y5.1.toNat - 1 by omega)
    have hA2 : lget (lget s.f_Tables k).f_Actions y5.1.toNat = (a : Int) + 1 := by omega
    simp only [hA2]
    refine .bind (ActionIn_ok h (show a < 6 by omega)) fun y6 h6 => ?_
    obtain ⟨p1, p2⟩ := h.act (show a < 6 by omega)
    rw [← h6] at p2
    have hp : y6.f_Params.length ≤ 10 ∧ ∀ i, i < y6.f_Params.length → 0 ≤ (lget y6.f_Params i).f_Bits ∧ (lget y6.f_Params i).f_Bits < 1000 := by
      have hq : ∀ l ∈ PARS, l.length ≤ 10 ∧ ∀ b ∈ l, 0 ≤ b ∧ b < 1000 := by decide
      have hm : lget PARS a ∈ PARS := by rw [lget_eq PARS (show a < PARS.length by simp [PARS]; omega)]; exact List.getElem_mem _
      obtain ⟨q1, q2⟩ := hq _ hm
      rw [← p2] at q1 q2
      refine ⟨by simpa using q1, fun i hi => q2 _ ?_⟩
      rw [lget_eq _ hi]
      exact List.mem_map.2 ⟨_, List.getElem_mem hi, rfl⟩
    refine Tot.loop y6.f_Params.length (fun i st => st.1 = (i : Int) ∧ st.2.1.f_Table = (k : Int) + 1 ∧ st.2.2.1.length = i ∧ CdOk st.2.2.2 ∧ st.2.1.f_Priority = e.f_Priority) (by omega) ⟨rfl, e3, rfl, h5.1, rfl⟩ (fun i st hi hs => ?_) (fun st hs => ?_)
    · obtain ⟨i', e', vs, cd'⟩ := st; obtain ⟨f2, f3, f4, f5, f6⟩ := hs
      simp only at f2 f3 f4 f5 f6; subst f2
      refine Tot.cond (fun _ => ?_) (fun h => by simp at h; omega)
      refine .idx rfl hi (.bind (Next_tot _ 256 f5 (by omega)) fun y7 h7 => .eq rfl (.bind (Low_vb _ _ (hp.2 i hi).1 (hp.2 i hi).2) fun y8 h8 => .eq (app_small _ _ (by have := hp.1; simp; omega) (by omega)) (.ret ⟨w64_succ (by have := hp.1; omega), f3, by simp; omega, h7.1, f6⟩)))
    · obtain ⟨i', e', vs, cd'⟩ := st; obtain ⟨f2, f3, f4, f5, f6⟩ := hs
      simp only at f2 f3 f4 f5 f6; subst f2
      refine ⟨_, by simp; rfl, ?_⟩
      exact .eq rfl (.ret ⟨f5, k, hk, e1, f3, e4, e6, by show vs.length ≤ 10; have := hp.1; omega, fun h => f6.trans (e7 h)⟩)
end Go.Proofs.Ytmlgdkccoomiaaa

namespace Go.Proofs.Ytmlgdkccoomiaaa
open Go Gv
set_option linter.unusedVariables false
set_option linter.unusedSimpArgs false
set_option maxRecDepth 100000

structure IdsOf (s : T_api_Schema) (r : Vector (List Int) 6) : Prop where
  fields : vget r 0 = s.f_Fields.map (·.f_ID)
  headers : vget r 1 = s.f_Headers.map (·.f_ID)
  states : vget r 2 = s.f_States.map (·.f_ID)
  actions : vget r 3 = s.f_Actions.map (·.f_ID)
  tables : vget r 4 = s.f_Tables.map (·.f_ID)
  roles : vget r 5 = s.f_Roles.map (·.f_ID)

theorem ids_ok {s : T_api_Schema} (h : SchOk s) : Tot (L_ref04_ids s) (IdsOf s) := by
  unfold L_ref04_ids
  have l1 := h.flen; have l2 := h.headers; have l3 := h.states; have l4 := h.alen; have l5 := h.tlen; have l6 := h.rlen
  refine Tot.loop s.f_Fields.length (fun k st => st.1 = (k : Int) ∧ st.2.1 = (s.f_Fields.take k).map (·.f_ID)) (by omega) ⟨rfl, rfl⟩ (fun k st hk hi => ?_) (fun st hi => ?_)
  · obtain ⟨i, a, v⟩ := st; obtain ⟨e1, e2⟩ := hi; simp only at e1 e2; subst e1; subst e2
    refine Tot.cond (fun _ => ?_) (fun h => by simp at h; omega)
    exact .idx rfl hk (.eq (app_small _ _ (by simp; omega) (by omega)) (.ret ⟨w64_succ (by omega), by rw [take_succ_lget _ hk, List.map_append]; rfl⟩))
  obtain ⟨i, a0, v⟩ := st; obtain ⟨e1, e2⟩ := hi; simp only at e1 e2; subst e1; subst e2
  refine ⟨_, by simp only [show decide ((s.f_Fields.length : Int) < (s.f_Fields.length : Int)) = false by simp, cond_false]; rfl, ?_⟩
  refine Tot.loop s.f_Headers.length (fun k st => st.1 = (k : Int) ∧ st.2.1 = (s.f_Headers.take k).map (·.f_ID)) (by omega) ⟨rfl, rfl⟩ (fun k st hk hi => ?_) (fun st hi => ?_)
  · obtain ⟨i, a, v⟩ := st; obtain ⟨e1, e2⟩ := hi; simp only at e1 e2; subst e1; subst e2
    refine Tot.cond (fun _ => ?_) (fun h => by simp at h; omega)
    exact .idx rfl hk (.eq (app_small _ _ (by simp; omega) (by omega)) (.ret ⟨w64_succ (by omega), by rw [take_succ_lget _ hk, List.map_append]; rfl⟩))
  obtain ⟨i, a1, v⟩ := st; obtain ⟨e1, e2⟩ := hi; simp only at e1 e2; subst e1; subst e2
  refine ⟨_, by simp only [show decide ((s.f_Headers.length : Int) < (s.f_Headers.length : Int)) = false by simp, cond_false]; rfl, ?_⟩
  refine Tot.loop s.f_States.length (fun k st => st.1 = (k : Int) ∧ st.2.1 = (s.f_States.take k).map (·.f_ID)) (by omega) ⟨rfl, rfl⟩ (fun k st hk hi => ?_) (fun st hi => ?_)
  · obtain ⟨i, a, v⟩ := st; obtain ⟨e1, e2⟩ := hi; simp only at e1 e2; subst e1; subst e2
    refine Tot.cond (fun _ => ?_) (fun h => by simp at h; omega)
    exact .idx rfl hk (.eq (app_small _ _ (by simp; omega) (by omega)) (.ret ⟨w64_succ (by omega), by rw [take_succ_lget _ hk, List.map_append]; rfl⟩))
  obtain ⟨i, a2, v⟩ := st; obtain ⟨e1, e2⟩ := hi; simp only at e1 e2; subst e1; subst e2
  refine ⟨_, by simp only [show decide ((s.f_States.length : Int) < (s.f_States.length : Int)) = false by simp, cond_false]; rfl, ?_⟩
  refine Tot.loop s.f_Actions.length (fun k st => st.1 = (k : Int) ∧ st.2.1 = (s.f_Actions.take k).map (·.f_ID)) (by omega) ⟨rfl, rfl⟩ (fun k st hk hi => ?_) (fun st hi => ?_)
  · obtain ⟨i, a, v⟩ := st; obtain ⟨e1, e2⟩ := hi; simp only at e1 e2; subst e1; subst e2
    refine Tot.cond (fun _ => ?_) (fun h => by simp at h; omega)
    exact .idx rfl hk (.eq (app_small _ _ (by simp; omega) (by omega)) (.ret ⟨w64_succ (by omega), by rw [take_succ_lget _ hk, List.map_append]; rfl⟩))
  obtain ⟨i, a3, v⟩ := st; obtain ⟨e1, e2⟩ := hi; simp only at e1 e2; subst e1; subst e2
  refine ⟨_, by simp only [show decide ((s.f_Actions.length : Int) < (s.f_Actions.length : Int)) = false by simp, cond_false]; rfl, ?_⟩
  refine Tot.loop s.f_Tables.length (fun k st => st.1 = (k : Int) ∧ st.2.1 = (s.f_Tables.take k).map (·.f_ID)) (by omega) ⟨rfl, rfl⟩ (fun k st hk hi => ?_) (fun st hi => ?_)
  · obtain ⟨i, a, v⟩ := st; obtain ⟨e1, e2⟩ := hi; simp only at e1 e2; subst e1; subst e2
    refine Tot.cond (fun _ => ?_) (fun h => by simp at h; omega)
    exact .idx rfl hk (.eq (app_small _ _ (by simp; omega) (by omega)) (.ret ⟨w64_succ (by omega), by rw [take_succ_lget _ hk, List.map_append]; rfl⟩))
  obtain ⟨i, a4, v⟩ := st; obtain ⟨e1, e2⟩ := hi; simp only at e1 e2; subst e1; subst e2
  refine ⟨_, by simp only [show decide ((s.f_Tables.length : Int) < (s.f_Tables.length : Int)) = false by simp, cond_false]; rfl, ?_⟩
  refine Tot.loop s.f_Roles.length (fun k st => st.1 = (k : Int) ∧ st.2.1 = (s.f_Roles.take k).map (·.f_ID)) (by omega) ⟨rfl, rfl⟩ (fun k st hk hi => ?_) (fun st hi => ?_)
  · obtain ⟨i, a, v⟩ := st; obtain ⟨e1, e2⟩ := hi; simp only at e1 e2; subst e1; subst e2
    refine Tot.cond (fun _ => ?_) (fun h => by simp at h; omega)
    exact .idx rfl hk (.eq (app_small _ _ (by simp; omega) (by omega)) (.ret ⟨w64_succ (by omega), by rw [take_succ_lget _ hk, List.map_append]; rfl⟩))
  obtain ⟨i, a5, v⟩ := st; obtain ⟨e1, e2⟩ := hi; simp only at e1 e2; subst e1; subst e2
  refine ⟨_, by simp only [show decide ((s.f_Roles.length : Int) < (s.f_Roles.length : Int)) = false by simp, cond_false]; rfl, ?_⟩
  refine .eq rfl (.ret ⟨?_, ?_, ?_, ?_, ?_, ?_⟩)
  · simp only [List.take_length]
    rw [vget_vset _ _ (by omega), if_neg (by omega), vget_vset _ _ (by omega), if_neg (by omega), vget_vset _ _ (by omega), if_neg (by omega), vget_vset _ _ (by omega), if_neg (by omega), vget_vset _ _ (by omega), if_neg (by omega), vget_vset _ _ (by omega), if_pos rfl]
  · simp only [List.take_length]
    rw [vget_vset _ _ (by omega), if_neg (by omega), vget_vset _ _ (by omega), if_neg (by omega), vget_vset _ _ (by omega), if_neg (by omega), vget_vset _ _ (by omega), if_neg (by omega), vget_vset _ _ (by omega), if_pos rfl]
  · simp only [List.take_length]
    rw [vget_vset _ _ (by omega), if_neg (by omega), vget_vset _ _ (by omega), if_neg (by omega), vget_vset _ _ (by omega), if_neg (by omega), vget_vset _ _ (by omega), if_pos rfl]
  · simp only [List.take_length]
    rw [vget_vset _ _ (by omega), if_neg (by omega), vget_vset _ _ (by omega), if_neg (by omega), vget_vset _ _ (by omega), if_pos rfl]
  · simp only [List.take_length]
    rw [vget_vset _ _ (by omega), if_neg (by omega), vget_vset _ _ (by omega), if_pos rfl]
  · simp only [List.take_length]
    rw [vget_vset _ _ (by omega), if_pos rfl]

end Go.Proofs.Ytmlgdkccoomiaaa

namespace Go.Proofs.Ytmlgdkccoomiaaa
open Go Gv
set_option linter.unusedVariables false
set_option linter.unusedSimpArgs false

theorem IndexFunc_api_Table {xs : List T_api_Table} {f : T_api_Table → Option Bool} {g : T_api_Table → Bool} (hf : ∀ x ∈ xs, f x = some (g x)) (hl : xs.length < 2 ^ 62) :
    Tot (L_slices_IndexFunc_api_Table xs f) (fun r => (r = -1 ∧ ∀ x ∈ xs, g x = false) ∨ ∃ i : Nat, i < xs.length ∧ r = i ∧ g (lget xs i) = true ∧ ∀ j, j < i → g (lget xs j) = false) := by
  unfold L_slices_IndexFunc_api_Table
  refine Tot.loop xs.length (fun k s => s = (k : Int) ∧ ∀ j, j < k → g (lget xs j) = false) (by omega) ⟨rfl, fun j hj => by omega⟩ (fun k s hk hi => ?_) (fun s hi => ?_)
  · obtain ⟨e1, e2⟩ := hi; subst e1
    refine Tot.cond (fun _ => ?_) (fun h => by simp at h; omega)
    refine .idx rfl hk (.eq (hf _ (by rw [lget_eq xs hk]; exact List.getElem_mem hk)) (.cond (fun h => .ret ?_) (fun h => .ret ⟨w64_succ (by omega), fun j hj => ?_⟩)))
    · exact .ret (.inr ⟨k, hk, rfl, h, e2⟩)
    · by_cases hjk : j = k
      · subst hjk; exact h
      · exact e2 j (by omega)
  · obtain ⟨e1, e2⟩ := hi; subst e1
    refine ⟨_, by simp; rfl, ?_⟩
    refine .ret (.inl ⟨rfl, fun x hx => ?_⟩)
    obtain ⟨j, hj, rfl⟩ := List.mem_iff_getElem.1 hx
    rw [← lget_eq xs hj]; exact e2 j hj
end Go.Proofs.Ytmlgdkccoomiaaa

namespace Go.Proofs.Ytmlgdkccoomiaaa
open Go Gv
set_option linter.unusedVariables false
set_option linter.unusedSimpArgs false

end Go.Proofs.Ytmlgdkccoomiaaa

namespace Go.Proofs.Ytmlgdkccoomiaaa
open Go Gv
set_option linter.unusedVariables false
set_option linter.unusedSimpArgs false
set_option maxRecDepth 100000

theorem cTableOf_ok {s : T_api_Schema} (h : SchOk s) {k : Nat} (hk : k < 4) : Tot (L_check_TableOf s ((k : Int) + 1)) (fun r => r = (k : Int)) := by
  unfold L_check_TableOf
  refine (IndexFunc_api_Table (g := fun t => t.f_ID == (k : Int) + 1) (fun x hx => rfl) (by rw [h.tlen]; omega)).bind fun r hr => .ret ?_
  have hk2 : k < s.f_Tables.length := by rw [h.tlen]; exact hk
  rcases hr with ⟨_, hr⟩ | ⟨i, h1, h2, h3, h4⟩
  · have := hr (lget s.f_Tables k) (by rw [lget_eq _ hk2]; exact List.getElem_mem hk2)
    simp only [(h.tab hk).1, beq_self_eq_true] at this; cases this
  · have h5 := (h.tab (show i < 4 by have := h.tlen; omega)).1
    simp only [h5, beq_iff_eq] at h3; omega

theorem index_ok (l : List Int) {k : Nat} (hk : k < l.length) (hl : l.length < 2 ^ 30) (h : ∀ j, j < l.length → lget l j = (j : Int) + 1) : Tot (L_ref04_index l ((k : Int) + 1)) (fun r => r = (k : Int)) := by
  unfold L_ref04_index
  refine Tot.loop k (fun j s => s = (j : Int)) (by omega) rfl (fun j i hj hi => ?_) (fun i hi => ?_)
  · subst hi
    refine Tot.cond (fun _ => ?_) (fun h => by simp at h; omega)
    refine .idx rfl (by omega) (.cond (fun hc => ?_) (fun hc => .ret (w64_succ (by omega))))
    rw [h j (by omega), beq_iff_eq] at hc; omega
  · subst hi
    have h1 : decide ((k : Int) < (l.length : Int)) = true := by simp; omega
    have h2 : (lget l k == (k : Int) + 1) = true := by rw [h k hk]; simp
    rw [h1]
    simp only [cond_true]
    rw [idx_nat (by omega)]
    simp only [Option.bind_some, h2, cond_true]
    exact ⟨_, rfl, .ret rfl⟩

theorem rTableOf_ok {s : T_api_Schema} (h : SchOk s) {k : Nat} (hk : k < 4) : Tot (L_ref04_TableOf s ((k : Int) + 1)) (fun r => r = (k : Int)) := by
  unfold L_ref04_TableOf
  refine (ids_ok h).bind fun y hy => ?_
  have hl := h.tlen
  rw [hy.tables]
  refine (index_ok _ (by simp; omega) (by simp; omega) fun j hj => ?_).bind fun r hr => .ret hr
  rw [lget_map _ (by simpa using hj)]; exact (h.tab (by simp at hj; omega)).1

theorem kb_of {key : T_api_Key} {j : Nat} (h : key.f_Field = (j : Int) + 1) : kb key = lget BITS j := by unfold kb; rw [h]; congr 1; omega

def lead (n k : Int) (j : Nat) : Bool := decide ((j : Int) < n) && decide (n - max 0 (min k n) ≤ (j : Int))

theorem KeyOk.kb {key : T_api_Key} (h : KeyOk key) : 4 ≤ Go.Proofs.Ytmlgdkccoomiaaa.kb key ∧ Go.Proofs.Ytmlgdkccoomiaaa.kb key ≤ 32 := by
  obtain ⟨j, hj, hf, _, _, h1, h2, _⟩ := h
  rw [kb_of hf]; exact ⟨h1, h2⟩

end Go.Proofs.Ytmlgdkccoomiaaa

namespace Go.Proofs.Ytmlgdkccoomiaaa
open Go Gv
set_option linter.unusedVariables false
set_option linter.unusedSimpArgs false
set_option maxRecDepth 100000

end Go.Proofs.Ytmlgdkccoomiaaa

namespace Go.Proofs.Ytmlgdkccoomiaaa
open Go Gv
set_option linter.unusedVariables false
set_option linter.unusedSimpArgs false
set_option maxRecDepth 100000

def vlt (a b : T_api_Value) : Bool := decide (a.f_Hi < b.f_Hi) || (a.f_Hi == b.f_Hi && decide (a.f_Lo < b.f_Lo))
theorem vlt_iff {a b : T_api_Value} : vlt a b = true ↔ a.f_Hi < b.f_Hi ∨ (a.f_Hi = b.f_Hi ∧ a.f_Lo < b.f_Lo) := by simp [vlt]
theorem vlt_irrefl (a : T_api_Value) : vlt a a = false := by simp [vlt]
theorem vlt_asymm {a b : T_api_Value} (h : vlt a b = true) : vlt b a = false := by
  rw [Bool.eq_false_iff]
  intro h2
  rw [vlt_iff] at h h2
  simp only [BitVec.lt_def, BitVec.toNat_eq] at h h2
  omega
theorem lt_testBit {x y i : Nat} (h1 : x.testBit i = false) (h2 : y.testBit i = true) (h3 : ∀ j, i < j → x.testBit j = y.testBit j) : x < y := by
  have h4 : x / 2 ^ (i + 1) = y / 2 ^ (i + 1) := Nat.eq_of_testBit_eq fun j => by
    rw [Nat.testBit_div_two_pow, Nat.testBit_div_two_pow]; exact h3 _ (by omega)
  rw [Nat.testBit_eq_decide_div_mod_eq] at h1 h2
  simp only [decide_eq_false_iff_not, decide_eq_true_eq] at h1 h2
  rw [Nat.pow_succ, ← Nat.div_div_eq_div_mul, ← Nat.div_div_eq_div_mul] at h4
  have h5 : x / 2 ^ i < y / 2 ^ i := by omega
  exact Nat.lt_of_div_lt_div h5
theorem lt_bits {x y : BitVec 64} {i : Nat} (h1 : x.getLsbD i = false) (h2 : y.getLsbD i = true) (h3 : ∀ j, i < j → j < 64 → x.getLsbD j = y.getLsbD j) : x < y := by
  rw [BitVec.lt_def]
  refine lt_testBit h1 h2 fun j hj => ?_
  by_cases hj2 : j < 64
  · exact h3 j hj hj2
  · show x.getLsbD j = y.getLsbD j
    rw [BitVec.getLsbD_of_ge _ _ (by omega), BitVec.getLsbD_of_ge _ _ (by omega)]
theorem vlt_bits {a b : T_api_Value} {i : Nat} (hi : i < 128) (h1 : vb a i = false) (h2 : vb b i = true) (h3 : ∀ j, i < j → j < 128 → vb a j = vb b j) : vlt a b = true := by
  rw [vlt_iff]
  by_cases h : i < 64
  · right
    unfold vb at h1 h2
    rw [if_pos h] at h1 h2
    constructor
    · apply BitVec.eq_of_getLsbD_eq
      intro j hj
      have := h3 (j + 64) (by omega) (by omega)
      unfold vb at this
      rw [if_neg (by omega), if_neg (by omega)] at this
      simpa using this
    · refine lt_bits h1 h2 fun j hj hj2 => ?_
      have := h3 j hj (by omega)
      unfold vb at this
      rwa [if_pos hj2, if_pos hj2] at this
  · left
    unfold vb at h1 h2
    rw [if_neg h] at h1 h2
    refine lt_bits h1 h2 fun j hj hj2 => ?_
    have := h3 (j + 64) (by omega) (by omega)
    unfold vb at this
    rw [if_neg (by omega), if_neg (by omega)] at this
    simpa using this

theorem rCompare_eq (a b : T_api_Value) : Tot (L_ref01_Compare a b) (fun r => (r > 0 ↔ vlt b a = true) ∧ (r < 0 ↔ vlt a b = true)) := by
  unfold L_ref01_Compare
  refine (Read_eq a).bind fun x hx => (Read_eq b).bind fun y hy => ?_
  refine Tot.loop 128 (fun k s => s = 127 - (k : Int) ∧ ∀ j, 128 ≤ j + k → j < 128 → vb a j = vb b j) (by omega) ⟨rfl, fun j h1 h2 => by omega⟩ (fun k s hk hi => ?_) (fun s hi => ?_)
  · obtain ⟨rfl, e2⟩ := hi
    refine Tot.cond (fun _ => ?_) (fun h => by simp at h; omega)
    have hkk : (127 - (k : Int)) = ((127 - k : Nat) : Int) := by omega
    have h128 : 127 - k < 128 := by omega
    refine .idx hkk h128 (.idx hkk h128 ?_)
    rw [hx _ h128, hy _ h128]
    refine .cond (fun hne => .idx hkk h128 ?_) fun heq => .ret ⟨?_, fun j h1 h2 => ?_⟩
    · have heq : ∀ j, 127 - k < j → j < 128 → vb a j = vb b j := fun j h1 h2 => e2 j (by omega) h2
      rw [hy _ h128]
      refine .cond (fun hb => .ret (.ret ?_)) fun hb => .ret (.ret ?_)
      · have ha : vb a (127 - k) = false := by rw [hb] at hne; simpa using hne
        have := vlt_bits h128 ha hb heq
        exact ⟨⟨fun h => by simp at h, fun h => by rw [vlt_asymm this] at h; cases h⟩, fun _ => this, fun _ => by simp⟩
      · have ha : vb a (127 - k) = true := by rw [hb] at hne; simpa using hne
        have := vlt_bits h128 hb ha fun j h1 h2 => (heq j h1 h2).symm
        exact ⟨⟨fun _ => this, fun _ => by simp⟩, fun h => by simp at h, fun h => by rw [vlt_asymm this] at h; cases h⟩
    · rw [w64_in (by omega) (by omega)]; omega
    · by_cases hj : j = 127 - k
      · subst hj; simpa using heq
      · exact e2 j (by omega) h2
  · obtain ⟨rfl, e2⟩ := hi
    refine ⟨_, rfl, ?_⟩
    have : a = b := vb_ext fun j hj => e2 j (by omega) hj
    subst this
    refine .ret ⟨?_, ?_⟩ <;> simp [vlt_irrefl]
end Go.Proofs.Ytmlgdkccoomiaaa

namespace Gv
set_option linter.unusedVariables false

/-- a goes ahead of b -/
structure Ahd {α : Type} (b : α → α → Bool) : Prop where
  asymm : ∀ x y, b x y = true → b y x = false
  trans : ∀ x y z, b x y = true → b y z = true → b x z = true

def ins {α : Type} (b : α → α → Bool) : List α → α → List α
  | [], x => [x]
  | a :: l, x => if b a x = true then a :: ins b l x else x :: a :: l
def rk {α : Type} (b : α → α → Bool) (l : List α) : List α := l.foldl (ins b) []
/-- how many go ahead of x, from the beginning on -/
def ahn {α : Type} (b : α → α → Bool) : List α → α → Nat
  | [], _ => 0
  | a :: l, x => if b a x = true then ahn b l x + 1 else 0
/-- one of the two goes ahead -/
def Cpr {α : Type} (b : α → α → Bool) (x y : α) : Prop := b x y = true ∨ b y x = true

variable {α : Type} {b : α → α → Bool}
theorem ahn_le : ∀ {l : List α} {x : α}, ahn b l x ≤ l.length
  | [], _ => Nat.le_refl _
  | a :: l, x => by
    have := ahn_le (l := l) (x := x)
    unfold ahn; split <;> simp <;> omega
theorem ins_eq : ∀ (l : List α) (x : α), ins b l x = l.take (ahn b l x) ++ x :: l.drop (ahn b l x)
  | [], x => rfl
  | a :: l, x => by
    unfold ins ahn
    split
    · rw [ins_eq l x]; rfl
    · rfl
theorem ins_perm : ∀ (l : List α) (x : α), (ins b l x).Perm (x :: l)
  | [], x => List.Perm.refl _
  | a :: l, x => by
    unfold ins
    split
    · exact ((ins_perm l x).cons a).trans (List.Perm.swap x a l)
    · exact List.Perm.refl _
theorem ins_mem {l : List α} {x y : α} : y ∈ ins b l x ↔ y = x ∨ y ∈ l := by
  rw [(ins_perm l x).mem_iff]; simp
theorem rk_snoc (l : List α) (x : α) : rk b (l ++ [x]) = ins b (rk b l) x := by
  simp [rk, List.foldl_append]
theorem rk_perm (l : List α) : (rk b l).Perm l := by
  have key : ∀ (l m : List α), (l.foldl (ins b) m).Perm (m ++ l) := by
    intro l
    induction l with
    | nil => intro m; simp
    | cons a l ih =>
      intro m
      refine (ih (ins b m a)).trans ?_
      refine ((ins_perm m a).append_right l).trans ?_
      exact (List.perm_middle (a := a) (l₁ := m) (l₂ := l)).symm
  exact key l []
theorem rk_mem {l : List α} {y : α} : y ∈ rk b l ↔ y ∈ l := (rk_perm l).mem_iff
theorem rk_len {l : List α} : (rk b l).length = l.length := (rk_perm l).length_eq

theorem ins_sorted (hb : Ahd b) : ∀ {l : List α} {x : α}, l.Pairwise (fun x y => b x y = true) → (∀ a ∈ l, Cpr b a x) → (ins b l x).Pairwise (fun x y => b x y = true)
  | [], x, _, _ => by simp [ins]
  | a :: l, x, hs, ht => by
    obtain ⟨h1, h2⟩ := List.pairwise_cons.1 hs
    unfold ins
    split
    · rename_i hax
      refine List.pairwise_cons.2 ⟨fun c hc => ?_, ins_sorted hb h2 fun a ha => ht a (by simp [ha])⟩
      rcases ins_mem.1 hc with rfl | hc
      · exact hax
      · exact h1 c hc
    · rename_i hax
      have hxa : b x a = true := (ht a (by simp)).resolve_left hax
      refine List.pairwise_cons.2 ⟨fun c hc => ?_, hs⟩
      rcases List.mem_cons.1 hc with rfl | hc
      · exact hxa
      · exact hb.trans _ _ _ hxa (h1 c hc)

/-- all of a list can be compared -/
def CprL (b : α → α → Bool) (l : List α) : Prop := l.Pairwise (Cpr b)
theorem Cpr.symm {x y : α} (h : Cpr b x y) : Cpr b y x := h.elim .inr .inl
theorem CprL.snoc {l : List α} {x : α} (h : CprL b (l ++ [x])) : CprL b l ∧ ∀ a ∈ l, Cpr b a x := by
  unfold CprL at *
  rw [List.pairwise_append] at h
  exact ⟨h.1, fun a ha => h.2.2 a ha x (by simp)⟩
theorem CprL.perm {l m : List α} (h : CprL b l) (p : l.Perm m) : CprL b m := (p.pairwise_iff fun h => h.symm).1 h

theorem snoc_ind {P : List α → Prop} (h0 : P []) (h1 : ∀ l x, P l → P (l ++ [x])) (l : List α) : P l := by
  have : ∀ r : List α, P r.reverse := by
    intro r
    induction r with
    | nil => exact h0
    | cons a r ih => rw [List.reverse_cons]; exact h1 _ _ ih
  have := this l.reverse
  rwa [List.reverse_reverse] at this

theorem rk_sorted (hb : Ahd b) {l : List α} (h : CprL b l) : (rk b l).Pairwise (fun x y => b x y = true) := by
  induction l using snoc_ind with
  | h0 => exact List.Pairwise.nil
  | h1 l x ih =>
    obtain ⟨h1, h2⟩ := h.snoc
    rw [rk_snoc]
    exact ins_sorted hb (ih h1) fun a ha => h2 a (rk_mem.1 ha)
/-! ### The place of a new element -/
theorem ahn_lt [Inhabited α] (hb : Ahd b) : ∀ {l : List α} {x : α} {k : Nat}, l.Pairwise (fun x y => b x y = true) → k < l.length → (b (lget l k) x = true ↔ k < ahn b l x)
  | [], x, k, _, hk => by simp at hk
  | a :: l, x, k, hs, hk => by
    obtain ⟨h1, h2⟩ := List.pairwise_cons.1 hs
    unfold ahn
    cases k with
    | zero =>
      have : lget (a :: l) 0 = a := rfl
      rw [this]
      split <;> simp_all
    | succ k =>
      have hk' : k < l.length := by simpa using hk
      have he : lget (a :: l) (k + 1) = lget l k := by rw [lget_eq _ hk, lget_eq _ hk']; rfl
      rw [he, ahn_lt hb h2 hk']
      split
      · omega
      · rename_i hax
        constructor
        · intro hlt
          have h5 := (ahn_lt hb h2 hk').2 hlt
          have h6 := h1 (lget l k) (by rw [lget_eq _ hk']; exact List.getElem_mem _)
          exact absurd (hb.trans _ _ _ h6 h5) hax
        · intro h; omega
end Gv

namespace Go.Proofs.Ytmlgdkccoomiaaa
open Go Gv
set_option linter.unusedVariables false
set_option linter.unusedSimpArgs false

theorem IndexFunc_api_Key {xs : List T_api_Key} {f : T_api_Key → Option Bool} {g : T_api_Key → Bool} (hf : ∀ x ∈ xs, f x = some (g x)) (hl : xs.length < 2 ^ 62) :
    Tot (L_slices_IndexFunc_api_Key xs f) (fun r => (r = -1 ∧ ∀ x ∈ xs, g x = false) ∨ ∃ i : Nat, i < xs.length ∧ r = i ∧ g (lget xs i) = true ∧ ∀ j, j < i → g (lget xs j) = false) := by
  unfold L_slices_IndexFunc_api_Key
  refine Tot.loop xs.length (fun k s => s = (k : Int) ∧ ∀ j, j < k → g (lget xs j) = false) (by omega) ⟨rfl, fun j hj => by omega⟩ (fun k s hk hi => ?_) (fun s hi => ?_)
  · obtain ⟨e1, e2⟩ := hi; subst e1
    refine Tot.cond (fun _ => ?_) (fun h => by simp at h; omega)
    refine .idx rfl hk (.eq (hf _ (by rw [lget_eq xs hk]; exact List.getElem_mem hk)) (.cond (fun h => .ret ?_) (fun h => .ret ⟨w64_succ (by omega), fun j hj => ?_⟩)))
    · exact .ret (.inr ⟨k, hk, rfl, h, e2⟩)
    · by_cases hjk : j = k
      · subst hjk; exact h
      · exact e2 j (by omega)
  · obtain ⟨e1, e2⟩ := hi; subst e1
    refine ⟨_, by simp; rfl, ?_⟩
    refine .ret (.inl ⟨rfl, fun x hx => ?_⟩)
    obtain ⟨j, hj, rfl⟩ := List.mem_iff_getElem.1 hx
    rw [← lget_eq xs hj]; exact e2 j hj
end Go.Proofs.Ytmlgdkccoomiaaa

namespace Go.Proofs.Ytmlgdkccoomiaaa
open Go Gv
set_option linter.unusedVariables false
set_option linter.unusedSimpArgs false
set_option maxRecDepth 100000

theorem _root_.Gv.Tot.get {β : Type} {m : Option β} {v : β} (h : Tot m (fun r => r = v)) : m = some v := by
  obtain ⟨r, h1, rfl⟩ := h; exact h1

/-- what a match covers -/
def cvm (kind b : Int) (m : T_api_Match) (x : T_api_Value) : Bool :=
  if m.f_Present = false then true
  else if kind = 1 then decide (x = m.f_Value)
  else if kind = 2 then (List.range 128).all fun j => !lead b m.f_Prefix j || (vb x j == vb m.f_Value j)
  else if kind = 3 then decide (band x m.f_Mask = m.f_Value)
  else !vlt x m.f_Value && !vlt m.f_High x

/-- does an entry of table k match a point -/
def mt (s : T_api_Schema) (k : Nat) (p : Vector T_api_Value 4) (e : T_api_Entry) : Bool :=
  (List.range (lget s.f_Tables k).f_Keys.length).all fun i => cvm (lget (lget s.f_Tables k).f_Keys i).f_Kind (kb (lget (lget s.f_Tables k).f_Keys i)) (lget e.f_Matches i) (vget p i)

theorem etable_eq {s : T_api_Schema} (h : SchOk s) {k : Nat} (hk : k < 4) {e : T_api_Entry} (he : e.f_Table = (k : Int) + 1) : L_entry_table s e = some (lget s.f_Tables k, true) := by
  refine Tot.get ?_
  unfold L_entry_table
  rw [he]
  refine (cTableOf_ok h hk).bind fun r hr => ?_
  subst hr
  rw [show decide ((k : Int) < 0) = false from decide_eq_false (by omega), cond_false]
  exact .idx rfl (by have := h.tlen; omega) (.ret rfl)

/-- the prefix of an entry of table k -/
def pxl : List T_api_Key → List T_api_Match → Int
  | key :: ks, m :: ms => if key.f_Kind = 2 then m.f_Prefix else pxl ks ms
  | _, _ => 0
theorem pxl_at : ∀ {ks : List T_api_Key} {ms : List T_api_Match} {i : Nat}, ms.length = ks.length → i < ks.length → (lget ks i).f_Kind = 2 → (∀ j, j < i → (lget ks j).f_Kind ≠ 2) → pxl ks ms = (lget ms i).f_Prefix
  | [], _, i, _, hi, _, _ => by simp at hi
  | key :: ks, [], i, hl, _, _, _ => by simp at hl
  | key :: ks, m :: ms, 0, _, _, h2, _ => by
    have : (lget (key :: ks) 0) = key := rfl
    rw [this] at h2
    unfold pxl; rw [if_pos h2]; rfl
  | key :: ks, m :: ms, i + 1, hl, hi, h2, hn => by
    have h0 := hn 0 (by omega)
    have : (lget (key :: ks) 0) = key := rfl
    rw [this] at h0
    unfold pxl; rw [if_neg h0]
    have hg : ∀ {β : Type} [Inhabited β] (x : β) (l : List β) (n : Nat), lget (x :: l) (n + 1) = lget l n := fun x l n => by simp [lget]
    rw [hg] at h2 ⊢
    exact pxl_at (by simpa using hl) (by simpa using hi) h2 fun j hj => by have := hn (j + 1) (by omega); rwa [hg] at this
theorem pxl_no : ∀ {ks : List T_api_Key} {ms : List T_api_Match}, (∀ key ∈ ks, key.f_Kind ≠ 2) → pxl ks ms = 0
  | [], _, _ => by unfold pxl; rfl
  | key :: ks, [], _ => by unfold pxl; rfl
  | key :: ks, m :: ms, hn => by
    unfold pxl; rw [if_neg (hn key (by simp))]
    exact pxl_no fun k hk => hn k (by simp [hk])
def px (s : T_api_Schema) (k : Nat) (e : T_api_Entry) : Int := pxl (lget s.f_Tables k).f_Keys e.f_Matches

theorem ePrefix_eq {s : T_api_Schema} (h : SchOk s) {k : Nat} (hk : k < 4) {e : T_api_Entry} (he : EntOk s k e) : L_entry_Prefix s e = some (px s k e) := by
  obtain ⟨t1, ⟨t2, t3⟩, t4, _⟩ := h.tab hk
  have hm := he.len
  refine Tot.get ?_
  unfold L_entry_Prefix px
  refine .eq (etable_eq h hk he.tab) ?_
  simp only
  refine (IndexFunc_api_Key (g := fun key => key.f_Kind == 2) (fun x hx => rfl) (by omega)).bind fun r hr => .eq rfl ?_
  rcases hr with ⟨rfl, hr⟩ | ⟨i, h1, rfl, h3, h4⟩
  · refine .cond (fun _ => .ret ?_) (fun h => by simp at h)
    rw [pxl_no fun key hkey => by simpa using hr key hkey]
  · have hz : (!true || decide ((i : Int) < 0) || decide ((i : Int) ≥ (e.f_Matches.length : Int))) = false := by simp; omega
    rw [hz, cond_false]
    refine .idx rfl (by omega) (.ret ?_)
    rw [pxl_at hm h1 (by simpa using h3) fun j hj => by simpa using h4 j hj]

theorem rPrefix_eq {s : T_api_Schema} (h : SchOk s) {k : Nat} (hk : k < 4) {e : T_api_Entry} (he : EntOk s k e) : L_ref10_Prefix s e = some (px s k e) := by
  obtain ⟨t1, ⟨t2, t3⟩, t4, _⟩ := h.tab hk
  have hm := he.len
  refine Tot.get ?_
  unfold L_ref10_Prefix px
  rw [he.tab]
  refine (rTableOf_ok h hk).bind fun r hr => ?_
  subst hr
  rw [show decide ((k : Int) < 0) = false from decide_eq_false (by omega), cond_false]
  refine .idx rfl (by have := h.tlen; omega) ?_
  refine Tot.loop (lget s.f_Tables k).f_Keys.length (fun i st => st = (i : Int) ∧ ∀ j, j < i → (lget (lget s.f_Tables k).f_Keys j).f_Kind ≠ 2) (by omega) ⟨rfl, fun j hj => by omega⟩ (fun i st hi hs => ?_) (fun st hs => ?_)
  · obtain ⟨rfl, hs⟩ := hs
    refine .cond (fun _ => ?_) (fun h => by simp at h; omega)
    refine .idx rfl hi (.eq rfl (.cond (fun hc => ?_) fun hc => .ret ⟨w64_succ (by omega), fun j hj => ?_⟩))
    · simp only [Bool.and_eq_true, beq_iff_eq] at hc
      refine .idx rfl (by omega) (.ret ?_)
      simp only [Sum.elim_inr]
      exact .ret (pxl_at hm hi hc.1 hs).symm
    · by_cases hji : j = i
      · subst hji
        have hd : decide ((j : Int) < (e.f_Matches.length : Int)) = true := by simp; omega
        rw [hd, Bool.and_true] at hc
        simpa using hc
      · exact hs j (by omega)
  · obtain ⟨rfl, hs⟩ := hs
    rw [show decide (((lget s.f_Tables k).f_Keys.length : Int) < ((lget s.f_Tables k).f_Keys.length : Int)) = false by simp]
    refine ⟨_, rfl, ?_⟩
    simp only [Sum.elim_inl]
    refine .ret (pxl_no fun key hkey => ?_).symm
    obtain ⟨j, hj, rfl⟩ := List.mem_iff_getElem.1 hkey
    rw [← lget_eq _ hj]; exact hs j hj

/-- a wins over c -/
def bt (s : T_api_Schema) (k : Nat) (a c : T_api_Installed) : Bool :=
  decide (c.f_Entry.f_Priority < a.f_Entry.f_Priority ∨ (a.f_Entry.f_Priority = c.f_Entry.f_Priority ∧ (px s k c.f_Entry < px s k a.f_Entry ∨ (px s k a.f_Entry = px s k c.f_Entry ∧ c.f_Number < a.f_Number))))
theorem bt_ahd (s : T_api_Schema) (k : Nat) : Ahd (bt s k) where
  asymm x y h := by
    unfold bt at *
    rw [decide_eq_true_eq] at h
    rw [decide_eq_false_iff_not]; omega
  trans x y z h h' := by
    unfold bt at *
    rw [decide_eq_true_eq] at *
    omega
theorem bt_cpr {s : T_api_Schema} {k : Nat} {a c : T_api_Installed} (h : a.f_Number ≠ c.f_Number) : Cpr (bt s k) a c := by
  unfold Cpr bt
  rw [decide_eq_true_eq, decide_eq_true_eq]; omega

def sg (x y : Int) : Int := if x < y then -1 else if y < x then 1 else 0
theorem cmp_eq (x y : Int) : L_cmp_Compare_int x y = some (sg x y) := by
  unfold L_cmp_Compare_int L_cmp_isNaN_int sg
  have : ∀ z : Int, (z != z) = false := fun z => by simp
  rw [this, this]
  simp only [Option.bind_some, cond_false]
  by_cases h1 : x < y
  · simp [h1]
  · by_cases h2 : y < x
    · simp [h1, h2]
    · simp [h1, h2]
theorem first_eq (a c d : Int) : L_entry_first [a, c, d] = some (if a ≠ 0 then a else if c ≠ 0 then c else d) := by
  refine Tot.get ?_
  unfold L_entry_first
  refine Tot.loop 3 (fun i st => st = (i : Int) ∧ ∀ j, j < i → lget [a, c, d] j = 0) (by omega) ⟨rfl, fun j hj => by omega⟩ (fun i st hi hs => ?_) (fun st hs => ?_)
  · obtain ⟨rfl, hs⟩ := hs
    refine .cond (fun _ => ?_) (fun h => by simp at h; omega)
    refine .idx rfl (by simpa using hi) (.cond (fun hc => .ret ?_) fun hc => .ret ⟨w64_succ (by omega), fun j hj => ?_⟩)
    · simp only [Sum.elim_inr]
      refine .ret ?_
      have h0 := hs 0
      have h1 := hs 1
      rcases (show i = 0 ∨ i = 1 ∨ i = 2 by omega) with rfl | rfl | rfl
      · have : a ≠ 0 := by simpa [lget] using hc
        rw [if_pos this]; rfl
      · have : c ≠ 0 := by simpa [lget] using hc
        have h0' : a = 0 := by simpa [lget] using h0 (by omega)
        rw [if_neg (by simpa using h0'), if_pos this]; rfl
      · have h0' : a = 0 := by simpa [lget] using h0 (by omega)
        have h1' : c = 0 := by simpa [lget] using h1 (by omega)
        rw [if_neg (by simpa using h0'), if_neg (by simpa using h1')]; rfl
    · by_cases hji : j = i
      · subst hji; simpa using hc
      · exact hs j (by omega)
  · obtain ⟨rfl, hs⟩ := hs
    refine ⟨_, rfl, ?_⟩
    simp only [Sum.elim_inl]
    refine .ret ?_
    have h0 : a = 0 := by simpa [lget] using hs 0 (by omega)
    have h1 : c = 0 := by simpa [lget] using hs 1 (by omega)
    have h2 : d = 0 := by simpa [lget] using hs 2 (by omega)
    simp [h0, h1, h2]

theorem eBeats_eq {s : T_api_Schema} (h : SchOk s) {k : Nat} (hk : k < 4) {a c : T_api_Installed} (ha : EntOk s k a.f_Entry) (hc : EntOk s k c.f_Entry) : L_entry_Beats s a c = some (bt s k a c) := by
  unfold L_entry_Beats bt
  rw [cmp_eq, Option.bind_some, ePrefix_eq h hk ha, Option.bind_some, ePrefix_eq h hk hc, Option.bind_some, cmp_eq, Option.bind_some, cmp_eq, Option.bind_some, first_eq, Option.bind_some]
  congr 1
  rw [decide_eq_decide]
  unfold sg
  split <;> split <;> (repeat' split) <;> omega

theorem rBeats_eq {s : T_api_Schema} (h : SchOk s) {k : Nat} (hk : k < 4) {a c : T_api_Installed} (ha : EntOk s k a.f_Entry) (hc : EntOk s k c.f_Entry) : L_ref10_Beats s a c = some (bt s k a c) := by
  refine Tot.get ?_
  unfold L_ref10_Beats bt
  refine .cond (fun h1 => .ret ?_) fun h1 => .eq (rPrefix_eq h hk ha) (.eq (rPrefix_eq h hk hc) (.cond (fun h2 => .ret ?_) fun h2 => .ret ?_))
  · rw [decide_eq_decide]; simp at h1; omega
  · rw [decide_eq_decide]; simp at h1 h2; omega
  · rw [decide_eq_decide]; simp at h1 h2; omega
end Go.Proofs.Ytmlgdkccoomiaaa

namespace Go.Proofs.Ytmlgdkccoomiaaa
open Go Gv
set_option linter.unusedVariables false
set_option linter.unusedSimpArgs false

theorem IndexFunc_api_Installed {xs : List T_api_Installed} {f : T_api_Installed → Option Bool} {g : T_api_Installed → Bool} (hf : ∀ x ∈ xs, f x = some (g x)) (hl : xs.length < 2 ^ 62) :
    Tot (L_slices_IndexFunc_api_Installed xs f) (fun r => (r = -1 ∧ ∀ x ∈ xs, g x = false) ∨ ∃ i : Nat, i < xs.length ∧ r = i ∧ g (lget xs i) = true ∧ ∀ j, j < i → g (lget xs j) = false) := by
  unfold L_slices_IndexFunc_api_Installed
  refine Tot.loop xs.length (fun k s => s = (k : Int) ∧ ∀ j, j < k → g (lget xs j) = false) (by omega) ⟨rfl, fun j hj => by omega⟩ (fun k s hk hi => ?_) (fun s hi => ?_)
  · obtain ⟨e1, e2⟩ := hi; subst e1
    refine Tot.cond (fun _ => ?_) (fun h => by simp at h; omega)
    refine .idx rfl hk (.eq (hf _ (by rw [lget_eq xs hk]; exact List.getElem_mem hk)) (.cond (fun h => .ret ?_) (fun h => .ret ⟨w64_succ (by omega), fun j hj => ?_⟩)))
    · exact .ret (.inr ⟨k, hk, rfl, h, e2⟩)
    · by_cases hjk : j = k
      · subst hjk; exact h
      · exact e2 j (by omega)
  · obtain ⟨e1, e2⟩ := hi; subst e1
    refine ⟨_, by simp; rfl, ?_⟩
    refine .ret (.inl ⟨rfl, fun x hx => ?_⟩)
    obtain ⟨j, hj, rfl⟩ := List.mem_iff_getElem.1 hx
    rw [← lget_eq xs hj]; exact e2 j hj
end Go.Proofs.Ytmlgdkccoomiaaa

namespace Go.Proofs.Ytmlgdkccoomiaaa
open Go Gv
set_option linter.unusedVariables false
set_option linter.unusedSimpArgs false
set_option maxRecDepth 100000

/-- an installed entry of table k, not too long -/
structure IOk (s : T_api_Schema) (k : Nat) (i : T_api_Installed) : Prop where
  ent : EntOk s k i.f_Entry

theorem own_eq' {i : T_api_Installed} (h1 : i.f_Entry.f_Matches.length ≤ 1000) (h2 : i.f_Entry.f_Args.length ≤ 1000) : L_own_Installed i = some i := by
  unfold L_own_Installed L_own_Entry L_slices_Clone_api_Match L_slices_Clone_api_Value
  rw [app_small _ _ (by simp; omega) (by omega), app_small _ _ (by simp; omega) (by omega)]
  rfl
theorem own_eq {s : T_api_Schema} (h : SchOk s) {k : Nat} (hk : k < 4) {i : T_api_Installed} (hi : IOk s k i) : L_own_Installed i = some i := by
  have h1 := hi.ent.len
  have h2 := hi.ent.args
  have h3 := (h.tab hk).2.1.2
  exact own_eq' (by omega) (by omega)

def hasN (l : List T_api_Installed) (n : Int) : Bool := l.any fun c => c.f_Number == n
theorem findb (x : T_ordered_List) (n : Int) (hl : x.f_l.length ≤ 1000) : Tot ((L_slices_IndexFunc_api_Installed x.f_l (fun a0 => L_ordered_List_find_fn1 a0 n)).bind fun y1 => some y1) (fun r => (r = -1 ∧ hasN x.f_l n = false) ∨ ∃ i : Nat, i < x.f_l.length ∧ r = i ∧ (lget x.f_l i).f_Number = n ∧ hasN x.f_l n = true ∧ ∀ j, j < i → (lget x.f_l j).f_Number ≠ n) := by
  refine (IndexFunc_api_Installed (g := fun c => c.f_Number == n) (fun c hc => rfl) (by omega)).bind fun r hr => .ret ?_
  rcases hr with ⟨h1, h2⟩ | ⟨i, h1, h2, h3, h4⟩
  · exact .inl ⟨h1, by unfold hasN; rw [List.any_eq_false]; exact fun c hc => by simp [h2 c hc]⟩
  · refine .inr ⟨i, h1, h2, by simpa using h3, ?_, fun j hj => by simpa using h4 j hj⟩
    unfold hasN; rw [List.any_eq_true]
    exact ⟨lget x.f_l i, by rw [lget_eq _ h1]; exact List.getElem_mem _, h3⟩

theorem order_eq {s : T_api_Schema} (h : SchOk s) {k : Nat} (hk : k < 4) {x : T_ordered_List} (hx : x.f_schema = s) {a c : T_api_Installed} (ha : IOk s k a) (hc : IOk s k c) :
    Tot (Lf0_ordered_List_order x a c) (fun r => r < 0 ↔ bt s k a c = true) := by
  unfold Lf0_ordered_List_order
  rw [hx]
  refine .eq (eBeats_eq h hk ha.ent hc.ent) (.cond (fun hb => .ret ⟨fun _ => hb, fun _ => by omega⟩) fun hb => .eq (eBeats_eq h hk hc.ent ha.ent) (.cond (fun _ => .ret ?_) fun _ => .ret ?_))
  · rw [hb]; simp
  · rw [hb]; simp

theorem mid_eq {i j : Nat} (h : i + j < 2 ^ 62) : w64 ((BitVec.ofInt 64 (w64 ((i : Int) + (j : Int)))) >>> (1#64).toNat).toNat = (((i + j) / 2 : Nat) : Int) := by
  rw [show (i : Int) + (j : Int) = ((i + j : Nat) : Int) by omega, w64_in (x := ((i + j : Nat) : Int)) (by omega) (by omega)]
  have : ((BitVec.ofInt 64 ((i + j : Nat) : Int)) >>> (1#64).toNat).toNat = (i + j) / 2 := by
    rw [BitVec.toNat_ushiftRight, cnt_nat (by omega)]
    rw [show (1#64).toNat = 1 from rfl, Nat.shiftRight_eq_div_pow, Nat.pow_one]
  rw [this, w64_in (by omega) (by omega)]

theorem search_eq {l : List T_api_Installed} {x : T_api_Installed} {b : T_api_Installed → T_api_Installed → Bool} (hb : Ahd b) (hs : l.Pairwise (fun x y => b x y = true)) (hl : l.length ≤ 1000)
    {f : T_api_Installed → T_api_Installed → Option Int} (hf : ∀ a ∈ l, Tot (f a x) (fun r => r < 0 ↔ b a x = true)) :
    Tot (L_slices_BinarySearchFunc_api_Installed l x f) (fun r => r.1 = (ahn b l x : Int)) := by
  unfold L_slices_BinarySearchFunc_api_Installed
  have hA := ahn_le (b := b) (l := l) (x := x)
  have hmem : ∀ h, h < l.length → lget l h ∈ l := fun h hh => by rw [lget_eq _ hh]; exact List.getElem_mem _
  have hend : ∀ q : Bool, Tot ((condM (decide (((ahn b l x : Nat) : Int) < (l.length : Int))) true (idx l.length ((ahn b l x : Nat) : Int))).bind fun k2 =>
      (condM (decide (((ahn b l x : Nat) : Int) < (l.length : Int))) true (f (lget l k2) x)).bind fun y2 => some (((ahn b l x : Nat) : Int), (decide (((ahn b l x : Nat) : Int) < (l.length : Int))) && (y2 == 0))) (fun r => r.1 = (ahn b l x : Int)) := fun _ => by
    refine .condM (P := fun c => c = ahn b l x) (fun h => ⟨_, idx_nat (by simpa using h), rfl⟩) fun k2 h2 => .condM (P := fun _ => True) (fun h => ?_) fun y2 _ => .ret rfl
    rw [h2 h]
    exact (hf _ (hmem _ (by simpa using h))).mono fun _ _ => trivial
  refine Tot.loop l.length (fun r st => ∃ i j : Nat, st = ((i : Int), (j : Int)) ∧ i ≤ ahn b l x ∧ ahn b l x ≤ j ∧ j ≤ l.length ∧ j - i ≤ l.length - r) (by omega) ⟨0, l.length, rfl, by omega, by omega, by omega, by omega⟩ (fun r st hr hst => ?_) (fun st hst => ?_)
  · obtain ⟨i, j, rfl, h1, h2, h3, h4⟩ := hst
    refine .cond (fun hc => ?_) fun hc => .ret ?_
    · have hij : i < j := by simpa using hc
      rw [mid_eq (by omega)]
      have hm : (i + j) / 2 < l.length := by omega
      refine .idx rfl hm ((hf _ (hmem _ hm)).bind fun y1 hy1 => ?_)
      have hlt := ahn_lt hb (x := x) hs hm
      refine .bind (P := fun m => ∃ i j : Nat, m = ((i : Int), (j : Int)) ∧ i ≤ ahn b l x ∧ ahn b l x ≤ j ∧ j ≤ l.length ∧ j - i ≤ l.length - (r + 1)) (.cond (fun hy => .eq rfl (.ret ?_)) fun hy => .ret ?_) fun m hm => .ret ?_
      · have := hlt.1 (hy1.1 (by simpa using hy))
        refine ⟨(i + j) / 2 + 1, j, ?_, by omega, h2, h3, by omega⟩
        simp only [w64_succ (show (i + j) / 2 < 2 ^ 62 by omega)]
      · have : ¬ (i + j) / 2 < ahn b l x := fun hh => by
          have := hy1.2 (hlt.2 hh)
          simp at hy; omega
        exact ⟨i, (i + j) / 2, rfl, h1, by omega, by omega, by omega⟩
      · obtain ⟨i', j', rfl, h5⟩ := hm
        exact ⟨i', j', rfl, h5⟩
    · have hij : ¬ i < j := by simpa using hc
      have : i = ahn b l x := by omega
      subst this
      exact hend true
  · obtain ⟨i, j, rfl, h1, h2, h3, h4⟩ := hst
    have hij : i = ahn b l x := by omega
    have hc : decide ((i : Int) < (j : Int)) = false := by simp; omega
    simp only [hc, cond_false]
    refine ⟨_, rfl, ?_⟩
    subst hij
    exact hend true

/-- a list as the laws keep it -/
structure LOk (s : T_api_Schema) (k : Nat) (l : List T_api_Installed) : Prop where
  ok : ∀ i ∈ l, IOk s k i
  num : l.Pairwise fun a c => a.f_Number ≠ c.f_Number
  len : l.length ≤ 900
theorem LOk.cpr {s : T_api_Schema} {k : Nat} {l : List T_api_Installed} (h : LOk s k l) : CprL (bt s k) l := h.num.imp fun hh => bt_cpr hh
theorem LOk.rk {s : T_api_Schema} {k : Nat} {l : List T_api_Installed} (h : LOk s k l) : (∀ i ∈ rk (bt s k) l, IOk s k i) ∧ (rk (bt s k) l).length ≤ 900 :=
  ⟨fun i hi => h.ok i (rk_mem.1 hi), by rw [rk_len]; exact h.len⟩
theorem hasN_rk {s : T_api_Schema} {k : Nat} {l : List T_api_Installed} {n : Int} : hasN (rk (bt s k) l) n = hasN l n := by
  unfold hasN
  rw [Bool.eq_iff_iff, List.any_eq_true, List.any_eq_true]
  exact ⟨fun ⟨c, h1, h2⟩ => ⟨c, rk_mem.1 h1, h2⟩, fun ⟨c, h1, h2⟩ => ⟨c, rk_mem.2 h1, h2⟩⟩
theorem hasN_no {l : List T_api_Installed} {n : Int} (h : hasN l n = false) : ∀ c ∈ l, c.f_Number ≠ n := fun c hc => by
  unfold hasN at h
  rw [List.any_eq_false] at h
  simpa using h c hc
theorem LOk.snoc {s : T_api_Schema} {k : Nat} {l : List T_api_Installed} (h : LOk s k l) {i : T_api_Installed} (hi : IOk s k i) (hn : hasN l i.f_Number = false) (hl : l.length < 900) : LOk s k (l ++ [i]) where
  ok c hc := by
    rcases List.mem_append.1 hc with hc | hc
    · exact h.ok c hc
    · rw [List.mem_singleton.1 hc]; exact hi
  num := by
    rw [List.pairwise_append]
    exact ⟨h.num, by simp, fun a ha c hc => by rw [List.mem_singleton.1 hc]; exact hasN_no hn a ha⟩
  len := by simp; omega

/-- the list that holds l -/
def olist (s : T_api_Schema) (k : Nat) (l : List T_api_Installed) : T_ordered_List := { f_schema := s, f_l := rk (bt s k) l }

theorem Put_eq {s : T_api_Schema} (h : SchOk s) {k : Nat} (hk : k < 4) {l : List T_api_Installed} (hl : LOk s k l) {i : T_api_Installed} (hi : IOk s k i) (hlen : l.length < 900) :
    Lh0_1_ordered_List_Put (olist s k l) i = some (!hasN l i.f_Number, if hasN l i.f_Number = true then olist s k l else olist s k (l ++ [i])) := by
  refine Tot.get ?_
  unfold Lh0_1_ordered_List_Put
  obtain ⟨r1, r2⟩ := hl.rk
  refine .condM (fun _ => findb (olist s k l) _ (by show (rk _ l).length ≤ 1000; omega)) fun y1 h1 => ?_
  have h1 := h1 rfl
  rw [Bool.false_or]
  rcases h1 with ⟨rfl, h2⟩ | ⟨j, h2, rfl, h3, h4, h5⟩
  · have h2' : hasN l i.f_Number = false := by rw [← h2]; exact hasN_rk.symm
    refine .cond (fun hc => by simp at hc) fun _ => ?_
    refine (search_eq (b := bt s k) (bt_ahd s k) (rk_sorted (bt_ahd s k) hl.cpr) (by omega) fun a ha => order_eq h hk rfl (r1 a ha) hi).bind fun y2 hy2 => .eq (own_eq h hk hi) ?_
    rw [hy2]
    unfold Lp0_2_slices_Insert_api_Installed
    have hA := ahn_le (b := bt s k) (l := rk (bt s k) l) (x := i)
    refine .eq (a := rk (bt s k) (l ++ [i])) ?_ (.ret ?_)
    · show insM 88 (rk (bt s k) l) _ _ = _
      unfold insM
      have hml : maxLen = 9223372036854775807 := rfl
      rw [if_pos ⟨by omega, by omega, by simp, by simp <;> omega, by simp <;> omega⟩, rk_snoc, ins_eq]
      simp
    · rw [h2']; rfl
  · have h4' : hasN l i.f_Number = true := by rw [← h4]; exact hasN_rk.symm
    refine .cond (fun _ => .ret ?_) fun hc => by simp at hc <;> omega
    rw [h4']; rfl

theorem ownList_eq {s : T_api_Schema} (h : SchOk s) {k : Nat} (hk : k < 4) {l : List T_api_Installed} (hl : ∀ i ∈ l, IOk s k i) (hn : l.length ≤ 1000) : Ll0_own_List l = some l := by
  refine Tot.get ?_
  unfold Ll0_own_List
  refine Tot.loop l.length (fun i st => st = ((i : Int), l.take i)) (by omega) rfl (fun i st hi hs => ?_) (fun st hs => ?_)
  · subst hs
    refine .cond (fun _ => ?_) (fun hc => by simp at hc; omega)
    refine .idx rfl hi (.eq (own_eq h hk (hl _ (by rw [lget_eq _ hi]; exact List.getElem_mem _))) (.eq (app_small _ _ (by simp; omega) (by omega)) (.ret ?_)))
    rw [w64_succ (by omega), take_succ_lget l hi]
  · subst hs
    refine ⟨_, by simp; rfl, .ret ?_⟩
    simp
theorem All_eq {s : T_api_Schema} (h : SchOk s) {k : Nat} (hk : k < 4) {l : List T_api_Installed} (hl : LOk s k l) : Lh0_1_ordered_List_All (olist s k l) = some (rk (bt s k) l) := by
  unfold Lh0_1_ordered_List_All
  obtain ⟨r1, r2⟩ := hl.rk
  show Option.bind (Ll0_own_List (rk (bt s k) l)) _ = _
  rw [ownList_eq h hk r1 (by omega)]; rfl

theorem Ranked_eq {s : T_api_Schema} (h : SchOk s) {k : Nat} (hk : k < 4) {l : List T_api_Installed} (hl : LOk s k l) : L_ref13_Ranked s l = some (rk (bt s k) l) := by
  refine Tot.get ?_
  unfold L_ref13_Ranked
  have hlen := hl.len
  refine Tot.loop l.length (fun i st => st = (rk (bt s k) (l.take i), (i : Int))) (by omega) rfl (fun i st hi hs => ?_) (fun st hs => ?_)
  · subst hs
    refine .cond (fun _ => ?_) (fun hc => by simp at hc; omega)
    refine .idx rfl hi ?_
    dsimp only
    have hx : IOk s k (lget l i) := hl.ok _ (by rw [lget_eq _ hi]; exact List.getElem_mem _)
    have hcp : CprL (bt s k) (l.take i) := hl.cpr.sublist (List.take_sublist _ _)
    have hso := rk_sorted (bt_ahd s k) hcp
    have hol : (rk (bt s k) (l.take i)).length = i := by rw [rk_len, List.length_take]; omega
    have hok : ∀ c ∈ rk (bt s k) (l.take i), IOk s k c := fun c hc => hl.ok c (List.mem_of_mem_take (rk_mem.1 hc))
    have hA := ahn_le (b := bt s k) (l := rk (bt s k) (l.take i)) (x := lget l i)
    generalize hout : rk (bt s k) (l.take i) = ou at *
    have hfin : ∀ q : Bool, Tot ((sliceM ou 0 ((ahn (bt s k) ou (lget l i) : Nat) : Int)).bind fun y2 =>
        (appM 88 ([] : List T_api_Installed) y2).bind fun y3 => (appM 88 y3 [(lget l i)]).bind fun y4 => (sliceM ou ((ahn (bt s k) ou (lget l i) : Nat) : Int) ou.length).bind fun y5 =>
        (appM 88 y4 y5).bind fun y6 => some (Sum.inl (y6, w64 ((i : Int) + 1)) : (List T_api_Installed × Int) ⊕ (List T_api_Installed × Int × Bool)))
        (fun x => match x with | .inl s' => s' = (rk (bt s k) (l.take (i + 1)), ((i + 1 : Nat) : Int)) | .inr e => Tot (some e.1) (fun r => r = rk (bt s k) l)) := fun _ => by
      refine .eq (a := ou.take (ahn (bt s k) ou (lget l i))) (by unfold sliceM; rw [if_pos ⟨by omega, by omega, by omega⟩]; simp) ?_
      refine .eq (app_small _ _ (by simp; omega) (by omega)) (.eq (app_small _ _ (by simp; omega) (by omega)) (.eq (a := ou.drop (ahn (bt s k) ou (lget l i))) (by unfold sliceM; rw [if_pos ⟨by omega, by omega, by omega⟩, List.take_of_length_le (by simp)]; rfl) (.eq (app_small _ _ (by simp; omega) (by omega)) (.ret ?_))))
      rw [w64_succ (by omega), take_succ_lget l hi, rk_snoc, hout, ins_eq]
      simp
    refine Tot.loop (ahn (bt s k) ou (lget l i)) (fun j st => st = (j : Int)) (by omega) rfl (fun j st hj hs => ?_) (fun st hs => ?_)
    · subst hs
      have hT : decide ((j : Int) < (ou.length : Int)) = true := by simp; omega
      rw [hT]
      refine .condM (P := fun c => c = j) (fun _ => ⟨j, idx_nat (by omega), rfl⟩) fun k2 h2 => ?_
      rw [h2 rfl]
      have hb := (ahn_lt (bt_ahd s k) (x := lget l i) hso (show j < ou.length by omega)).2 hj
      refine .condM (P := fun c => c = bt s k (lget ou j) (lget l i)) (fun _ => ⟨_, rBeats_eq h hk (hok _ (by rw [lget_eq _ (by omega)]; exact List.getElem_mem _)).ent hx.ent, rfl⟩) fun y1 hy => ?_
      rw [hy rfl, hb]
      exact .ret (w64_succ (by omega))
    · subst hs
      by_cases hlt : ahn (bt s k) ou (lget l i) < ou.length
      · have hT : decide (((ahn (bt s k) ou (lget l i) : Nat) : Int) < (ou.length : Int)) = true := by simp; omega
        have hb : bt s k (lget ou (ahn (bt s k) ou (lget l i))) (lget l i) = false := by
          cases hb : bt s k (lget ou (ahn (bt s k) ou (lget l i))) (lget l i) with
          | false => rfl
          | true => have := (ahn_lt (bt_ahd s k) (x := lget l i) hso hlt).1 hb; omega
        rw [hT]
        unfold condM
        rw [if_pos rfl, idx_nat hlt, Option.bind_some, if_pos rfl, rBeats_eq h hk (hok _ (by rw [lget_eq _ hlt]; exact List.getElem_mem _)).ent hx.ent, Option.bind_some, hb]
        exact ⟨_, rfl, (hfin true).mono fun x hx => by cases x <;> exact hx⟩
      · have hT : decide (((ahn (bt s k) ou (lget l i) : Nat) : Int) < (ou.length : Int)) = false := by simp; omega
        rw [hT]
        unfold condM
        rw [if_neg (by simp), Option.bind_some, if_neg (by simp), Option.bind_some]
        exact ⟨_, rfl, (hfin true).mono fun x hx => by cases x <;> exact hx⟩
  · subst hs
    refine ⟨_, by simp; rfl, .ret ?_⟩
    simp

/-! ### Equality of entries -/
theorem rcmp_refl (v : T_api_Value) : L_ref01_Compare v v = some 0 := by
  obtain ⟨r, h1, h2, h3⟩ := rCompare_eq v v
  rw [vlt_irrefl] at h2 h3
  have : r = 0 := by
    have a1 : ¬ r > 0 := fun h => by simpa using h2.1 h
    have a2 : ¬ r < 0 := fun h => by simpa using h3.1 h
    omega
  rw [h1, this]
theorem rmatch_refl (m : T_api_Match) : L_ref10_match m m = some 0 := by
  unfold L_ref10_match
  rw [rcmp_refl, rcmp_refl, rcmp_refl]
  simp
theorem rnum_refl (n : Int) : L_ref10_number n n = some 0 := by
  unfold L_ref10_number
  simp
theorem rmatches_refl (l : List T_api_Match) (hl : l.length ≤ 1000) : L_ref10_matches l l = some 0 := by
  refine Tot.get ?_
  unfold L_ref10_matches
  refine Tot.loop l.length (fun i st => st = (i : Int)) (by omega) rfl (fun i st hi hs => ?_) (fun st hs => ?_)
  · subst hs
    refine .cond (fun _ => ?_) (fun hc => by simp at hc; omega)
    exact .idx rfl hi (.idx rfl hi (.eq (rmatch_refl _) (.cond (fun hc => by simp at hc) fun _ => .ret (w64_succ (by omega)))))
  · subst hs
    refine ⟨_, by simp; rfl, ?_⟩
    simp only [Sum.elim_inl]
    exact .eq (rnum_refl _) (.ret rfl)
theorem rvalues_refl (l : List T_api_Value) (hl : l.length ≤ 1000) : L_ref10_values l l = some 0 := by
  refine Tot.get ?_
  unfold L_ref10_values
  refine Tot.loop l.length (fun i st => st = (i : Int)) (by omega) rfl (fun i st hi hs => ?_) (fun st hs => ?_)
  · subst hs
    refine .cond (fun _ => ?_) (fun hc => by simp at hc; omega)
    exact .idx rfl hi (.idx rfl hi (.eq (rcmp_refl _) (.cond (fun hc => by simp at hc) fun _ => .ret (w64_succ (by omega)))))
  · subst hs
    refine ⟨_, by simp; rfl, ?_⟩
    simp only [Sum.elim_inl]
    exact .eq (rnum_refl _) (.ret rfl)
theorem rCmp_refl {e : T_api_Entry} (h1 : e.f_Matches.length ≤ 1000) (h2 : e.f_Args.length ≤ 1000) : L_ref10_Compare e e = some 0 := by
  unfold L_ref10_Compare
  rw [rnum_refl, Option.bind_some, rnum_refl, Option.bind_some, rmatches_refl _ h1, Option.bind_some, rnum_refl, Option.bind_some]
  refine Tot.get ?_
  refine Tot.loop 4 (fun i st => st = (i : Int)) (by omega) rfl (fun i st hi hs => ?_) (fun st hs => ?_)
  · subst hs
    refine .cond (fun _ => ?_) (fun hc => by simp at hc; omega)
    have h0 : lget [(0 : Int), 0, 0, 0] i = 0 := by
      rcases (show i = 0 ∨ i = 1 ∨ i = 2 ∨ i = 3 by omega) with rfl | rfl | rfl | rfl <;> rfl
    refine .idx rfl (by simpa using hi) (.cond (fun hc => by rw [h0] at hc; simp at hc) fun _ => .ret (w64_succ (by omega)))
  · subst hs
    refine ⟨_, rfl, ?_⟩
    simp only [Sum.elim_inl]
    exact .eq (rvalues_refl _ h2) (.ret rfl)
theorem Same_refl {i : T_api_Installed} (h1 : i.f_Entry.f_Matches.length ≤ 1000) (h2 : i.f_Entry.f_Args.length ≤ 1000) : L_ref13_Same i i = some true := by
  unfold L_ref13_Same L_ref10_Same
  rw [rCmp_refl h1 h2]
  simp
theorem IOk.small {s : T_api_Schema} (h : SchOk s) {k : Nat} (hk : k < 4) {i : T_api_Installed} (hi : IOk s k i) : i.f_Entry.f_Matches.length ≤ 1000 ∧ i.f_Entry.f_Args.length ≤ 1000 := by
  have h1 := hi.ent.len
  have h2 := hi.ent.args
  have h3 := (h.tab hk).2.1.2
  exact ⟨by omega, by omega⟩
theorem SameAll_refl {l : List T_api_Installed} (hl : ∀ i ∈ l, i.f_Entry.f_Matches.length ≤ 1000 ∧ i.f_Entry.f_Args.length ≤ 1000) (hn : l.length ≤ 1000) : L_ref13_SameAll l l = some true := by
  refine Tot.get ?_
  unfold L_ref13_SameAll
  refine .cond (fun hc => by simp at hc) fun _ => ?_
  refine Tot.loop l.length (fun i st => st = (i : Int)) (by omega) rfl (fun i st hi hs => ?_) (fun st hs => ?_)
  · subst hs
    refine .cond (fun _ => ?_) (fun hc => by simp at hc; omega)
    have := hl (lget l i) (by rw [lget_eq _ hi]; exact List.getElem_mem _)
    exact .idx rfl hi (.idx rfl hi (.eq (Same_refl this.1 this.2) (.cond (fun hc => by simp at hc) fun _ => .ret (w64_succ (by omega)))))
  · subst hs
    refine ⟨_, by simp; rfl, ?_⟩
    simp only [Sum.elim_inl]
    exact .ret rfl

/-! ### The winner -/
theorem Left_tot (c : T_mcase_Codes) : Tot (Lf0_mcase_Codes_Left c) (fun _ => True) := by
  unfold Lf0_mcase_Codes_Left
  first | exact .ret trivial | exact .eq rfl (.ret trivial)

theorem put_tot {s : T_api_Schema} (h : SchOk s) {k : Nat} (hk : k < 4) {x3 : Int} (hm : L_mcase_Mod x3 (s.f_Tables.length : Int) = some (k : Int)) (c : T_mcase_Codes) (hc : CdOk c) (n : Nat) (hn : n ≤ 100) :
    Tot (Lh0_1_law13_put (olist s k []) c s x3 (n : Int)) (fun r => r.2.1 = true ∧ LOk s k r.1 ∧ (∀ i ∈ r.1, 0 ≤ i.f_Number ∧ i.f_Number < 40) ∧ r.1.length ≤ n ∧ r.2.2.1 = olist s k r.1 ∧ CdOk r.2.2.2) := by
  unfold Lh0_1_law13_put
  have hpost : ∀ (l : List T_api_Installed) (c' : T_mcase_Codes), (LOk s k l ∧ (∀ i ∈ l, 0 ≤ i.f_Number ∧ i.f_Number < 40) ∧ l.length ≤ n ∧ CdOk c') → ((true = true) ∧ LOk s k l ∧ (∀ i ∈ l, 0 ≤ i.f_Number ∧ i.f_Number < 40) ∧ l.length ≤ n ∧ ({ ({ olist s k l with f_l := [] } : T_ordered_List) with f_l := (olist s k l).f_l } : T_ordered_List) = olist s k l ∧ CdOk c') :=
    fun l c' ⟨a1, a2, a3, a4⟩ => ⟨rfl, a1, a2, a3, rfl, a4⟩
  refine Tot.loop n (fun j st => ∃ l c', st = ((j : Int), l, ({ olist s k l with f_l := [] } : T_ordered_List), (olist s k l).f_l, c') ∧ LOk s k l ∧ (∀ i ∈ l, 0 ≤ i.f_Number ∧ i.f_Number < 40) ∧ l.length ≤ j ∧ CdOk c') (by omega)
    ⟨[], c, rfl, ⟨by simp, List.Pairwise.nil, by simp⟩, by simp, by simp, hc⟩ (fun j st hj hs => ?_) (fun st hs => ?_)
  · obtain ⟨l, c', rfl, hl, hnum, hlj, hc'⟩ := hs
    refine .condM (P := fun _ => True) (fun _ => Left_tot _) fun y1 _ => ?_
    refine .cond (fun _ => ?_) fun _ => .ret ?_
    · refine (Entry_tot c' x3 hc' h).bind fun y2 ⟨h2, k', hk', hm', he⟩ => ?_
      have hkk : k' = k := by rw [hm] at hm'; simp only [Option.some.injEq] at hm'; omega
      subst hkk
      refine (Next_tot _ 40 h2 (by omega)).bind fun y3 h3 => (Next_tot _ 3 h3.1 (by omega)).bind fun y4 h4 => .eq rfl ?_
      have hi : IOk s k' { f_Entry := y2.1, f_Number := y3.1, f_Owner := y4.1 } := ⟨he⟩
      generalize hz : ({ f_Entry := y2.1, f_Number := y3.1, f_Owner := y4.1 } : T_api_Installed) = z at hi ⊢
      have hzn : z.f_Number = y3.1 := by rw [← hz]
      have hln := hl.len
      refine Tot.loop l.length (fun i st => st = ((l.take i).any (fun c => c.f_Number == z.f_Number), (i : Int))) (by omega) rfl (fun i st hi' hs => ?_) (fun st hs => ?_)
      · subst hs
        refine .cond (fun _ => .idx rfl hi' (.ret ?_)) (fun hc => by simp at hc; omega)
        rw [w64_succ (by omega), take_succ_lget l hi', List.any_append]
        simp
      · subst hs
        refine ⟨_, by simp; rfl, ?_⟩
        show Tot (Option.bind (Lh0_1_ordered_List_Put (olist s k' l) z) _) _
        refine .eq (Put_eq h hk hl hi (by omega)) ?_
        cases hN : hasN l z.f_Number
        · refine .cond (fun hc => ?_) fun _ => ?_
          · exfalso; unfold hasN at hN; rw [hN] at hc; simp at hc
          · unfold hasN at hN
            refine .eq (a := l ++ [z]) (by rw [hN]; simp only [Bool.not_false, cond_true]; rw [app_small _ _ (by simp; omega) (by omega)]; rfl) (.ret ?_)
            refine ⟨l ++ [z], y4.2, ?_, hl.snoc hi hN (by omega), ?_, by simp; omega, h4.1⟩
            · simp only [w64_succ (show j < 2 ^ 62 by omega)]; simp
            · intro i hi2
              rcases List.mem_append.1 hi2 with hi2 | hi2
              · exact hnum i hi2
              · rw [List.mem_singleton.1 hi2, hzn]; exact ⟨h3.2.1, h3.2.2.1⟩
        · refine .cond (fun hc => ?_) fun _ => ?_
          · exfalso; unfold hasN at hN; rw [hN] at hc; simp at hc
          · unfold hasN at hN
            refine .eq (a := l) (by rw [hN]; rfl) (.ret ?_)
            refine ⟨l, y4.2, ?_, hl, hnum, by omega, h4.1⟩
            simp only [w64_succ (show j < 2 ^ 62 by omega)]; simp
    · exact .ret (hpost l c' ⟨hl, hnum, by omega, hc'⟩)
  · obtain ⟨l, c', rfl, hl, hnum, hlj, hc'⟩ := hs
    have hF : decide ((n : Int) < (n : Int)) = false := by simp
    simp only [hF, Bool.false_and, cond_false]
    unfold condM
    rw [if_neg (by simp), Option.bind_some]
    exact ⟨_, rfl, .ret (hpost l c' ⟨hl, hnum, hlj, hc'⟩)⟩
end Go.Proofs.Ytmlgdkccoomiaaa

namespace Go.Proofs.Ytmlgdkccoomiaaa
open Go Gv
set_option linter.unusedVariables false
set_option linter.unusedSimpArgs false
set_option maxRecDepth 100000

theorem begun13_ok : L_law13_begun = some true := by kernel_rfl

end Go.Proofs.Ytmlgdkccoomiaaa

namespace Go.Proofs.Ytmlgdkccoomiaaa
open Go Gv
set_option linter.unusedVariables false
set_option linter.unusedSimpArgs false
set_option maxRecDepth 100000

theorem own13_ok (x0 x1 : List (BitVec 8)) (x2 : Int) : L_law13_OrderedOwn x0 x1 x2 = some true := by
  refine Tot.get ?_
  unfold L_law13_OrderedOwn
  refine (New_tot x0 120 (by omega) (by omega)).bind fun y1 h1 => (Schema_tot y1 h1).bind fun y2 h2 => (New_tot x1 100 (by omega) (by omega)).bind fun y3 h3 => ?_
  obtain ⟨s, c0⟩ := y2
  obtain ⟨h, _⟩ := h2
  simp only at h ⊢
  obtain ⟨m, em, hm0, hm1⟩ := Mod_tot x2 (s.f_Tables.length : Int) (by rw [h.tlen]; omega) (by rw [h.tlen]; omega)
  obtain ⟨k, rfl⟩ := Int.eq_ofNat_of_zero_le hm0
  have hk : k < 4 := by have := h.tlen; omega
  refine .eq (a := ((default : T_api_Installed), false)) rfl ?_
  refine .eq (a := olist s k []) rfl ?_
  refine (show Tot (Lh0_1_law13_put (olist s k []) y3 s x2 6) _ from put_tot h hk em y3 h3 6 (by omega)).bind fun y5 hy => ?_
  obtain ⟨l, ok, x', c'⟩ := y5
  obtain ⟨hok, hl, hnum, hlen, hx', hc'⟩ := hy
  simp only at hok hl hnum hlen hx' hc'
  subst hok hx'
  obtain ⟨r1, r2⟩ := hl.rk
  refine .condM (P := fun r => r = 0) (fun _ => ⟨_, rfl, rfl⟩) fun y7 h7 => ?_
  rw [h7 rfl]
  refine .condM (P := fun r => r = false) (fun _ => ⟨_, rfl, rfl⟩) fun y8 h8 => ?_
  rw [h8 rfl]
  refine .cond (fun hc => by simp at hc) fun _ => ?_
  refine .eq (All_eq h hk hl) (.eq (Ranked_eq h hk hl) (.eq (SameAll_refl (fun i hi => (r1 i hi).small h hk) (by omega)) ?_))
  refine .condM (P := fun r => r = true) (fun _ => ⟨_, begun13_ok, rfl⟩) fun y12 h12 => ?_
  rw [h12 rfl]
  exact .ret rfl
end Go.Proofs.Ytmlgdkccoomiaaa

