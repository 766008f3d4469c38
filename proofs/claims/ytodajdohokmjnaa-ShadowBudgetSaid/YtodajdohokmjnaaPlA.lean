/-
  Loops, vectors and bits in plain Lean: no program in sight. Conditions: none.
-/
import Derived.Test.YtodajdohokmjnaaGvK
namespace Gv
open Go

theorem loop_inv {σ ε : Type} {body : σ → Option (σ ⊕ ε)} {Q : ε → Prop} {s0 : σ} (m : Nat) (I : Nat → σ → Prop)
    (hm : m < 2 ^ 80) (h0 : I 0 s0)
    (hs : ∀ k s, k < m → I k s → (∃ s', body s = some (.inl s') ∧ I (k + 1) s') ∨ (∃ e, body s = some (.inr e) ∧ Q e))
    (he : ∀ s, I m s → ∃ e, body s = some (.inr e) ∧ Q e) : ∃ e, loopM FUEL body s0 = some e ∧ Q e := by
  have key : ∀ n k s, k ≤ m → m - k < n → I k s → ∃ e, loopM n body s = some e ∧ Q e := by
    intro n
    induction n with
    | zero => intro k s _ h; omega
    | succ n ih =>
      intro k s hk hn hi
      by_cases hkm : k = m
      · subst hkm
        obtain ⟨e, h1, h2⟩ := he s hi
        exact ⟨e, by simp [loopM, h1], h2⟩
      · rcases hs k s (by omega) hi with ⟨s', h1, h2⟩ | ⟨e, h1, h2⟩
        · obtain ⟨e, h3, h4⟩ := ih (k + 1) s' (by omega) (by omega) h2
          exact ⟨e, by simp [loopM, h1, h3], h4⟩
        · exact ⟨e, by simp [loopM, h1], h2⟩
  exact key FUEL 0 s0 (by omega) (by unfold FUEL; omega) h0

/-- a loop with one exit at its test -/
theorem loop_for {σ ε : Type} {body : σ → Option (σ ⊕ ε)} {Q : ε → Prop} {s0 : σ} (m : Nat) (I : Nat → σ → Prop)
    (hm : m < 2 ^ 80) (h0 : I 0 s0)
    (hs : ∀ k s, k < m → I k s → ∃ s', body s = some (.inl s') ∧ I (k + 1) s')
    (he : ∀ s, I m s → ∃ e, body s = some (.inr e) ∧ Q e) : ∃ e, loopM FUEL body s0 = some e ∧ Q e :=
  loop_inv m I hm h0 (fun k s hk hi => .inl (hs k s hk hi)) he

/-- a computation that returns, and what it returns -/
def Tot {β : Type} (m : Option β) (P : β → Prop) : Prop := ∃ r, m = some r ∧ P r
theorem Tot.ret {β : Type} {P : β → Prop} {r : β} (h : P r) : Tot (some r) P := ⟨r, rfl, h⟩
theorem Tot.bind {α β : Type} {m : Option α} {f : α → Option β} {P : α → Prop} {Q : β → Prop} (h : Tot m P) (k : ∀ a, P a → Tot (f a) Q) : Tot (m.bind f) Q := by
  obtain ⟨a, h1, h2⟩ := h
  rw [h1]; exact k a h2
theorem Tot.eq {α β : Type} {m : Option α} {a : α} {f : α → Option β} {Q : β → Prop} (h : m = some a) (k : Tot (f a) Q) : Tot (m.bind f) Q := by
  rw [h]; exact k
theorem Tot.mono {β : Type} {m : Option β} {P Q : β → Prop} (h : Tot m P) (k : ∀ a, P a → Q a) : Tot m Q := by
  obtain ⟨a, h1, h2⟩ := h
  exact ⟨a, h1, k a h2⟩
theorem Tot.of_eq {β : Type} {m : Option β} {r : β} {P : β → Prop} (h : Tot m P) (k : m = some r) : P r := by
  obtain ⟨a, h1, h2⟩ := h
  rw [k] at h1; cases h1; exact h2
theorem Tot.cond {β : Type} {b : Bool} {m n : Option β} {P : β → Prop} (h1 : b = true → Tot m P) (h2 : b = false → Tot n P) : Tot (cond b m n) P := by
  cases b
  · exact h2 rfl
  · exact h1 rfl
theorem Tot.condM {α β : Type} [Inhabited α] {b w : Bool} {m : Option α} {f : α → Option β} {P : α → Prop} {Q : β → Prop} (h : b = w → Tot m P) (k : ∀ a, (b = w → P a) → Tot (f a) Q) : Tot ((condM b w m).bind f) Q := by
  unfold Gv.condM
  by_cases hb : b = w
  · rw [if_pos hb]; exact (h hb).bind fun a ha => k a fun _ => ha
  · rw [if_neg hb]; exact k default fun h => absurd h hb
/-- a round: it goes on, or leaves -/
def Rnd {σ ε : Type} (m : Option (σ ⊕ ε)) (I : σ → Prop) (Q : ε → Prop) : Prop := Tot m (fun x => match x with | .inl s => I s | .inr e => Q e)
theorem Tot.loop {σ ε β : Type} {body : σ → Option (σ ⊕ ε)} {f : ε → Option β} {P : β → Prop} {s0 : σ} (m : Nat) (I : Nat → σ → Prop)
    (hm : m < 2 ^ 80) (h0 : I 0 s0)
    (hs : ∀ k s, k < m → I k s → Tot (body s) (fun x => match x with | .inl s' => I (k + 1) s' | .inr e => Tot (f e) P))
    (he : ∀ s, I m s → ∃ e, body s = some (.inr e) ∧ Tot (f e) P) : Tot ((loopM FUEL body s0).bind f) P := by
  obtain ⟨e, h1, h2⟩ := loop_inv (Q := fun e => Tot (f e) P) m I hm h0 (fun k s hk hi => by
    obtain ⟨r, h1, h2⟩ := hs k s hk hi
    cases r with
    | inl s' => exact .inl ⟨s', h1, h2⟩
    | inr e => exact .inr ⟨e, h1, h2⟩) he
  rw [h1]; exact h2
theorem Tot.idx {β : Type} {n : Nat} {i : Int} {k : Nat} {f : Nat → Option β} {Q : β → Prop} (hi : i = k) (hk : k < n) (h : Tot (f k) Q) : Tot ((Gv.idx n i).bind f) Q := by
  subst hi
  have : Gv.idx n (k : Int) = some k := by unfold Gv.idx; rw [if_pos (by omega)]; simp
  rw [this]; exact h

theorem vget_vset {α : Type} [Inhabited α] {n : Nat} (v : Vector α n) {k : Nat} (x : α) (hk : k < n) (j : Nat) : vget (vset v k x) j = if j = k then x else vget v j := by
  unfold vget vset
  by_cases h : j = k
  · subst h; simp [hk]
  · rw [if_neg h, Vector.getElem?_setIfInBounds_ne (by omega)]
theorem vget_ext {α : Type} [Inhabited α] {n : Nat} {v w : Vector α n} (h : ∀ j, j < n → vget v j = vget w j) : v = w := by
  apply Vector.ext
  intro i hi
  have := h i hi
  simpa [vget, hi] using this
theorem vget_default {α : Type} [Inhabited α] {n : Nat} (j : Nat) : vget (default : Vector α n) j = default := by
  show vget (Vector.replicate n default) j = default
  unfold vget
  by_cases h : j < n <;> simp [h]
theorem idx_nat {n k : Nat} (h : k < n) : idx n (k : Int) = some k := by
  unfold idx; rw [if_pos (by omega)]; simp
theorem idx_int {n : Nat} {i : Int} (h : 0 ≤ i) (h' : i < n) : idx n i = some i.toNat := by
  unfold idx; rw [if_pos ⟨h, h'⟩]
theorem w64_succ {k : Nat} (h : k < 2 ^ 62) : w64 ((k : Int) + 1) = ((k + 1 : Nat) : Int) := by
  rw [w64_in (by omega) (by omega)]; simp
theorem cnt_nat {k : Nat} (h : k < 2 ^ 64) : (BitVec.ofInt 64 (k : Int)).toNat = k := by
  simp; omega
theorem bit_one (x : BitVec 64) : ((x &&& 1#64) == 1#64) = x.getLsbD 0 := by
  rw [BitVec.and_one_eq_setWidth_ofBool_getLsbD]
  cases x.getLsbD 0 <;> rfl
theorem bit_test (x : BitVec 64) (n : Nat) : (((x >>> n) &&& 1#64) == 1#64) = x.getLsbD n := by
  rw [bit_one]; simp
theorem one_shift (k j : Nat) : ((1#64) <<< k).getLsbD j = (decide (j = k) && decide (j < 64)) := by
  rw [BitVec.getLsbD_shiftLeft]
  by_cases h : j = k
  · subst h; simp
  · have : (1#64).getLsbD (j - k) = decide (j - k = 0) := by
      rw [BitVec.getLsbD_one]; simp
    rw [this]
    by_cases h2 : j < k
    · simp [h2, h]
    · have : ¬ (j - k = 0) := by omega
      simp [h, this]
theorem lget_map {α β : Type} [Inhabited α] [Inhabited β] (f : α → β) {l : List α} {k : Nat} (hk : k < l.length) : lget (l.map f) k = f (lget l k) := by
  rw [lget_eq l hk, lget_eq _ (by simpa using hk), List.getElem_map]
theorem take_succ_lget {α : Type} [Inhabited α] (l : List α) {k : Nat} (hk : k < l.length) : l.take (k + 1) = l.take k ++ [lget l k] := by
  rw [List.take_add_one, List.getElem?_eq_getElem hk, lget_eq l hk]; rfl

theorem find_at {α : Type} [Inhabited α] {xs : List α} {p : α → Bool} {k : Nat} (hk : k < xs.length) (hp : p (lget xs k) = true) (hj : ∀ j, j < k → p (lget xs j) = false) : xs.find? p = some (lget xs k) := by
  rw [List.find?_eq_some_iff_getElem]
  refine ⟨hp, k, hk, (lget_eq xs hk).symm, fun j hjk => ?_⟩
  have := hj j hjk
  rw [lget_eq xs (by omega)] at this
  simp [this]
theorem find_no {α : Type} {xs : List α} {p : α → Bool} (h : ∀ x ∈ xs, p x = false) : xs.find? p = none :=
  List.find?_eq_none.2 fun x hx => by simp [h x hx]

/-- a loop that looks for the first element with a property -/
theorem find_loop {α ε β : Type} [Inhabited α] (xs : List α) (p : α → Bool) {body : Int → Option (Int ⊕ ε)} {f : ε → Option β} {P : β → Prop} (hl : xs.length < 2 ^ 62)
    (hgo : ∀ k : Nat, k < xs.length → p (lget xs k) = false → body k = some (.inl (w64 ((k : Int) + 1))))
    (hfound : ∀ k : Nat, k < xs.length → xs.find? p = some (lget xs k) → p (lget xs k) = true → ∃ e, body k = some (.inr e) ∧ Tot (f e) P)
    (hend : xs.find? p = none → ∃ e, body (xs.length : Int) = some (.inr e) ∧ Tot (f e) P) : Tot ((loopM FUEL body 0).bind f) P := by
  refine Tot.loop xs.length (fun k s => s = (k : Int) ∧ ∀ j, j < k → p (lget xs j) = false) (by omega) ⟨rfl, fun j hj => by omega⟩ (fun k s hk hi => ?_) (fun s hi => ?_)
  · obtain ⟨rfl, e2⟩ := hi
    by_cases hp : p (lget xs k) = true
    · obtain ⟨e, h1, h2⟩ := hfound k hk (find_at hk hp e2) hp
      rw [h1]; exact .ret h2
    · simp only [Bool.not_eq_true] at hp
      rw [hgo k hk hp]
      refine .ret ⟨w64_succ (by omega), fun j hj => ?_⟩
      by_cases hjk : j = k
      · subst hjk; exact hp
      · exact e2 j (by omega)
  · obtain ⟨rfl, e2⟩ := hi
    refine hend (find_no fun x hx => ?_)
    obtain ⟨j, hj, rfl⟩ := List.mem_iff_getElem.1 hx
    rw [← lget_eq xs hj]; exact e2 j hj

end Gv
