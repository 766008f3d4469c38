/-
  The library of the decompiler, as far as it is needed here. Conditions: none.
-/
import Derived.Lib.AppendZerosOnto
import Derived.Lib.Overlaps
import Derived.MapKept
import Derived.Maps.RangeRun
import Derived.Test.YtmlgdkccoomiaaaJl0
namespace Gv
open Go
set_option linter.unusedVariables false
set_option linter.unusedSimpArgs false

/-- what is hidden of an operation's effect: addresses, capacities -/
abbrev Hid := Nat → Option Nat
def gm (l : List (Option Nat)) : Hid := fun i => (l[i]?).getD none

/-- an operation of the region: the slot it fills, the operations that have come up ahead of it, the entries it leans on and those it leaves, its value -/
structure Hd where
  slot : Option Nat
  up : List Nat
  rd : List Nat
  wr : List Nat
  τ : (Nat → Hid) → VP
  ent : (Nat → Hid) → Nat → Ent

/-- what operation i knows of what is hidden: its own, and what those have left that came up ahead of it -/
def msk (up : List Nat) (i : Nat) (hd : Nat → Hid) : Nat → Hid := fun j => bif Nat.beq j i || up.any (fun k => Nat.beq k j) then hd j else fun _ => none
def upd (hd : Nat → Hid) (i : Nat) (x : Hid) : Nat → Hid := fun j => bif Nat.beq j i then x else hd j
theorem msk_congr {up : List Nat} {i : Nat} {hd hd' : Nat → Hid} (h : hd i = hd' i) (h' : ∀ k ∈ up, hd k = hd' k) : msk up i hd = msk up i hd' := by
  funext j
  unfold msk
  cases h1 : Nat.beq j i
  · cases h2 : up.any (fun k => Nat.beq k j)
    · rfl
    · obtain ⟨k, hk, he⟩ := List.any_eq_true.1 h2
      have := look_beq.1 he
      subst this
      simp only [Bool.false_or, cond_true]
      exact h' k hk
  · have := look_beq.1 h1
    subst this
    simp only [Bool.true_or, cond_true]
    exact h

def setE : List Ent → (Nat → Ent) → List Nat → List Ent
  | L, _, [] => L
  | L, f, j :: r => setE (L.set j (f j)) f r
theorem setE_length : ∀ {L : List Ent} {f : Nat → Ent} {js : List Nat}, (setE L f js).length = L.length
  | _, _, [] => rfl
  | L, f, j :: r => by rw [setE, setE_length, List.length_set]
theorem setE_get : ∀ {L : List Ent} {f : Nat → Ent} {js : List Nat} (i : Nat), (setE L f js)[i]? = if js.contains i = true then L[i]?.map (fun _ => f i) else L[i]?
  | _, _, [], i => by simp [setE]
  | L, f, j :: r, i => by
    rw [setE, setE_get i]
    by_cases h : j = i
    · subst h
      simp only [List.contains_cons, BEq.rfl, Bool.true_or, if_true, List.getElem?_set]
      by_cases hl : j < L.length
      · simp [hl]
      · simp [hl]
    · have hb : (i == j) = false := by simp; exact fun e => h e.symm
      rw [List.contains_cons, hb, Bool.false_or, List.getElem?_set_ne h]

/-- the entries, once these operations have come up -/
def Lf (ls : Nat → Bool) (hd : Nat → Hid) : Nat → List Hd → List Ent → List Ent
  | _, [], L => L
  | k, h :: r, L => Lf ls hd (k + 1) r (bif ls k then setE L (h.ent (msk h.up k hd)) h.wr else L)
/-- the slots -/
def zipD (ls : Nat → Bool) (hd : Nat → Hid) (E : List (Nat × VP)) : Nat → List Hd → List (Nat × VP)
  | _, [] => E
  | k, h :: r => match ls k, h.slot with
    | true, some s => (s, h.τ (msk h.up k hd)) :: zipD ls hd E (k + 1) r
    | _, _ => zipD ls hd E (k + 1) r

/-- entry j -/
def valD (ls : Nat → Bool) (hd : Nat → Hid) (j : Nat) : Nat → List Hd → Option Ent → Option Ent
  | _, [], v => v
  | k, h :: r, v => valD ls hd j (k + 1) r (bif ls k && h.wr.contains j then v.map (fun _ => h.ent (msk h.up k hd) j) else v)
theorem Lf_get {ls : Nat → Bool} {hd : Nat → Hid} (j : Nat) : ∀ {k : Nat} {hs : List Hd} {L : List Ent}, (Lf ls hd k hs L)[j]? = valD ls hd j k hs L[j]?
  | _, [], _ => rfl
  | k, h :: r, L => by
    rw [Lf, valD, Lf_get j]
    congr 1
    cases ls k
    · rfl
    · simp only [cond_true, Bool.true_and]
      rw [setE_get]
      cases h.wr.contains j <;> rfl
theorem valD_none {ls : Nat → Bool} {hd : Nat → Hid} {j : Nat} : ∀ {k : Nat} {hs : List Hd} {v : Option Ent}, (∀ m h, hs[m]? = some h → h.wr.contains j = true → ls (k + m) = false) → valD ls hd j k hs v = v
  | _, [], _, _ => rfl
  | k, h :: r, v, hn => by
    rw [valD, valD_none fun m x hm hx => by have := hn (m + 1) x (by simpa using hm) hx; rw [← this]; congr 1; omega]
    cases hw : h.wr.contains j
    · simp
    · have := hn 0 h rfl hw
      simp only [Nat.add_zero] at this
      rw [this]; rfl
theorem valD_append {ls : Nat → Bool} {hd : Nat → Hid} {j : Nat} : ∀ {k : Nat} {hs rs : List Hd} {v : Option Ent}, valD ls hd j k (hs ++ rs) v = valD ls hd j (k + hs.length) rs (valD ls hd j k hs v)
  | _, [], _, _ => rfl
  | k, h :: r, rs, v => by
    rw [List.cons_append, valD, valD_append, valD, List.length_cons]
    congr 1; omega
theorem valD_congr {ls ls' : Nat → Bool} {hd hd' : Nat → Hid} {j : Nat} : ∀ {k : Nat} {hs : List Hd} {v : Option Ent}, (∀ m h, hs[m]? = some h → h.wr.contains j = true → ls (k + m) = ls' (k + m) ∧ (ls (k + m) = true → msk h.up (k + m) hd = msk h.up (k + m) hd')) → valD ls hd j k hs v = valD ls' hd' j k hs v
  | _, [], _, _ => rfl
  | k, h :: r, v, hn => by
    have ih := valD_congr (ls := ls) (ls' := ls') (hd := hd) (hd' := hd') (j := j) (k := k + 1) (hs := r) (v := bif ls k && h.wr.contains j then v.map (fun _ => h.ent (msk h.up k hd) j) else v) fun m x hm hx => by
      have := hn (m + 1) x (by simpa using hm) hx
      rw [show k + 1 + m = k + (m + 1) by omega]; exact this
    rw [valD, valD, ih]
    congr 1
    cases hw : h.wr.contains j
    · simp
    · have := hn 0 h rfl hw
      simp only [Nat.add_zero] at this
      rw [← this.1]
      cases hl : ls k
      · rfl
      · rw [this.2 hl]

theorem zipD_base {ls : Nat → Bool} {hd : Nat → Hid} {E : List (Nat × VP)} {t : Nat} : ∀ {k : Nat} {hs : List Hd}, (∀ (m : Nat) (h : Hd), hs[m]? = some h → ls (k + m) = true → h.slot ≠ some t) → look (zipD ls hd E k hs) t = look E t
  | _, [], _ => rfl
  | k, h :: r, hn => by
    have ih := zipD_base (ls := ls) (hd := hd) (E := E) (t := t) (k := k + 1) (hs := r) fun m x hm hl => hn (m + 1) x (by simpa using hm) (by rw [← hl]; congr 1; omega)
    unfold zipD
    split
    · rename_i s h1 h2
      have hne : Nat.beq s t = false := by
        cases hb : Nat.beq s t
        · rfl
        · have := look_beq.1 hb; subst this; exact absurd h2 (hn 0 h rfl h1)
      simp only [look, hne, cond_false]
      exact ih
    · exact ih
theorem zipD_get {ls : Nat → Bool} {hd : Nat → Hid} {E : List (Nat × VP)} {s : Nat} : ∀ {k : Nat} {hs : List Hd} {j : Nat} {h : Hd}, hs[j]? = some h → ls (k + j) = true → h.slot = some s → (∀ m x, hs[m]? = some x → x.slot = some s → m = j) → look (zipD ls hd E k hs) s = some (h.τ (msk h.up (k + j) hd))
  | _, [], _, _, h, _, _, _ => by simp at h
  | k, x :: r, 0, h, hj, hl, hs, _ => by
    simp only [List.getElem?_cons_zero, Option.some.injEq] at hj
    subst hj
    simp only [Nat.add_zero] at hl
    unfold zipD
    rw [hl, hs]
    simp [look, Nat.beq_refl]
  | k, x :: r, j + 1, h, hj, hl, hs, hu => by
    have ih := zipD_get (ls := ls) (hd := hd) (E := E) (s := s) (k := k + 1) (hs := r) (j := j) (h := h) (by simpa using hj) (by rw [← hl]; congr 1; omega) hs fun m y hm hy => by
      have := hu (m + 1) y (by simpa using hm) hy; omega
    rw [show k + 1 + j = k + (j + 1) by omega] at ih
    unfold zipD
    split
    · rename_i s' h1 h2
      have hne : Nat.beq s' s = false := by
        cases hb : Nat.beq s' s
        · rfl
        · have := look_beq.1 hb; subst this
          have := hu 0 x rfl h2; omega
      simp only [look, hne, cond_false]
      exact ih
    · exact ih
theorem zipD_inv {ls : Nat → Bool} {hd : Nat → Hid} {E : List (Nat × VP)} {t : Nat} {τ : VP} : ∀ {k : Nat} {hs : List Hd}, look (zipD ls hd E k hs) t = some τ → (∃ (j : Nat) (h : Hd), hs[j]? = some h ∧ ls (k + j) = true ∧ h.slot = some t ∧ τ = h.τ (msk h.up (k + j) hd)) ∨ (look E t = some τ ∧ ∀ (m : Nat) (h : Hd), hs[m]? = some h → ls (k + m) = true → h.slot ≠ some t)
  | _, [], h => .inr ⟨h, fun m h hm => by simp at hm⟩
  | k, x :: r, h => by
    unfold zipD at h
    have go : (ls k = true → x.slot ≠ some t) → look (zipD ls hd E (k + 1) r) t = some τ → (∃ (j : Nat) (h : Hd), (x :: r)[j]? = some h ∧ ls (k + j) = true ∧ h.slot = some t ∧ τ = h.τ (msk h.up (k + j) hd)) ∨ (look E t = some τ ∧ ∀ (m : Nat) (h : Hd), (x :: r)[m]? = some h → ls (k + m) = true → h.slot ≠ some t) := fun hx h => by
      rcases zipD_inv h with ⟨j, y, h1, h2, h3, h4⟩ | ⟨h1, h2⟩
      · exact .inl ⟨j + 1, y, by simpa using h1, by rw [← h2]; congr 1; omega, h3, by rw [h4]; congr 2; omega⟩
      · refine .inr ⟨h1, fun m y hm hl => ?_⟩
        cases m with
        | zero => simp only [List.getElem?_cons_zero, Option.some.injEq] at hm; subst hm; exact hx hl
        | succ m => exact h2 m y (by simpa using hm) (by rw [← hl]; congr 1; omega)
    split at h
    · rename_i s h1 h2
      simp only [look] at h
      by_cases e : Nat.beq s t = true
      · rw [e] at h
        simp only [cond_true, Option.some.injEq] at h
        have := look_beq.1 e
        subst this
        exact .inl ⟨0, x, rfl, h1, h2, h.symm⟩
      · rw [Bool.not_eq_true] at e
        rw [e] at h
        exact go (fun _ hs' => by rw [h2] at hs'; cases hs'; rw [Nat.beq_refl] at e; cases e) h
    · rename_i hno
      exact go (fun hl hs' => hno t hl hs') h

/-- the slots that an operation may look at -/
def heD (hd : Nat → Hid) (hs : List Hd) (E : List (Nat × VP)) : List Nat → List (Nat × VP)
  | [] => E
  | j :: r => match hs[j]? with
    | some h => match h.slot with
      | some s => (s, h.τ (msk h.up j hd)) :: heD hd hs E r
      | none => heD hd hs E r
    | none => heD hd hs E r
theorem heD_inv {hd : Nat → Hid} {hs : List Hd} {E : List (Nat × VP)} {t : Nat} {τ : VP} : ∀ {ds : List Nat}, look (heD hd hs E ds) t = some τ → (∃ j ∈ ds, ∃ h : Hd, hs[j]? = some h ∧ h.slot = some t ∧ τ = h.τ (msk h.up j hd)) ∨ look E t = some τ
  | [], h => .inr h
  | j :: r, h => by
    have go : look (heD hd hs E r) t = some τ → (∃ i ∈ j :: r, ∃ h : Hd, hs[i]? = some h ∧ h.slot = some t ∧ τ = h.τ (msk h.up i hd)) ∨ look E t = some τ := fun h => by
      rcases heD_inv h with ⟨i, h1, h2⟩ | h1
      · exact .inl ⟨i, by simp [h1], h2⟩
      · exact .inr h1
    unfold heD at h
    split at h
    · rename_i x hx
      split at h
      · rename_i s hsl
        simp only [look] at h
        by_cases e : Nat.beq s t = true
        · rw [e] at h
          simp only [cond_true, Option.some.injEq] at h
          have := look_beq.1 e
          subst this
          exact .inl ⟨j, by simp, x, hx, hsl, h.symm⟩
        · simp only [Bool.not_eq_true] at e
          rw [e] at h
          exact go h
      · exact go h
    · exact go h

/-- these slots hold this very value -/
def AllEq (E : List (Nat × VP)) (v : Value) : List Nat → Prop
  | [] => True
  | s :: r => look E s = some (.eq v) ∧ AllEq E v r
theorem AllEq.get {E : List (Nat × VP)} {v : Value} : ∀ {ss : List Nat}, AllEq E v ss → ∀ s ∈ ss, look E s = some (.eq v)
  | _ :: _, h, s, hs => by
    rcases List.mem_cons.1 hs with rfl | hs
    · exact h.1
    · exact AllEq.get h.2 s hs
def asE (τ : VP) (E : List (Nat × VP)) : List Nat → List (Nat × VP)
  | [] => E
  | s :: r => (s, τ) :: asE τ E r
theorem look_asE {τ : VP} {E : List (Nat × VP)} {t : Nat} {σ : VP} : ∀ {ss : List Nat}, look (asE τ E ss) t = some σ → (t ∈ ss ∧ σ = τ) ∨ look E t = some σ
  | [], h => .inr h
  | s :: r, h => by
    simp only [asE, look] at h
    by_cases e : Nat.beq s t = true
    · rw [e] at h
      simp only [cond_true, Option.some.injEq] at h
      have := look_beq.1 e
      subst this
      exact .inl ⟨by simp, h.symm⟩
    · simp only [Bool.not_eq_true] at e
      rw [e] at h
      rcases look_asE h with ⟨h1, h2⟩ | h1
      · exact .inl ⟨by simp [h1], h2⟩
      · exact .inr h1

def umin {w : Nat} (a b : BitVec w) : BitVec w := if a ≤ b then a else b
def addE : Option Nat → VP → List (Nat × VP) → List (Nat × VP)
  | some s, τ, E => (s, τ) :: E
  | none, _, E => E

section
variable {c : Cx} {E : List (Nat × VP)} {L : List Ent} {ops : Array Oper} {Q : Exit → Act → World → Prop}

/-- a slice of the call's own is let go, and each slot that holds it reads as a list -/
theorem St.freezeL {a : Act} {W : World} {α : Type} [Rp α] {i cap T : Nat} {ss : List Nat} {key : Option Nat} {xs : List α} (h : St c E L a W) (hl : AllEq E (slv key xs.length cap) ss) (hL : L[i]? = some ⟨key, .row T xs cap⟩) :
    St c (asE (.of xs) E ss) (L.set i ⟨none, .dead⟩) a W := by
  have hk := h.kill i
  refine { hk with env := fun t τ hlk => ?_ }
  rcases look_asE hlk with ⟨hm, rfl⟩ | h1
  · obtain ⟨v, h1, h2⟩ := h.env t _ (hl.get t hm)
    refine ⟨v, h1, of_list.2 ?_⟩
    have h2' : v = slv key xs.length cap := h2
    subst h2'
    have ho := h.own _ (List.mem_of_getElem? hL)
    cases key with
    | none => exact .inl ⟨rfl, ho.1⟩
    | some p =>
      obtain ⟨o, hob, cs, rfl, hsz, hn, hcm, hr⟩ := ho
      obtain ⟨h3, h4⟩ := reps_prefix hsz hn hr
      refine .inr ⟨p, 0, cap, cs, T, (0, 0), rfl, h.not_left hL, hob, hn, by omega, h3, ?_⟩
      have hsub := ks_set_none_sub (L := L) (i := i) (cp := .dead)
      exact h4.mono (.drop fun k hm => by
        rcases List.mem_append.1 hm with hm | hm
        · exact List.mem_append.2 (.inl (hsub.subset hm))
        · exact List.mem_append.2 (.inr hm))
  · exact hk.env t τ h1
theorem Sq.freezeL {l : List Oper} {α : Type} [Rp α] {key : Option Nat} {xs : List α} {cap T : Nat} (i : Nat) (ss : List Nat) (hl : AllEq E (slv key xs.length cap) ss) (hL : L[i]? = some ⟨key, .row T xs cap⟩)
    (k : Sq c ops Q l (asE (.of xs) E ss) (L.set i ⟨none, .dead⟩)) : Sq c ops Q l E L := fun a W st => k a W (st.freezeL hl hL)
theorem To.freezeL {x : Exit} {α : Type} [Rp α] {key : Option Nat} {xs : List α} {cap T : Nat} (i : Nat) (ss : List Nat) (hl : AllEq E (slv key xs.length cap) ss) (hL : L[i]? = some ⟨key, .row T xs cap⟩)
    (k : To c Q x (asE (.of xs) E ss) (L.set i ⟨none, .dead⟩)) : To c Q x E L := fun a W st => k a W (st.freezeL hl hL)
theorem Wp.freezeL {code : Code} {α : Type} [Rp α] {key : Option Nat} {xs : List α} {cap T : Nat} (i : Nat) (ss : List Nat) (hl : AllEq E (slv key xs.length cap) ss) (hL : L[i]? = some ⟨key, .row T xs cap⟩)
    (k : Wp c Q code (asE (.of xs) E ss) (L.set i ⟨none, .dead⟩)) : Wp c Q code E L := fun a W st => k a W (st.freezeL hl hL)

/-- operation number i, whatever has come up beside what it waits for -/
def HeadD (c : Cx) (ops : Array Oper) (Q : Exit → Act → World → Prop) (hs : List Hd) (E : List (Nat × VP)) (L : List Ent) (i : Nat) (o : Oper) (h : Hd) : Prop :=
  ∀ (hd : Nat → Hid) (E' : List (Nat × VP)) (L' : List Ent), (∀ t τ, look (heD hd hs E h.up) t = some τ → look E' t = some τ) →
    (∀ j e, (Lf (fun _ => true) hd 0 (hs.take i) L)[j]? = some e → h.rd.contains j = true → L'[j]? = some e) →
    Sq c ops (QK (fun a W => ∃ x, St c (addE h.slot (h.τ (msk h.up i (upd hd i x))) E') (setE L' (h.ent (msk h.up i (upd hd i x))) h.wr) a W) Q) [o] E' L'

def HeadsD (c : Cx) (ops : Array Oper) (Q : Exit → Act → World → Prop) (hs : List Hd) (E : List (Nat × VP)) (L : List Ent) : Nat → List Oper → List Hd → Prop
  | _, [], [] => True
  | i, o :: os, h :: r => HeadD c ops Q hs E L i o h ∧ HeadsD c ops Q hs E L (i + 1) os r
  | _, _, _ => False
theorem HeadsD.get {hs : List Hd} : ∀ {k : Nat} {os : List Oper} {rs : List Hd}, HeadsD c ops Q hs E L k os rs → ∀ i h o, rs[i]? = some h → os[i]? = some o → HeadD c ops Q hs E L (k + i) o h
  | k, [], [], _, i, h, o, hi, _ => by simp at hi
  | k, o0 :: os, h0 :: r, hh, i, h, o, hi, ho => by
    cases i with
    | zero =>
      simp only [List.getElem?_cons_zero, Option.some.injEq] at hi ho
      subst hi; subst ho; exact hh.1
    | succ i =>
      have := HeadsD.get hh.2 i h o (by simpa using hi) (by simpa using ho)
      rw [show k + 1 + i = k + (i + 1) by omega] at this
      exact this
  | k, [], _ :: _, hh, _, _, _, _, _ => hh.elim
  | k, _ :: _, [], hh, _, _, _, _, _ => hh.elim

theorem zipD_congr {ls ls' : Nat → Bool} {hd : Nat → Hid} : ∀ {k : Nat} {hs : List Hd}, (∀ m, m < hs.length → ls (k + m) = ls' (k + m)) → zipD ls hd E k hs = zipD ls' hd E k hs
  | _, [], _ => rfl
  | k, h :: r, hn => by
    have ih := zipD_congr (ls := ls) (ls' := ls') (hd := hd) (k := k + 1) (hs := r) fun m hm => by
      have := hn (m + 1) (by simp; omega)
      rw [show k + 1 + m = k + (m + 1) by omega]; exact this
    have h0 := hn 0 (by simp)
    simp only [Nat.add_zero] at h0
    unfold zipD
    rw [h0, ih]
theorem Lf_congr {ls ls' : Nat → Bool} {hd : Nat → Hid} : ∀ {k : Nat} {hs : List Hd} {L : List Ent}, (∀ m, m < hs.length → ls (k + m) = ls' (k + m)) → Lf ls hd k hs L = Lf ls' hd k hs L
  | _, [], _, _ => rfl
  | k, h :: r, L, hn => by
    have h0 := hn 0 (by simp)
    simp only [Nat.add_zero] at h0
    rw [Lf, Lf, h0]
    exact Lf_congr fun m hm => by
      have := hn (m + 1) (by simp; omega)
      rw [show k + 1 + m = k + (m + 1) by omega]; exact this

def dat (hs : List Hd) : List (Option Nat × List Nat × List Nat × List Nat) := hs.map fun h => (h.slot, h.up, h.rd, h.wr)
theorem dat_get {hs : List Hd} {i : Nat} {h : Hd} (hi : hs[i]? = some h) : (dat hs)[i]? = some (h.slot, h.up, h.rd, h.wr) := by simp [dat, hi]

/-- the same, and from np on the entries are those of the beginning -/
def HeadDP (c : Cx) (ops : Array Oper) (Q : Exit → Act → World → Prop) (hs : List Hd) (E : List (Nat × VP)) (L : List Ent) (np : Nat) (i : Nat) (o : Oper) (h : Hd) : Prop :=
  ∀ (hd : Nat → Hid) (E' : List (Nat × VP)) (L' : List Ent), (∀ t τ, look (heD hd hs E h.up) t = some τ → look E' t = some τ) →
    (∀ j e, (Lf (fun _ => true) hd 0 (hs.take i) L)[j]? = some e → h.rd.contains j = true → L'[j]? = some e) → L'.drop np = L.drop np →
    Sq c ops (QK (fun a W => ∃ x, St c (addE h.slot (h.τ (msk h.up i (upd hd i x))) E') (setE L' (h.ent (msk h.up i (upd hd i x))) h.wr) a W) Q) [o] E' L'
def HeadsDP (c : Cx) (ops : Array Oper) (Q : Exit → Act → World → Prop) (hs : List Hd) (E : List (Nat × VP)) (L : List Ent) (np : Nat) : Nat → List Oper → List Hd → Prop
  | _, [], [] => True
  | i, o :: os, h :: r => HeadDP c ops Q hs E L np i o h ∧ HeadsDP c ops Q hs E L np (i + 1) os r
  | _, _, _ => False
theorem HeadsDP.get {hs : List Hd} {np : Nat} : ∀ {k : Nat} {os : List Oper} {rs : List Hd}, HeadsDP c ops Q hs E L np k os rs → ∀ i h o, rs[i]? = some h → os[i]? = some o → HeadDP c ops Q hs E L np (k + i) o h
  | k, [], [], _, i, h, o, hi, _ => by simp at hi
  | k, o0 :: os, h0 :: r, hh, i, h, o, hi, ho => by
    cases i with
    | zero =>
      simp only [List.getElem?_cons_zero, Option.some.injEq] at hi ho
      subst hi; subst ho; exact hh.1
    | succ i =>
      have := HeadsDP.get hh.2 i h o (by simpa using hi) (by simpa using ho)
      rw [show k + 1 + i = k + (i + 1) by omega] at this
      exact this
  | k, [], _ :: _, hh, _, _, _, _, _ => hh.elim
  | k, _ :: _, [], hh, _, _, _, _, _ => hh.elim
theorem HeadsD.toP {hs : List Hd} {np : Nat} : ∀ {k : Nat} {os : List Oper} {rs : List Hd}, HeadsD c ops Q hs E L k os rs → HeadsDP c ops Q hs E L np k os rs
  | _, [], [], _ => trivial
  | _, _ :: _, _ :: _, h => ⟨fun hd E' L' h1 h2 _ => h.1 hd E' L' h1 h2, HeadsD.toP h.2⟩
  | _, [], _ :: _, h => h.elim
  | _, _ :: _, [], h => h.elim
theorem setE_drop {n : Nat} : ∀ {L : List Ent} {f : Nat → Ent} {js : List Nat}, (∀ j ∈ js, j < n ∨ L.length ≤ j) → (setE L f js).drop n = L.drop n
  | _, _, [], _ => rfl
  | L, f, j :: r, h => by
    rw [setE, setE_drop (fun k hk => by rw [List.length_set]; exact h k (by simp [hk]))]
    rcases h j (by simp) with h1 | h1
    · rw [List.drop_set_of_lt h1]
    · rw [List.set_eq_of_length_le h1]
theorem Lf_drop {ls : Nat → Bool} {hd : Nat → Hid} {n : Nat} : ∀ {k : Nat} {hs : List Hd} {L : List Ent}, (∀ h ∈ hs, ∀ j ∈ h.wr, j < n ∨ L.length ≤ j) → (Lf ls hd k hs L).drop n = L.drop n
  | _, [], _, _ => rfl
  | k, h :: r, L, hw => by
    rw [Lf]
    cases hl : ls k
    · exact Lf_drop fun x hx => hw x (by simp [hx])
    · simp only [cond_true]
      rw [Lf_drop (fun x hx j hj => by rw [setE_length]; exact hw x (by simp [hx]) j hj), setE_drop (hw h (by simp))]

theorem wr_lt {hs : List Hd} {ds : List (Option Nat × List Nat × List Nat × List Nat)} {np : Nat} (hds : dat hs = ds) (h : (ds.all fun d => d.2.2.2.all fun j => Nat.blt j np) = true) : ∀ h ∈ hs, ∀ j ∈ h.wr, j < np ∨ L.length ≤ j := fun x hx j hj => by
  subst hds
  have h1 := List.all_eq_true.1 h (x.slot, x.up, x.rd, x.wr) (List.mem_map.2 ⟨x, hx, rfl⟩)
  have h2 := List.all_eq_true.1 h1 j hj
  exact .inl (Nat.blt_eq.mp h2)
/-- where a head ends -/
theorem To.fin {slot : Option Nat} {up wr : List Nat} {i : Nat} {hd : Nat → Hid} {τ : (Nat → Hid) → VP} {ent : (Nat → Hid) → Nat → Ent} {E' E2 : List (Nat × VP)} {L' L2 : List Ent} (x : Hid) (hE : E2 = addE slot (τ (msk up i (upd hd i x))) E') (hL : L2 = setE L' (ent (msk up i (upd hd i x))) wr) :
    To c (QK (fun a W => ∃ x, St c (addE slot (τ (msk up i (upd hd i x))) E') (setE L' (ent (msk up i (upd hd i x))) wr) a W) Q) .normal E2 L2 := fun a W s => by
  subst hE hL
  exact ⟨x, s⟩

/-- a new entry goes to a place that is kept for it -/
theorem To.place {z : Exit} {e : Ent} (j : Nat) (hj : L[j]? = some ⟨none, .dead⟩) (k : To c Q z E (L.set j e)) : To c Q z E (e :: L) := fun a W s => by
  refine k a W (s.sub (fun x hx => ?_) ?_)
  · rcases List.mem_or_eq_of_mem_set hx with h | h
    · exact List.mem_cons.2 (.inr h)
    · exact List.mem_cons.2 (.inl h)
  · have h1 := bring_perm hj
    have h2 : (L.set j e).Perm (e :: L.eraseIdx j) := by
      have h3 : (L.set j e)[j]? = some e := by rw [List.getElem?_set_self (List.getElem?_eq_some_iff.1 hj).1]
      have h4 := bring_perm h3
      rwa [List.eraseIdx_set_eq] at h4
    have h5 := ks_perm (h1.cons e)
    have h6 : ks (e :: ⟨none, .dead⟩ :: L.eraseIdx j) = ks (e :: L.eraseIdx j) := by cases hk : e.key <;> simp [ks, hk]
    rw [h6] at h5
    exact (ks_perm h2).nodup_iff.2 (h5.nodup_iff.1 s.nodup)
/-- an entry that was brought to the front goes back -/
theorem To.back {z : Exit} {e e0 : Ent} (j : Nat) (hj : L[j]? = some e0) (k : To c Q z E (L.set j e)) : To c Q z E (e :: L.eraseIdx j) := fun a W s => by
  have h3 : (L.set j e)[j]? = some e := by rw [List.getElem?_set_self (List.getElem?_eq_some_iff.1 hj).1]
  have h4 := bring_perm h3
  rw [List.eraseIdx_set_eq] at h4
  exact k a W (s.perm h4.symm)
/-- places are kept for entries to come -/
theorem Wp.keep {z : Code} (n : Nat) (k : Wp c Q z E (L ++ List.replicate n ⟨none, .dead⟩)) : Wp c Q z E L := fun a W s => by
  refine k a W ?_
  have hk : ks (L ++ List.replicate n ⟨none, .dead⟩) = ks L := by
    rw [ks_append]
    have : ∀ n, ks (List.replicate n (⟨none, .dead⟩ : Ent)) = [] := fun n => by
      induction n with
      | zero => rfl
      | succ n ih => rw [List.replicate_succ]; simp [ks, ih]
    rw [this, List.append_nil]
  exact
  { defers := s.defers
    size := s.size
    env := fun t τ hl => by rw [hk]; exact s.env t τ hl
    fr := s.fr
    own := fun e he => by
      rw [hk]
      rcases List.mem_append.1 he with he | he
      · exact s.own e he
      · rw [(List.mem_replicate.1 he).2]; trivial
    nodup := by rw [hk]; exact s.nodup
    lt := by rw [hk]; exact s.lt
    mine := by rw [hk]; exact s.mine
    old := by rw [hk]; exact s.old }
theorem To.eqL {z : Exit} {L2 : List Ent} (h : L = L2) (k : To c Q z E L2) : To c Q z E L := by subst h; exact k

theorem To.relen {z : Exit} {key : Option Nat} {n m cap : Nat} (sl : Nat) (hl : look E sl = some (.eq (slv key n cap))) (hn : n = m) (k : To c Q z ((sl, .eq (slv key m cap)) :: E) L) : To c Q z E L := fun a W s => by
  subst hn
  refine k a W (s.less fun t τ h => ?_)
  simp only [look] at h
  by_cases e : Nat.beq sl t = true
  · rw [e] at h
    simp only [cond_true] at h
    have := look_beq.1 e
    subst this
    exact ⟨τ, by rw [hl, h], fun _ _ _ h => h⟩
  · simp only [Bool.not_eq_true] at e
    rw [e] at h
    exact ⟨τ, h, fun _ _ _ h => h⟩

variable {hs : List Hd} {i d : Nat} {up rd : List Nat} {ent : (Nat → Hid) → Nat → Ent} {o : Oper}
/-- a head that yields a value and touches nothing -/
theorem hd_v {τ : VP} (hg : o.guard = none) (hd : o.dst = some d) (hn : Nat.blt d c.n = true)
    (h : ∀ (hd : Nat → Hid) (E' : List (Nat × VP)) (L' : List Ent), (∀ t τ, look (heD hd hs E up) t = some τ → look E' t = some τ) → (∀ j e, (Lf (fun _ => true) hd 0 (hs.take i) L)[j]? = some e → rd.contains j = true → L'[j]? = some e) → HR c E' L' o τ) :
    HeadD c ops Q hs E L i o ⟨some d, up, rd, [], fun _ => τ, ent⟩ := fun hdd E' L' hE hL =>
  Sq.v (h hdd E' L' hE hL) hg hd hn (Sq.nil (To.fin (fun _ => none) rfl rfl))
theorem hd_g {j g : Nat} {b want : Bool} {τ : VP} (hg : o.guard = some (j, want)) (hj : (ops[j]?).bind (·.dst) = some g) (hd : o.dst = some d) (hn : Nat.blt d c.n = true)
    (hl : ∀ hd, look (heD hd hs E up) g = some (.of b))
    (h : ∀ (hd : Nat → Hid) (E' : List (Nat × VP)) (L' : List Ent), (∀ t τ, look (heD hd hs E up) t = some τ → look E' t = some τ) → (∀ j e, (Lf (fun _ => true) hd 0 (hs.take i) L)[j]? = some e → rd.contains j = true → L'[j]? = some e) → b = want → HR c E' L' o τ) :
    HeadD c ops Q hs E L i o ⟨some d, up, rd, [], fun _ => .cond (b = want) τ, ent⟩ := fun hdd E' L' hE hL =>
  Sq.g (h hdd E' L' hE hL) hg hj (hE _ _ (hl hdd)) hd hn (Sq.nil (To.fin (fun _ => none) rfl rfl))
variable {ty t : TypeId} {pos : String} {af : Array Edge}
theorem Sq.bslN {α : Type} [Rp α] {rest : List Oper} {dd e n : Nat} {z : α} {r0 r : List α} {ps : List (Nat × Operand)} (hu : c.P.underlying t = some (.slice e)) (te : Ty c.P e α) (zr : Zr c.P e z) (hs : Nat.beq (Rp.size α) 0 = false) (hn : Nat.ble (n * Rp.size α) 16777216 = true)
    (hf : FillsL c E L (List.replicate n z) ps r0) (hr : r0 = r) (hN : Nat.blt dd c.n = true) (k : ∀ p, Sq c ops Q rest ((dd, .eq (slv p r.length n)) :: E) (⟨p, .row e r n⟩ :: L)) :
    Sq c ops Q (⟨some dd, .buildSlice t n ps.toArray, ty, pos, af, none⟩ :: rest) E L := by subst hr; exact Sq.bslO hu te zr hs hn hf hN k
variable {g : Option (Nat × Bool)} {x y : Operand}
theorem r_minu64 {a b : BitVec 64} {dd : Option Tmp} {ats : Array TypeId} (hx : Look c E L x (.of a)) (hy : Look c E L y (.of b)) : HR c E L ⟨dd, .call ⟨.builtin .min, #[x, y], ats⟩, ty, pos, af, g⟩ (.of (umin a b)) := .pure fun A W s =>
  ⟨.int .u64 (umin a b).toNat, by
    simp [execOp, resolve, invoke, builtin, Builtin.min_, Builtin.min2, of_u64.1 (hx A W s), of_u64.1 (hy A W s)]
    unfold umin
    split <;> split <;> first | rfl | (rename_i h1 h2; simp only [BitVec.le_def] at *; omega), of_u64.2 rfl⟩
end
end Gv

namespace Gv
open Go
set_option linter.unusedVariables false
set_option linter.unusedSimpArgs false

section
variable {c : Cx} {E : List (Nat × VP)} {L : List Ent} {ops : Array Oper} {Q : Exit → Act → World → Prop}
variable {d : Option Tmp} {ty : TypeId} {pos : String} {af : Array Edge} {g : Option (Nat × Bool)} {x y : Operand} {t t2 : TypeId}

/-- a slice of N elements, the first of which are known -/
def Src (c : Cx) (E : List (Nat × VP)) (L : List Ent) (y : Operand) (N : Nat) {α : Type} [Rp α] (vs : List α) : Prop :=
  ∀ a W, St c E L a W → (Builtin.lenOf (a.eval y)).run c.P W = .ok N W ∧ ∃ cells : List Value, (Builtin.firstCells (Rp.size α) vs.length (a.eval y)).run c.P W = .ok cells.toArray W ∧ Reps (ks L ++ c.A0) W cells vs ∧ ∀ v ∈ cells, v.oneCell' = true

theorem Sq.copyG {rest : List Oper} {i e p off dd dLen dCap N T : Nat} {cp cp' : CP} {α : Type} [Rp α] {vs : List α} (hu : c.P.underlying t = some (.slice e)) (te : Ty c.P e α)
    (hx : Look c E L x (.eq (.slice (some ⟨p, off, none⟩) dLen dCap))) (hy : Src c E L y N vs) (hmin : Nat.min N dLen = vs.length) (hL : L[i]? = some ⟨some p, cp⟩) (hn : Nat.blt dd c.n = true)
    (hcp : ∀ A W o cells, cp.holds A W o → Reps A W cells vs → ∃ cs, o = .cells cs T (0, 0) ∧ off + cells.length ≤ cs.size ∧ cp'.holds A W (.cells (cs.toList.take off ++ cells ++ cs.toList.drop (off + cells.length)).toArray T (0, 0)))
    (k : Sq c ops Q rest ((dd, .of (vs.length : Int)) :: E) (L.set i ⟨some p, cp'⟩)) :
    Sq c ops Q (⟨some dd, .call ⟨.builtin .copy, #[x, y], #[t, t2]⟩, ty, pos, af, none⟩ :: rest) E L := fun a W s => by
  have hN : dd < c.n := by simpa using hn
  have h1 : a.eval x = _ := hx a W s
  obtain ⟨hl, cells, hc, hr, h1c⟩ := hy a W s
  obtain ⟨o, ho, hh⟩ := s.own _ (List.mem_of_getElem? hL)
  obtain ⟨cs, rfl, hfit, hnew⟩ := hcp _ _ _ _ hh hr
  obtain ⟨ie, hie, hsz⟩ := te.info
  have hst := run_storeCells_at (P := c.P) p off T cells 0 cs W ho (by omega) h1c
  simp only [Nat.add_zero] at hst
  have hrun : (execOp a.eval ⟨some dd, .call ⟨.builtin .copy, #[x, y], #[t, t2]⟩, ty, pos, af, none⟩).run c.P W = .ok (.value (goInt vs.length)) (W.setRow p (cs.toList.take off ++ cells ++ cs.toList.drop (off + cells.length)).toArray) := by
    simp [execOp, resolve, invoke, builtin, Builtin.copy_, h1, run_underlying hu, hl, hmin, Go.sizeOf, typeInfo, hie, hsz, hc, hst]
  refine wpList_op rfl (R := fun v W1 => v = goInt vs.length ∧ W1 = W.setRow p (cs.toList.take off ++ cells ++ cs.toList.drop (off + cells.length)).toArray) (.of_run hrun ⟨rfl, rfl⟩) fun v W1 ⟨hv, hw⟩ => ?_
  subst hv
  subst hw
  exact k _ _ ((s.store hL ho hnew).put hN (of_int.2 rfl))

/-- a part of an own row, of which the first k elements are asked for -/
theorem src_own {i T cap lo N k : Nat} {key : Option Nat} {α : Type} [Rp α] {xs : List α} (hy : Look c E L y (.eq (vslv key lo N cap (Rp.size α)))) (hL : L[i]? = some ⟨key, .row T xs cap⟩) (hk : 0 < k) (hlo : lo + k ≤ xs.length) :
    Src c E L y N ((xs.drop lo).take k) := fun a W s => by
  obtain ⟨p, cs, rfl, hob, g1, g2, g3, g4⟩ := s.rowAt hL (by omega)
  have h1 : a.eval y = _ := hy a W s
  have hcl : cap ≠ lo := by omega
  have hv : a.eval y = .slice (some ⟨p, lo * Rp.size α, none⟩) N (cap - lo) := by rw [h1]; simp [vslv, hcl]
  have hlen : ((xs.drop lo).take k).length = k := by rw [List.length_take, List.length_drop]; omega
  have hcs : cs.toList.length = cap * Rp.size α := by simpa using g1
  have hle1 : (lo + k) * Rp.size α ≤ xs.length * Rp.size α := Nat.mul_le_mul_right _ hlo
  have hle2 : xs.length * Rp.size α ≤ cap * Rp.size α := Nat.mul_le_mul_right _ g2
  rw [Nat.add_mul] at hle1
  have hcl2 : ((cs.toList.drop (lo * Rp.size α)).take (k * Rp.size α)).length = k * Rp.size α := by rw [List.length_take, List.length_drop]; omega
  have hrep : Reps (ks L ++ c.A0) W ((cs.toList.drop (lo * Rp.size α)).take (k * Rp.size α)) ((xs.drop lo).take k) := by
    refine ⟨by rw [hcl2, hlen], fun j hj => ?_⟩
    rw [hlen] at hj
    have h5 := g4.2 (lo + j) (by omega)
    have hin := row_in (s := Rp.size α) hj
    have hin2 := row_in (s := Rp.size α) (show lo + j < xs.length by omega)
    rw [List.drop_take, List.take_take, Nat.min_eq_left (by omega)] at h5
    rw [List.drop_take, List.take_take, Nat.min_eq_left (by omega), List.drop_drop, ← Nat.add_mul]
    simpa using h5
  have h9 := run_loadCells_list (P := c.P) W ⟨p, lo * Rp.size α, none⟩ ((cs.toList.drop (lo * Rp.size α)).take (k * Rp.size α)) fun j v hv => by
    rw [addr_add, cell_of_row W p _ cs T (0, 0) hob]
    rw [List.getElem?_take] at hv
    split at hv
    · rw [List.getElem?_drop] at hv; simpa using hv
    · cases hv
  rw [hcl2] at h9
  refine ⟨by rw [hv]; rfl, (cs.toList.drop (lo * Rp.size α)).take (k * Rp.size α), ?_, hrep, hrep.one⟩
  rw [hv]
  simp only [Builtin.firstCells]
  rw [hlen]
  exact h9

theorem vslv_at {p lo n cap size : Nat} (h : cap ≠ lo) : vslv (some p) lo n cap size = Value.slice (some ⟨p, lo * size, none⟩) n (cap - lo) := by simp [vslv, h]
theorem src_row {i T cap : Nat} {key : Option Nat} {α : Type} [Rp α] {xs : List α} (hy : Look c E L y (.eq (slv key xs.length cap))) (hL : L[i]? = some ⟨key, .row T xs cap⟩) (hx : 0 < xs.length) : Src c E L y xs.length xs := by
  have := src_own (lo := 0) (k := xs.length) (N := xs.length) (by rw [vslv_zero]; exact hy) hL hx (by omega)
  simpa using this

theorem look_z {key : Option Nat} {n cap size : Nat} (h : Look c E L x (.eq (vslv key 0 n cap size))) : Look c E L x (.eq (slv key n cap)) := by rw [← vslv_zero (size := size)]; exact h
theorem look_a {p lo n cap size : Nat} (hc : cap ≠ lo) (h : Look c E L x (.eq (vslv (some p) lo n cap size))) : Look c E L x (.eq (.slice (some ⟨p, lo * size, none⟩) n (cap - lo))) := by rw [← vslv_at hc]; exact h

/-- a row whose first i elements are those of xs, and that has those behind them m places on -/
def CP.gap {α : Type} [Rp α] (T : TypeId) (xs : List α) (i m cap : Nat) : CP where
  holds A W o := ∃ cs, o = .cells cs T (0, 0) ∧ cs.size = cap * Rp.size α ∧ xs.length + m ≤ cap ∧ cap ≤ maxLen ∧ Reps A W (cs.toList.take (i * Rp.size α)) (xs.take i) ∧
    Reps A W ((cs.toList.drop ((i + m) * Rp.size α)).take ((xs.length - i) * Rp.size α)) (xs.drop i)
  nilOk := False
  mono e h := let ⟨cs, h1, h2, h3, h4, h5, h6⟩ := h; ⟨cs, h1, h2, h3, h4, h5.mono e, h6.mono e⟩

/-- what lies behind place i is copied m places on -/
theorem gap_new {α : Type} [Rp α] {T i m cap : Nat} {xs : List α} (hi : i ≤ xs.length) (hm : xs.length + m ≤ cap) {A W o cells} (h : (CP.row T xs cap).holds A W o) (hc : Reps A W cells (xs.drop i)) :
    ∃ cs, o = .cells cs T (0, 0) ∧ (i + m) * Rp.size α + cells.length ≤ cs.size ∧ (CP.gap T xs i m cap).holds A W (.cells (cs.toList.take ((i + m) * Rp.size α) ++ cells ++ cs.toList.drop ((i + m) * Rp.size α + cells.length)).toArray T (0, 0)) := by
  obtain ⟨cs, rfl, g1, g2, g3, g4⟩ := h
  have hcs : cs.toList.length = cap * Rp.size α := by simpa using g1
  have hcl : cells.length = (xs.length - i) * Rp.size α := by rw [hc.1, List.length_drop]
  have e1 : (i + m) * Rp.size α + (xs.length - i) * Rp.size α = (xs.length + m) * Rp.size α := by rw [← Nat.add_mul]; congr 1; omega
  have e2 : (xs.length + m) * Rp.size α ≤ cap * Rp.size α := Nat.mul_le_mul_right _ hm
  have e3 : i * Rp.size α ≤ (i + m) * Rp.size α := Nat.mul_le_mul_right _ (by omega)
  have e4 : i * Rp.size α ≤ xs.length * Rp.size α := Nat.mul_le_mul_right _ hi
  have e5 : (cs.toList.take ((i + m) * Rp.size α)).length = (i + m) * Rp.size α := by rw [List.length_take]; omega
  refine ⟨cs, rfl, by omega, _, rfl, ?_, hm, g3, ?_, ?_⟩
  · simp only [List.size_toArray, List.length_append, List.length_take, List.length_drop]; omega
  · rw [List.toList_toArray, List.append_assoc, List.take_append_of_le_length (by rw [e5]; omega), List.take_take, Nat.min_eq_left e3]
    have := row_take hi (⟨cs, rfl, g1, g2, g3, g4⟩ : (CP.row T xs cap).holds A W (.cells cs T (0, 0)))
    obtain ⟨cs2, h1, _, _, _, h5⟩ := this
    cases h1
    rwa [List.length_take, Nat.min_eq_left hi] at h5
  · rw [List.toList_toArray, List.append_assoc, List.drop_left' e5, ← hcl, List.take_left]
    exact hc

/-- what is to come between is laid there -/
theorem gap_fill {α : Type} [Rp α] {T i cap : Nat} {xs vs : List α} (hi : i ≤ xs.length) {A W o cells} (h : (CP.gap T xs i vs.length cap).holds A W o) (hc : Reps A W cells vs) :
    ∃ cs, o = .cells cs T (0, 0) ∧ i * Rp.size α + cells.length ≤ cs.size ∧ (CP.row T (xs.take i ++ vs ++ xs.drop i) cap).holds A W (.cells (cs.toList.take (i * Rp.size α) ++ cells ++ cs.toList.drop (i * Rp.size α + cells.length)).toArray T (0, 0)) := by
  obtain ⟨cs, rfl, g1, g2, g3, g4, g5⟩ := h
  have hcs : cs.toList.length = cap * Rp.size α := by simpa using g1
  have hcl : cells.length = vs.length * Rp.size α := hc.1
  have e0 : i * Rp.size α + vs.length * Rp.size α = (i + vs.length) * Rp.size α := by rw [← Nat.add_mul]
  have e1 : (i + vs.length) * Rp.size α + (xs.length - i) * Rp.size α = (xs.length + vs.length) * Rp.size α := by rw [← Nat.add_mul]; congr 1; omega
  have e2 : (xs.length + vs.length) * Rp.size α ≤ cap * Rp.size α := Nat.mul_le_mul_right _ g2
  have hlen : (xs.take i ++ vs ++ xs.drop i).length = xs.length + vs.length := by simp; omega
  refine ⟨cs, rfl, by omega, _, rfl, ?_, by rw [hlen]; exact g2, g3, ?_⟩
  · simp only [List.size_toArray, List.length_append, List.length_take, List.length_drop]; omega
  · rw [List.toList_toArray, hlen]
    have hall := reps_append (reps_append g4 hc) g5
    have e5 : (cs.toList.take (i * Rp.size α) ++ cells).length = (i + vs.length) * Rp.size α := by rw [List.length_append, List.length_take]; omega
    have e6 : (cs.toList.take (i * Rp.size α) ++ cells ++ cs.toList.drop (i * Rp.size α + cells.length)).take ((xs.length + vs.length) * Rp.size α) = cs.toList.take (i * Rp.size α) ++ cells ++ (cs.toList.drop ((i + vs.length) * Rp.size α)).take ((xs.length - i) * Rp.size α) := by
      rw [List.take_append, e5, List.take_of_length_le (by omega), hcl, e0]
      congr 2
      omega
    rw [e6]
    exact hall

/-- a part of an own row is overwritten -/
theorem row_part {α : Type} [Rp α] {T lo cap : Nat} {xs vs : List α} (hk : lo + vs.length ≤ xs.length) {A W o cells} (h : (CP.row T xs cap).holds A W o) (hc : Reps A W cells vs) :
    ∃ cs, o = .cells cs T (0, 0) ∧ lo * Rp.size α + cells.length ≤ cs.size ∧ (CP.row T (xs.take lo ++ vs ++ xs.drop (lo + vs.length)) cap).holds A W (.cells (cs.toList.take (lo * Rp.size α) ++ cells ++ cs.toList.drop (lo * Rp.size α + cells.length)).toArray T (0, 0)) := by
  obtain ⟨cs, rfl, g1, g2, g3, g4⟩ := h
  have hcs : cs.toList.length = cap * Rp.size α := by simpa using g1
  have hcl : cells.length = vs.length * Rp.size α := hc.1
  have e0 : lo * Rp.size α + vs.length * Rp.size α = (lo + vs.length) * Rp.size α := by rw [← Nat.add_mul]
  have e1 : (lo + vs.length) * Rp.size α ≤ xs.length * Rp.size α := Nat.mul_le_mul_right _ hk
  have e2 : xs.length * Rp.size α ≤ cap * Rp.size α := Nat.mul_le_mul_right _ g2
  have hlen : (xs.take lo ++ vs ++ xs.drop (lo + vs.length)).length = xs.length := by simp; omega
  refine ⟨cs, rfl, by omega, _, rfl, ?_, by rw [hlen]; exact g2, g3, ?_⟩
  · simp only [List.size_toArray, List.length_append, List.length_take, List.length_drop]; omega
  · rw [List.toList_toArray, hlen]
    have g5 := reps_part (lo := lo) g4 hc hk
    have e : (cs.toList.take (lo * Rp.size α) ++ cells ++ cs.toList.drop (lo * Rp.size α + cells.length)).take (xs.length * Rp.size α) = (cs.toList.take (xs.length * Rp.size α)).take (lo * Rp.size α) ++ cells ++ (cs.toList.take (xs.length * Rp.size α)).drop (lo * Rp.size α + cells.length) := by
      have e3 : (cs.toList.take (lo * Rp.size α) ++ cells).length = lo * Rp.size α + cells.length := by rw [List.length_append, List.length_take]; omega
      rw [List.take_append, e3, List.take_of_length_le (by omega), List.take_take, Nat.min_eq_left (by omega), List.drop_take]
    rw [e]
    exact g5

theorem r_capO {p n cap e : Nat} (hu : c.P.underlying t = some (.slice e)) (hx : Look c E L x (.eq (slv (some p) n cap))) : HR c E L ⟨d, .call ⟨.builtin .cap, #[x], #[t]⟩, ty, pos, af, g⟩ (.of (cap : Int)) := .pure fun a W s => by
  have h1 : a.eval x = _ := hx a W s
  exact ⟨.int .i64 cap, by simp [execOp, resolve, invoke, builtin, Builtin.cap_, h1, slv, run_underlying hu, goInt], of_int.2 rfl⟩

/-- a slice of a slice whose value is known -/
theorem r_sliceE {p n cap : Nat} {α : Type} [Rp α] {e : TypeId} {lo hi : Option Operand} {m h : Nat} {zi zj : Int} (hu : c.P.underlying t = some (.slice e)) (te : Ty c.P e α) (hx : Look c E L x (.eq (slv (some p) n cap)))
    (hlo : Bd c E L lo zi 0) (hhi : Bd c E L hi zj n) (hm : zi = m) (hn : zj = h) (hh : m ≤ h ∧ h ≤ cap) :
    HR c E L ⟨d, .slice t x lo hi none, ty, pos, af, g⟩ (.eq (vslv (some p) m (h - m) cap (Rp.size α))) := .pure fun a W s => by
  subst hm; subst hn
  obtain ⟨hmn, hnx⟩ := hh
  obtain ⟨ie, hie, hsz⟩ := te.info
  have h1 : a.eval x = _ := hx a W s
  refine ⟨_, ?_, rfl⟩
  simp only [vslv]
  have hL : ∀ v, v = Value.int .i64 m → (Instr.sliceBound v h .sliceB).run c.P W = .ok m W := fun v hv => run_sliceB hmn hv
  have hH : ∀ v, v = Value.int .i64 h → (Instr.sliceBound v cap .sliceAcap).run c.P W = .ok h W := fun v hv => run_sliceB (by omega) hv
  generalize hin : (h : Int) = nI at hhi
  generalize him : (m : Int) = mI at hlo
  generalize hxl : (n : Int) = xl at hhi
  generalize hzz : (0 : Int) = zz at hlo
  cases hlo with
  | none =>
    have hm0 : m = 0 := by omega
    cases hhi with
    | none =>
      have hnx : h = n := by omega
      subst hnx
      subst hm0
      simp [execOp, Instr.sliceAt, Instr.slice, Instr.sliceBounds, h1, slv, run_underlying hu, Go.sizeOf, typeInfo, hie, hsz, addr_add]
    | some hh =>
      subst hin
      subst hm0
      simp [execOp, Instr.sliceAt, Instr.slice, Instr.sliceBounds, h1, slv, run_underlying hu, Go.sizeOf, typeInfo, hie, hsz, addr_add, hH _ (of_int.1 (hh a W s))]
  | some hl =>
    subst him
    cases hhi with
    | none =>
      have hnx : h = n := by omega
      subst hnx
      simp [execOp, Instr.sliceAt, Instr.slice, Instr.sliceBounds, h1, slv, run_underlying hu, Go.sizeOf, typeInfo, hie, hsz, addr_add, hL _ (of_int.1 (hl a W s))]
      split <;> rfl
    | some hh =>
      subst hin
      simp [execOp, Instr.sliceAt, Instr.slice, Instr.sliceBounds, h1, slv, run_underlying hu, Go.sizeOf, typeInfo, hie, hsz, addr_add, hL _ (of_int.1 (hl a W s)), hH _ (of_int.1 (hh a W s))]
      split <;> rfl

/-- a call of slices.overlaps for two rows of the call's own -/
theorem r_ovl {f : FuncId} {fn : Func} {p q T U cap cap' i j e tR la ca lb cb oa ob : Nat} {α : Type} [Rp α] {xs vs : List α} (hsz0 : Nat.beq (Rp.size α) 0 = false)
    (hf : c.P.funcs[f]? = some fn) (hname : (fn.name == "runtime.NumGoroutine") = false) (hb : fn.body.isNone = true) (hn : Extern.findNext fn = none)
    (he : Extern.find fn = some (Extern.SlicesOverlaps.overlaps #[t, t] #[tR])) (hu : c.P.underlying t = some (.slice e)) (te : Ty c.P e α)
    (hx : Look c E L x (.eq (.slice (some ⟨q, oa, none⟩) la ca))) (hy : Look c E L y (.eq (.slice (some ⟨p, ob, none⟩) lb cb)))
    (hi : L[i]? = some ⟨some p, .row T xs cap⟩) (hj : L[j]? = some ⟨some q, .row U vs cap'⟩) (hpq : p ≠ q) (hcap : 0 < cap) :
    HR c E L ⟨d, .call ⟨.value (.func f), #[x, y], #[t, t]⟩, ty, pos, af, g⟩ (.of false) := .pure fun a W s => by
  obtain ⟨o, ho, cs, rfl, g1, g2, g3, g4⟩ := s.own _ (List.mem_of_getElem? hi)
  obtain ⟨o', ho', cs', rfl, k1, k2, k3, k4⟩ := s.own _ (List.mem_of_getElem? hj)
  obtain ⟨ie, hie, hsz⟩ := te.info
  have h1 : a.eval x = _ := hx a W s
  have h2 : a.eval y = _ := hy a W s
  have hs0 : Rp.size α ≠ 0 := fun h => by rw [h] at hsz0; cases hsz0
  have hne : cs.size ≠ 0 := by rw [g1]; exact Nat.mul_ne_zero (by omega) hs0
  have hov := Lib.run_overlaps_apart (P := c.P) W t tR e hu (Rp.size α) (fun w => by simp [Go.sizeOf, typeInfo, hie, hsz]) ⟨q, oa, none⟩ ⟨p, ob, none⟩ la ca lb cb (fun h => hpq h.symm) U T cs'.size cs.size
    (by simp [World.shape?, ho']) (by simp [World.shape?, ho]) hne (by simp [World.frozen?, ho']) (by simp [World.frozen?, ho'])
  refine ⟨.bool false, ?_, by exact of_bool.2 rfl⟩
  have h0 : a.eval (.func f) = .func (.func f) #[] #[] := rfl
  simp [execOp, resolve, Deferred.ofValue, h0, invoke, run_callFunc_extern hf hname hb hn he, h1, h2, hov]

/-- append(s[:m], make(S, k)...) where there is no room: a new row -/
theorem Sq.appZ {α : Type} [Rp α] {rest : List Oper} {dd i e bytes cap m k p T : Nat} {kn : IntKind} {xs : List α} {z : α} (hu : c.P.underlying t = some (.slice e)) (hun : c.P.underlying t2 = some (.int kn)) (te : Ty c.P e α) (zr : Zr c.P e z) (hsz0 : Nat.beq (Rp.size α) 0 = false)
    (hby : (c.P.info? e).map (·.bytes) = some bytes) (hx : Look c E L x (.eq (vslv (some p) 0 m cap (Rp.size α)))) (hy : Look c E L y (.of (k : Int))) (hL : L[i]? = some ⟨some p, .row T xs cap⟩) (hm : m ≤ xs.length) (hk : 0 < k) (hg : cap < m + k)
    (hb1 : (m + k) * bytes ≤ 140737488355328) (hb2 : m + k ≤ maxLen) (hn : Nat.blt dd c.n = true)
    (kk : ∀ q cap', Sq c ops Q rest ((dd, .eq (slv (some q) (m + k) cap')) :: E) (⟨some q, .row e (xs.take m ++ List.replicate k z) cap'⟩ :: L)) :
    Sq c ops Q (⟨some dd, .call ⟨.builtin .append, #[x, y], #[t, t2]⟩, ty, pos, af, none⟩ :: rest) E L := fun a W s => by
  obtain ⟨ie, zv, hie, hz, hzh⟩ := zr.zero
  have hie2 : ie.size = Rp.size α := by
    obtain ⟨i2, h1, h2⟩ := te.info
    rw [hie] at h1; cases h1; exact h2
  have hbytes : ie.bytes = bytes := by simpa [hie] using hby
  subst hbytes
  have hzs : zv.cells.size = Rp.size α := by have := Rp.len (hzh [] W).2; simpa using this
  have hs0 : Rp.size α ≠ 0 := fun h => by rw [h] at hsz0; cases hsz0
  have hN : dd < c.n := by simpa using hn
  have h1 : a.eval x = .slice (some ⟨p, 0, none⟩) m cap := by
    have := hx a W s
    rw [vslv_zero] at this
    exact this
  obtain ⟨o, ho, cs, rfl, g1, g2, g3, g4⟩ := s.own _ (List.mem_of_getElem? hL)
  have hml : maxLen = 9223372036854775807 := rfl
  have h2 : a.eval y = .int .i64 k := of_int.1 (hy a W s)
  have hrow := row_take hm (⟨cs, rfl, g1, g2, g3, g4⟩ : (CP.row T xs cap).holds (ks L ++ c.A0) W (.cells cs T (0, 0)))
  obtain ⟨cs2, e1, _, _, _, hrm⟩ := hrow
  cases e1
  have hml2 : (xs.take m).length = m := by rw [List.length_take]; omega
  rw [hml2] at hrm
  have hcell : ∀ (j : Nat) u, (cs.toList.take (m * Rp.size α))[j]? = some u → W.drew.cell? ((⟨p, 0, none⟩ : Addr).add j) = some u := by
    intro j u hu'
    rw [List.getElem?_take] at hu'
    split at hu'
    · rw [addr_add, Nat.zero_add, cell_of_row W.drew p j cs T (0, 0) ho]; simpa using hu'
    · cases hu'
  have hold := run_loadCells_list (P := c.P) W.drew ⟨p, 0, none⟩ _ hcell
  rw [hrm.1, hml2] at hold
  have hr := Lib.run_append_grow_zeros (P := c.P) W t t2 ty e ie zv .i64 kn hu hun hie hz (some ⟨p, 0, none⟩) m cap _ (by simp only [Builtin.firstCells]; rw [hie2]; exact hold) k hk (by omega) hg (by omega)
    (by have : k * ie.bytes ≤ (m + k) * ie.bytes := Nat.mul_le_mul_right _ (by omega)
        omega) (growslice_fits hg hb1)
  have hge := grownCap_ge W (m + k) cap e
  have hle := grownCap_le_maxLen W (m + k) cap e hb2
  have hzv := hzh (ks L ++ c.A0) W
  have hz0 := reps_zero hzv k hs0
  have hzc : Builtin.zeroCells zv.cells k = (Array.range (k * Rp.size α)).map (zv.cells[· % zv.cells.size]!) := by rw [Builtin.zeroCells, hzs]
  rw [← hzc] at hz0
  have hcat := (reps_append hrm hz0).mono (Ext.fr (Fr.drew W))
  have hlen : (xs.take m ++ List.replicate k z).length = m + k := by rw [List.length_append, hml2, List.length_replicate]
  have hst := (s.world (Fr.drew W)).alloc (o := .cells ((cs.toList.take (m * Rp.size α)).toArray ++ Builtin.zeroCells zv.cells k ++ Builtin.zeroCells zv.cells (grownCap W (m + k) cap e - (m + k))) e)
    (cp := .row e (xs.take m ++ List.replicate k z) (grownCap W (m + k) cap e))
    (row_new (T := e) hcat (ds := (Builtin.zeroCells zv.cells (grownCap W (m + k) cap e - (m + k))).toList) (by rw [Array.length_toList, size_zeroCells, hzs, hlen]) (by rw [hlen]; exact hge) hle (by simp))
  refine wpList_op rfl (R := fun v W1 => v = slv (some W.heap.size) (m + k) (grownCap W (m + k) cap e) ∧ W1 = W.drew.alloc (.cells ((cs.toList.take (m * Rp.size α)).toArray ++ Builtin.zeroCells zv.cells k ++ Builtin.zeroCells zv.cells (grownCap W (m + k) cap e - (m + k))) e)) (.of_run ?_ ⟨rfl, rfl⟩) fun v W1 ⟨hv, hw⟩ => ?_
  · simp only [execOp, resolve, invoke, builtin, Sem.run_bind, Sem.run_pure, Result.andThen_ok]
    have e1 : (#[x, y] : Array Operand).map a.eval = #[a.eval x, a.eval y] := by simp
    rw [e1, h1, h2, hr]
    rfl
  · subst hv
    subst hw
    exact kk _ _ _ _ (hst.put hN rfl)

/-- a pointer to a cell that nobody writes any more, which holds a value as τ says -/
def VP.pv (τ : VP) : VP where
  holds A W v := ∃ b cur T fz u, v = .pointer (some ⟨b, 0, none⟩) ∧ b ∉ A ∧ W.heap[b]? = some (.cells cur T fz) ∧ cur[0]? = some u ∧ u.oneCell' = true ∧ τ.holds A W u
  mono e h := by
    obtain ⟨b, cur, T, fz, u, rfl, hb, hh, hs, h1, hr⟩ := h
    have hlt : b < _ := (Array.getElem?_eq_some_iff.1 hh).1
    exact ⟨b, cur, T, fz, u, rfl, fun hm => hb (e.new b hm hlt), by rw [e.block b hlt hb]; exact hh, hs, h1, τ.mono e hr⟩

/-- a variable of a function's type, boxed, and written no more -/
theorem Sq.boxF {rest : List Oper} {dd : Nat} {τ : VP} (hx : Look c E L x τ) (h1 : ∀ A W v, τ.holds A W v → v.oneCell' = true) (hn : Nat.blt dd c.n = true)
    (k : Sq c ops Q rest ((dd, .pv τ) :: E) L) : Sq c ops Q (⟨some dd, .box t x, ty, pos, af, none⟩ :: rest) E L := fun a W s => by
  have hv := hx a W s
  have ho := h1 _ _ _ hv
  refine wpList_op rfl (R := fun v W' => v = .pointer (some ⟨W.heap.size, 0, none⟩) ∧ W' = W.alloc (.cells (a.eval x).cells t)) (.of_run ?_ ⟨rfl, rfl⟩) fun v W' ⟨hv', hw⟩ => ?_
  · simp [execOp, Instr.box, newVar, newRow]
  · subst hv'
    subst hw
    have s1 := ((s.alloc (o := .cells (a.eval x).cells t) (cp := .dead) trivial).kill 0).dropL 1
    refine k _ _ (St.put s1 (by simpa using hn) ?_)
    refine ⟨W.heap.size, (a.eval x).cells, t, (0, 0), a.eval x, rfl, fun hm => ?_, ha_new W _, by rw [cells_one ho]; rfl, ho, τ.mono (A := ks L ++ c.A0) (W := W) ⟨by simp, fun k hk _ => ha_old W _ k hk, fun k h _ => h⟩ hv⟩
    rcases List.mem_append.1 hm with hm | hm
    · exact Nat.lt_irrefl _ (s.lt _ hm)
    · exact Nat.lt_irrefl _ (s.old _ hm).1

theorem r_loadF {τ : VP} {D : TypeDesc} (hu : c.P.underlying t = some D) (hd : (match (motive := TypeDesc → Bool) D with | .struct _ | .array _ _ => true | _ => false) = false) (hx : Look c E L x (.pv τ)) : HR c E L ⟨d, .load t x, ty, pos, af, g⟩ τ := .pure fun a W s => by
  obtain ⟨b, cur, T, fz, u, h1, hb, hh, hs, h2, hr⟩ := hx a W s
  have hag : (isAgg t).run c.P W = .ok false W := by
    unfold Go.isAgg
    rw [Sem.run_bind, run_underlying hu W]
    simp only [Result.andThen_ok]
    cases D <;> simp_all
  have hcell : W.cell? ⟨b, 0, none⟩ = some u := by rw [cell_of_row W b 0 cur T fz hh]; exact hs
  refine ⟨u, ?_, hr⟩
  simp [execOp, Instr.loadAt, Instr.sureAddr, h1, loadVar, Sem.run_bind, hag, hcell]

/-- a row that is not empty has a block -/
theorem Wp.some {code : Code} {i T cap : Nat} {key : Option Nat} {α : Type} [Rp α] {xs : List α} (hL : L[i]? = Option.some ⟨key, .row T xs cap⟩) (hx : 0 < xs.length) (k : ∀ p, key = Option.some p → xs.length ≤ cap → cap ≤ maxLen → Wp c Q code E L) : Wp c Q code E L := fun a W s => by
  obtain ⟨p, cs, rfl, hob, g1, g2, g3, g4⟩ := s.rowAt hL hx
  exact k p rfl g2 g3 a W s
/-- two rows have two blocks -/
theorem Wp.apart {code : Code} {p q : Nat} {cp cp' : CP} {L' : List Ent} (hL : L = ⟨Option.some p, cp⟩ :: ⟨Option.some q, cp'⟩ :: L') (k : p ≠ q → Wp c Q code E L) : Wp c Q code E L := fun a W s => by
  refine k (fun e => ?_) a W s
  have := s.nodup
  rw [hL, e] at this
  simp [ks] at this

/-- of a field that holds an own slice the data say nothing -/
theorem repH_clr {α γ : Type} [Rp α] [Rp γ] {A W} {cs : List Value} {x : α} {os : List (Nat × Value)} {u : Value} (l : Lens α (List γ)) (h : RepH A W cs x os) (hq : (l.off, u) ∈ os) : RepH A W cs (l.set x []) os := by
  refine ⟨?_, h.2⟩
  have h1 := l.set_rep (ds := [nilS]) (g := ([] : List γ)) h.1 (show Rp.rep A W [nilS] ([] : List γ) from by
    have := (of_list (A := A) (W := W) (v := nilS) (xs := ([] : List γ))).2 (.inl ⟨rfl, rfl⟩)
    exact this.2)
  have hb : (blank os cs)[l.off]? = some nilS := by
    rw [blank_get, if_pos (List.any_eq_true.2 ⟨_, hq, by simp⟩), (h.2 _ hq).1]; rfl
  have hlt : l.off < (blank os cs).length := (List.getElem?_eq_some_iff.1 hb).1
  have he : (blank os cs).take l.off ++ [nilS] ++ (blank os cs).drop (l.off + Rp.size (List γ)) = blank os cs := by
    show (blank os cs).take l.off ++ [nilS] ++ (blank os cs).drop (l.off + 1) = blank os cs
    have h2 : (blank os cs)[l.off] = nilS := (List.getElem?_eq_some_iff.1 hb).2
    rw [← h2, List.append_assoc, List.singleton_append, List.getElem_cons_drop, List.take_append_drop]
  rwa [he] at h1
theorem Sq.clr {l0 : List Oper} {p : Nat} {β γ : Type} [Rp β] [Rp γ] {b b' : β} {os : List (Nat × Value)} {u : Value} (l : Lens β (List γ)) (i q : Nat) (hL : L[i]? = some ⟨some p, .varX b os⟩) (hq : os[q]? = some (l.off, u)) (hb : l.set b [] = b')
    (k : Sq c ops Q l0 E (L.set i ⟨some p, .varX b' os⟩)) : Sq c ops Q l0 E L := fun a W s =>
  k a W (s.again hL (fun A W o ⟨cs, T, h1, h2⟩ => ⟨cs, T, h1, hb ▸ repH_clr l h2 (List.mem_of_getElem? hq)⟩) id)
theorem To.clr {z : Exit} {p : Nat} {β γ : Type} [Rp β] [Rp γ] {b b' : β} {os : List (Nat × Value)} {u : Value} (l : Lens β (List γ)) (i q : Nat) (hL : L[i]? = some ⟨some p, .varX b os⟩) (hq : os[q]? = some (l.off, u)) (hb : l.set b [] = b')
    (k : To c Q z E (L.set i ⟨some p, .varX b' os⟩)) : To c Q z E L := fun a W s =>
  k a W (s.again hL (fun A W o ⟨cs, T, h1, h2⟩ => ⟨cs, T, h1, hb ▸ repH_clr l h2 (List.mem_of_getElem? hq)⟩) id)
end

/-- what slices.Insert makes, where some are to be inserted; none: out of range, or too many -/
def insM {α : Type} (bytes : Nat) (xs : List α) (i : Int) (vs : List α) : Option (List α) :=
  if 0 ≤ i ∧ i ≤ xs.length ∧ 0 < vs.length ∧ (xs.length + vs.length) * bytes ≤ 140737488355328 ∧ xs.length + vs.length ≤ maxLen then some (xs.take i.toNat ++ vs ++ xs.drop i.toNat) else none
theorem insM_some {α : Type} {bytes : Nat} {xs vs r : List α} {i : Int} (h : insM bytes xs i vs = some r) :
    ∃ k : Nat, i = k ∧ k ≤ xs.length ∧ 0 < vs.length ∧ (xs.length + vs.length) * bytes ≤ 140737488355328 ∧ xs.length + vs.length ≤ maxLen ∧ r = xs.take k ++ vs ++ xs.drop k := by
  unfold insM at h
  split at h
  · rename_i hc
    obtain ⟨h1, h2, h3, h4, h5⟩ := hc
    exact ⟨i.toNat, by omega, by omega, h3, h4, h5, (by simp only [Option.some.injEq] at h; exact h.symm)⟩
  · cases h
end Gv

namespace Gv
open Go
set_option linter.unusedVariables false
set_option linter.unusedSimpArgs false

section
variable {c : Cx} {E : List (Nat × VP)} {L : List Ent} {ops : Array Oper} {Q : Exit → Act → World → Prop} {rest : List Oper} {o : Oper} {dd : Nat}
variable {ty : TypeId} {pos : String} {af : Array Edge} {x y : Operand} {t t2 : TypeId}

/-! ### The text's shape -/

theorem Qsr {id : Nat} {l : List Oper} {y : Code} (h : Sq c l.toArray (Exit.then (c.wp y Q) Q) l E L) : Wp c Q (.seq (.region id l.toArray false) y) E L := .seq (.reg h)
theorem Qnx {y : Code} (h : Wp c Q y E L) : Sq c ops (Exit.then (c.wp y Q) Q) [] E L := .nil (.next h)
theorem Qns {y z : Code} (h : Wp c (Exit.then (c.wp z Q) Q) y E L) : Sq c ops (Exit.then (c.wp (Code.seq y z) Q) Q) [] E L := .nil (.next (.seq h))
theorem Qnr {id : Nat} {l : List Oper} {z : Code} (h : Sq c l.toArray (Exit.then (c.wp z Q) Q) l E L) : Sq c ops (Exit.then (c.wp (Code.seq (.region id l.toArray false) z) Q) Q) [] E L := .nil (.next (.seq (.reg h)))
theorem Qkn {y : Code} (h : Wp c Q y E L) : Wp c (Exit.then (c.wp y Q) Q) .skip E L := .skip (.next h)
theorem Qbs {α β : Type} {m : Option α} {f : α → Option β} {r : β} (h : m.bind f = some r) : ∃ y, m = some y ∧ f y = some r := bind_some h
theorem Qbf {α β : Type} {m : Option α} {f : α → Option β} {r : β} {P : Prop} (h : m.bind f = some r) (k : ∀ y, m = some y → f y = some r → P) : P := (bind_some h).elim fun y h => k y h.1 h.2
theorem Qcd {R : Type} {b : Bool} {A B : Option R} {r : R} {y z : Code} (h : cond b A B = some r) (ht : A = some r → Wp c Q y E L) (hf : B = some r → Wp c Q z E L)
    (hl : Look c E L x (.of b) := by first | exact look_t rfl | exact look_bool _) : Wp c Q (.cond x y z) E L :=
  .cond hl (fun hb => ht (cond_t hb h)) (fun hb => hf (cond_f hb h))

/-! ### Operations -/

theorem Qv {τ : VP} (h : HR c E L o τ) (k : Sq c ops Q rest ((dd, τ) :: E) L) (hg : o.guard = none := by rfl) (hd : o.dst = some dd := by rfl) (hn : Nat.blt dd c.n = true := by rfl) : Sq c ops Q (o :: rest) E L := .v h hg hd hn k
theorem Qm {τ : VP} (k : Sq c ops Q rest ((dd, τ) :: E) L) (hx : Look c E L x τ := by first | exact look_t rfl | exact look_int _ | exact look_bool _ | exact look_str _) (hn : Nat.blt dd c.n = true := by rfl) :
    Sq c ops Q (⟨some dd, .move x, ty, pos, af, none⟩ :: rest) E L := .v (r_move hx) rfl rfl hn k
theorem Qa {τ : VP} (k : Sq c ops Q rest ((dd, τ) :: E) L) (hx : Look c E L x τ := by first | exact look_t rfl | exact look_int _ | exact look_bool _ | exact look_str _) (hn : Nat.blt dd c.n = true := by rfl) :
    Sq c ops Q (⟨some dd, .assign x, ty, pos, af, none⟩ :: rest) E L := .v (r_asg hx) rfl rfl hn k
/-- one operand -/
theorem Q1 {σ τ : VP} (h : Look c E L x σ → HR c E L o τ) (k : Sq c ops Q rest ((dd, τ) :: E) L) (hx : Look c E L x σ := by first | exact look_t rfl | exact look_int _ | exact look_bool _ | exact look_str _)
    (hg : o.guard = none := by rfl) (hd : o.dst = some dd := by rfl) (hn : Nat.blt dd c.n = true := by rfl) : Sq c ops Q (o :: rest) E L := .v (h hx) hg hd hn k
/-- two operands -/
theorem Q2 {σ σ2 τ : VP} (h : Look c E L x σ → Look c E L y σ2 → HR c E L o τ) (k : Sq c ops Q rest ((dd, τ) :: E) L) (hx : Look c E L x σ := by first | exact look_t rfl | exact look_int _ | exact look_bool _ | exact look_str _)
    (hy : Look c E L y σ2 := by first | exact look_t rfl | exact look_int _ | exact look_bool _ | exact look_str _)
    (hg : o.guard = none := by rfl) (hd : o.dst = some dd := by rfl) (hn : Nat.blt dd c.n = true := by rfl) : Sq c ops Q (o :: rest) E L := .v (h hx hy) hg hd hn k
/-- the same, its value under a name -/
theorem Qn {α : Type} [Rp α] {a b : α} (e : some a = some b) (h : HR c E L o (.of a)) (k : Sq c ops Q rest ((dd, .of b) :: E) L) (hg : o.guard = none := by rfl) (hd : o.dst = some dd := by rfl) (hn : Nat.blt dd c.n = true := by rfl) :
    Sq c ops Q (o :: rest) E L := .v (h.as (some_in e)) hg hd hn k
theorem Qld {p o : Nat} {β γ : Type} [Rp β] [Rp γ] {b : β} (j : Nat) (l : Lens β γ) (tt : Ty c.P t γ) (k : Sq c ops Q rest ((dd, .of (l.get b)) :: E) L) (hx : Look c E L x (.eq (.pointer (some ⟨p, o, none⟩))) := by exact look_t rfl)
    (hL : L[j]? = some ⟨some p, .var b⟩ := by rfl) (ho : o = l.off := by rfl) (hn : Nat.blt dd c.n = true := by rfl) : Sq c ops Q (⟨some dd, .load t x, ty, pos, af, none⟩ :: rest) E L := .v (r_load l tt hx hL ho rfl) rfl rfl hn k
theorem Ql0 {p : Nat} {β : Type} [Rp β] {b : β} (j : Nat) (tt : Ty c.P t β) (k : Sq c ops Q rest ((dd, .of b) :: E) L) (hx : Look c E L x (.eq (.pointer (some ⟨p, 0, none⟩))) := by exact look_t rfl)
    (hL : L[j]? = some ⟨some p, .var b⟩ := by rfl) (hn : Nat.blt dd c.n = true := by rfl) : Sq c ops Q (⟨some dd, .load t x, ty, pos, af, none⟩ :: rest) E L := .v (r_load (Lens.id β) tt hx hL rfl rfl) rfl rfl hn k
theorem Qlx {p o : Nat} {β γ : Type} [Rp β] [Rp γ] {b : β} {os : List (Nat × Value)} (j : Nat) (l : Lens β γ) (tt : Ty c.P t γ) (k : Sq c ops Q rest ((dd, .of (l.get b)) :: E) L) (hx : Look c E L x (.eq (.pointer (some ⟨p, o, none⟩))) := by exact look_t rfl)
    (hL : L[j]? = some ⟨some p, .varX b os⟩ := by rfl) (ho : o = l.off := by rfl) (ha : apartB os l.off (Rp.size γ) = true := by rfl) (hn : Nat.blt dd c.n = true := by rfl) : Sq c ops Q (⟨some dd, .load t x, ty, pos, af, none⟩ :: rest) E L := .v (r_loadX l tt hx hL ho rfl ha) rfl rfl hn k
theorem Qix {α : Type} [Rp α] [Inhabited α] {xs : List α} {e : TypeId} {i : Int} {j : Nat} (hk : idx xs.length i = some j) (hu : c.P.underlying t = some (.slice e)) (te : Ty c.P e α) (k : Sq c ops Q rest ((dd, .ptr (lget xs j)) :: E) L)
    (hx : Look c E L x (.of xs) := by exact look_t rfl) (hy : Look c E L y (.of i) := by first | exact look_t rfl | exact look_int _) (hn : Nat.blt dd c.n = true := by rfl) :
    Sq c ops Q (⟨some dd, .indexAddr t x y, ty, pos, af, none⟩ :: rest) E L := .v (r_ias hu te hx hy (idx_some hk)) rfl rfl hn k
theorem Qg {τ : VP} {j g : Nat} {b want : Bool} (h : b = want → HR c E L o τ) (k : Sq c ops Q rest ((dd, .cond (b = want) τ) :: E) L) (hg : o.guard = some (j, want) := by rfl) (hj : (ops[j]?).bind (·.dst) = some g := by rfl) (hl : look E g = some (.of b) := by rfl)
    (hd : o.dst = some dd := by rfl) (hn : Nat.blt dd c.n = true := by rfl) : Sq c ops Q (o :: rest) E L := .g h hg hj hl hd hn k
/-- a guarded one, one operand -/
theorem Qg1 {σ τ : VP} {j g : Nat} {b want : Bool} (h : Look c E L x σ → HR c E L o τ) (k : Sq c ops Q rest ((dd, .cond (b = want) τ) :: E) L)
    (hx : b = want → Look c E L x σ := by first | exact fun hb => look_tc rfl hb | exact fun _ => look_t rfl | exact fun _ => look_int _ | exact fun _ => look_bool _)
    (hg : o.guard = some (j, want) := by rfl) (hj : (ops[j]?).bind (·.dst) = some g := by rfl) (hl : look E g = some (.of b) := by rfl)
    (hd : o.dst = some dd := by rfl) (hn : Nat.blt dd c.n = true := by rfl) : Sq c ops Q (o :: rest) E L := .g (fun hb => h (hx hb)) hg hj hl hd hn k
theorem Qg2 {σ σ2 τ : VP} {j g : Nat} {b want : Bool} (h : Look c E L x σ → Look c E L y σ2 → HR c E L o τ) (k : Sq c ops Q rest ((dd, .cond (b = want) τ) :: E) L)
    (hx : b = want → Look c E L x σ := by first | exact fun hb => look_tc rfl hb | exact fun _ => look_t rfl | exact fun _ => look_int _ | exact fun _ => look_bool _)
    (hy : b = want → Look c E L y σ2 := by first | exact fun hb => look_tc rfl hb | exact fun _ => look_t rfl | exact fun _ => look_int _ | exact fun _ => look_bool _)
    (hg : o.guard = some (j, want) := by rfl) (hj : (ops[j]?).bind (·.dst) = some g := by rfl) (hl : look E g = some (.of b) := by rfl)
    (hd : o.dst = some dd := by rfl) (hn : Nat.blt dd c.n = true := by rfl) : Sq c ops Q (o :: rest) E L := .g (fun hb => h (hx hb) (hy hb)) hg hj hl hd hn k
theorem Qal {α : Type} [Rp α] {z : α} (zr : Zr c.P t z) (k : ∀ p, Sq c ops Q rest ((dd, .eq (.pointer (some ⟨p, 0, none⟩))) :: E) (⟨some p, .var z⟩ :: L)) (hn : Nat.blt dd c.n = true := by rfl) :
    Sq c ops Q (⟨some dd, .alloc t, ty, pos, af, none⟩ :: rest) E L := .alloc zr hn k
theorem Qbx {α : Type} [Rp α] {z : α} (k : ∀ p, Sq c ops Q rest ((dd, .eq (.pointer (some ⟨p, 0, none⟩))) :: E) (⟨some p, .var z⟩ :: L)) (hx : Look c E L x (.of z) := by first | exact look_t rfl | exact look_int _ | exact look_bool _) (hn : Nat.blt dd c.n = true := by rfl) :
    Sq c ops Q (⟨some dd, .box t x, ty, pos, af, none⟩ :: rest) E L := .box hx hn k
theorem Qst {p o : Nat} {β γ : Type} [Rp β] [Rp γ] {b : β} {v : γ} (i : Nat) (l : Lens β γ) (tt : Ty c.P t γ) (k : Sq c ops Q rest E (L.set i ⟨some p, .var (l.set b v)⟩)) (hx : Look c E L x (.eq (.pointer (some ⟨p, o, none⟩))) := by exact look_t rfl)
    (hy : Look c E L y (.of v) := by first | exact look_t rfl | exact look_int _ | exact look_bool _ | exact look_nil | exact look_str _) (hL : L[i]? = some ⟨some p, .var b⟩ := by rfl) (ho : o = l.off := by rfl) :
    Sq c ops Q (⟨none, .store t x y, ty, pos, af, none⟩ :: rest) E L := .store l tt hx hy hL ho rfl k
theorem Qs0 {p : Nat} {β : Type} [Rp β] {b v : β} (i : Nat) (tt : Ty c.P t β) (k : Sq c ops Q rest E (L.set i ⟨some p, .var v⟩)) (hx : Look c E L x (.eq (.pointer (some ⟨p, 0, none⟩))) := by exact look_t rfl)
    (hy : Look c E L y (.of v) := by first | exact look_t rfl | exact look_int _ | exact look_bool _ | exact look_nil | exact look_str _) (hL : L[i]? = some ⟨some p, .var b⟩ := by rfl) :
    Sq c ops Q (⟨none, .store t x y, ty, pos, af, none⟩ :: rest) E L := .store (Lens.id β) tt hx hy hL rfl rfl k
theorem Qsn {p o : Nat} {β γ : Type} [Rp β] [Rp γ] {b b' : β} {v : γ} (i : Nat) (l : Lens β γ) (tt : Ty c.P t γ) (k : Sq c ops Q rest E (L.set i ⟨some p, .var b'⟩)) (hx : Look c E L x (.eq (.pointer (some ⟨p, o, none⟩))) := by exact look_t rfl)
    (hy : Look c E L y (.of v) := by first | exact look_t rfl | exact look_int _ | exact look_bool _ | exact look_nil | exact look_str _) (hL : L[i]? = some ⟨some p, .var b⟩ := by rfl) (ho : o = l.off := by rfl) (hb : some (l.set b v) = some b') :
    Sq c ops Q (⟨none, .store t x y, ty, pos, af, none⟩ :: rest) E L := .store l tt hx hy hL ho (some_in hb) k
theorem Qcl {f : FuncId} {xs : List Operand} {ats : Array TypeId} {τs : List VP} {ρ : VP} (en : En c.P f) (h : Meets c.P f τs ρ) (k : Sq c ops Q rest ((dd, ρ) :: E) L)
    (hx : Looks c E L xs τs := by repeat (first | exact trivial | refine ⟨look_t rfl, ?_⟩ | refine ⟨look_int _, ?_⟩ | refine ⟨look_bool _, ?_⟩ | refine ⟨look_nil, ?_⟩ | refine ⟨look_str _, ?_⟩)) (hn : Nat.blt dd c.n = true := by rfl) :
    Sq c ops Q (⟨some dd, .call ⟨.value (.func f), xs.toArray, ats⟩, ty, pos, af, none⟩ :: rest) E L := .v (r_call en h hx) rfl rfl hn k
theorem QcO {f : FuncId} {xs : List Operand} {ats : Array TypeId} {τs : List VP} {δ : Type} {ρ : δ → VP} {Lo : δ → List Ent} (n : Nat) (en : En c.P f) (h : MeetsO c.P f τs (L.take n) ρ Lo)
    (k : ∀ q, Sq c ops Q rest ((dd, ρ q) :: E) (Lo q ++ L.drop n)) (hx : Looks c E L xs τs := by repeat (first | exact trivial | refine ⟨look_t rfl, ?_⟩ | refine ⟨look_int _, ?_⟩ | refine ⟨look_bool _, ?_⟩ | refine ⟨look_nil, ?_⟩ | refine ⟨look_own, ?_⟩ | refine ⟨look_str _, ?_⟩)) (hn : Nat.blt dd c.n = true := by rfl) :
    Sq c ops Q (⟨some dd, .call ⟨.value (.func f), xs.toArray, ats⟩, ty, pos, af, none⟩ :: rest) E L := by
  have e := List.take_append_drop n L
  have := Sq.callO (ty := ty) (pos := pos) (af := af) (ats := ats) (xs := xs) (Lin := L.take n) (Lr := L.drop n) (E := E) (Q := Q) (ops := ops) en h (by rw [e]; exact hx) hn k
  rwa [e] at this
theorem Qap {α : Type} [Rp α] {e bytes cap : Nat} {key : Option Nat} {xs ys r : List α} {z : α} (j : Nat) (hu : c.P.underlying t = some (.slice e)) (te : Ty c.P e α) (zr : Zr c.P e z) (h : appM bytes xs ys = some r)
    (k : ∀ key' cap', Sq c ops Q rest ((dd, .eq (slv key' r.length cap')) :: E) (L.set j ⟨key', .row e r cap'⟩)) (hby : (c.P.info? e).map (·.bytes) = some bytes := by kernel_rfl)
    (hs : Look c E L x (.eq (slv key xs.length cap)) := by first | exact look_t rfl | exact look_own) (hL : L[j]? = some ⟨key, .row e xs cap⟩ := by rfl) (hy : Look c E L y (.of ys) := by exact look_t rfl) (hn : Nat.blt dd c.n = true := by rfl) :
    Sq c ops Q (⟨some dd, .call ⟨.builtin .append, #[x, y], #[t, t]⟩, ty, pos, af, none⟩ :: rest) E L := .app hu te zr hby hs hL hy h hn k

/-! ### Structs and lists that are built -/

theorem Qfl {place : Nat → Option (Nat × Nat)} {β : Type} [Rp β] {b b' : β} {γ : Type} [Rp γ] {v : γ} {i : Nat} {r : List (Nat × Operand)} (l : Lens β γ) (k : Fills c E L place (l.set b v) r b')
    (hp : place i = some (l.off, Rp.size γ) := by rfl) (hx : Look c E L x (.of v) := by first | exact look_t rfl | exact look_int _ | exact look_bool _ | exact look_nil | exact look_str _) : Fills c E L place b ((i, x) :: r) b' := .cons l hp hx rfl k
theorem Qbd {β : Type} [Rp β] {z b : β} {ps : List (Nat × Operand)} {pl : Array (Nat × Nat)} (bu : Bu c.P t pl) (zr : Zr c.P t z) (b0 : β) (hf : Fills c E L (pl[·]?) z ps b) (k : Sq c ops Q rest ((dd, .of b0) :: E) L) (ha : Rp.agg β = true := by rfl) (hb : b = b0 := by rfl) (hn : Nat.blt dd c.n = true := by rfl) :
    Sq c ops Q (⟨some dd, .build t ps.toArray, ty, pos, af, none⟩ :: rest) E L := .v ((r_build ha bu zr hf).as hb) rfl rfl hn k
theorem Qbl {α : Type} [Rp α] {e n : Nat} {z : α} {ps : List (Nat × Operand)} (r : List α) (hu : c.P.underlying t = some (.slice e)) (te : Ty c.P e α) (zr : Zr c.P e z) (k : Sq c ops Q rest ((dd, .of r) :: E) L)
    (hf : FillsL c E L (List.replicate n z) ps r := by repeat (first | exact FillsL.nil | refine FillsL.cons (by simp) (look_t rfl) ?_ | refine FillsL.cons (by simp) (look_int _) ?_ | refine FillsL.cons (by simp) (look_bool _) ?_ | refine FillsL.cons (by simp) (look_str _) ?_))
    (hs : Nat.beq (Rp.size α) 0 = false := by rfl) (hn' : Nat.ble (n * Rp.size α) 16777216 = true := by rfl) (hn : Nat.blt dd c.n = true := by rfl) :
    Sq c ops Q (⟨some dd, .buildSlice t n ps.toArray, ty, pos, af, none⟩ :: rest) E L := .v (r_bsl hu te zr hs hn' hf) rfl rfl hn k

/-! ### What is known, and ends -/

/-- what is known of some slots -/
inductive Sb (E : List (Nat × VP)) : List Nat → List (Nat × VP) → Prop
  | nil : Sb E [] []
  | cons {t : Nat} {ts : List Nat} {τ : VP} {E2 : List (Nat × VP)} : look E t = some τ → Sb E ts E2 → Sb E (t :: ts) ((t, τ) :: E2)
theorem Sb.le : ∀ {ts : List Nat} {E1 : List (Nat × VP)}, Sb E ts E1 → Le E E1
  | _, _, .nil => .nil
  | _, _, .cons h k => .same h k.le
theorem Qwl {code : Code} {E1 : List (Nat × VP)} (ts : List Nat) (k : Wp c Q code E1 L) (hE : Sb E ts E1 := by repeat (first | exact Sb.nil | (apply Sb.cons; rfl))) : Wp c Q code E L := .le hE.le k
theorem Qmt {z : Exit} {E' : List (Nat × VP)} {L' : List Ent} (n : Nat) (k : To c Q z E' L') (hL : L.drop n = L' := by rfl) (h : Le E E' := by repeat (first | exact Le.nil | refine Le.same rfl ?_)) : To c Q z E L := .meet n hL h k
theorem Qrd {σ ε γ δ : Type} {E' : σ → γ → List (Nat × VP)} {L' : σ → γ → List Ent} {xs : ε → Exit} {Ex : ε → δ → List (Nat × VP)} {Lx : ε → δ → List Ent} {s : σ} (g : γ) (n : Nat) (hL : L.drop n = L' s g := by rfl)
    (h : Le E (E' s g) := by repeat (first | exact Le.nil | refine Le.same rfl ?_)) : To c (LQG c E' L' xs Ex Lx (.inl s)) .normal E L := .roundG g n hL h
theorem Qlv {σ ε γ δ : Type} {E' : σ → γ → List (Nat × VP)} {L' : σ → γ → List Ent} {xs : ε → Exit} {Ex : ε → δ → List (Nat × VP)} {Lx : ε → δ → List Ent} {e : ε} {z : Exit} (g : δ) (n : Nat) (hx : z = xs e := by rfl) (hn : z ≠ .normal := by simp) (hL : L.drop n = Lx e g := by rfl)
    (h : Le E (Ex e g) := by repeat (first | exact Le.nil | refine Le.same rfl ?_)) : To c (LQG c E' L' xs Ex Lx (.inr e)) z E L := .leaveG g n hx hn hL h
theorem Qrc {t : Nat} {p : Nat} {α : Type} [Rp α] {v : α} (i : Nat) (tt : Ty c.P ty α) (h : look E t = some (.eq (.pointer (some ⟨p, 0, none⟩))) := by rfl) (hL : L[i]? = some ⟨some p, .var v⟩ := by rfl) : RV c E L (.cell t ty) (.of v) := rv_c tt h hL
theorem Qe1 {fn : Func} {t : Nat} {τ : VP} (hr : fn.results = #[.tmp t] := by rfl) (h : look E t = some τ := by rfl) (hds : c.ds = [] := by rfl) : To c (bodyPost c.P fn (Post c τ)) .ret E L := .end1 hr (rv_t h) hds
theorem Qo1 {fn : Func} {t : Nat} {τ : VP} {δ : Type} {ρ : δ → VP} {Lo : δ → List Ent} (dd : δ) (hs : (Lo dd).Sublist L := by repeat (first | exact List.nil_sublist _ | refine List.Sublist.cons_cons _ ?_)) (hr : fn.results = #[.tmp t] := by rfl) (h : look E t = some τ := by rfl) (hρ : ρ dd = τ := by rfl) (hds : c.ds = [] := by rfl) :
    To c (bodyPost c.P fn (PostO c.X c.A0 c.W0 ρ Lo)) .ret E L := .endO1 dd hs hr hρ (rvo_t h) hds
theorem Qo2 {fn : Func} {t u : Nat} {τ τ2 : VP} {δ : Type} {ρ : δ → VP} {Lo : δ → List Ent} (dd : δ) (hs : (Lo dd).Sublist L := by repeat (first | exact List.nil_sublist _ | refine List.Sublist.cons_cons _ ?_)) (hr : fn.results = #[.tmp t, .tmp u] := by rfl)
    (h : look E t = some τ := by rfl) (h2 : look E u = some τ2 := by rfl) (hρ : ρ dd = .tup [τ, τ2] := by rfl) (hds : c.ds = [] := by rfl) : To c (bodyPost c.P fn (PostO c.X c.A0 c.W0 ρ Lo)) .ret E L := .endO2 dd hs hr hρ (rvo_t h) (rvo_t h2) hds
/-! ### Loops and ways that meet -/

def setN : List Ent → List (Nat × Ent) → List Ent
  | L, [] => L
  | L, (i, e) :: r => setN (L.set i e) r
/-- the same list, spelled out -/
inductive NL : List Ent → List Ent → Prop
  | nil : NL [] []
  | cons {e : Ent} {r s : List Ent} : NL r s → NL (e :: r) (e :: s)
theorem NL.eq : ∀ {l m : List Ent}, NL l m → l = m
  | _, _, .nil => rfl
  | _, _, .cons h => by rw [h.eq]
theorem Qlp {σ ε γ δ : Type} {body : Code} {N : Nat} {b : σ → Option (σ ⊕ ε)} {s0 : σ} {e : ε} {E1 : List (Nat × VP)} {L1 : List Ent} (hl : loopM N b s0 = some e) (ts : List Nat) (u : σ → γ → List (Nat × VP)) (ul : σ → γ → List (Nat × Ent)) (xs : ε → Exit)
    (ux : ε → δ → List (Nat × VP)) (ulx : ε → δ → List (Nat × Ent)) (g0 : γ)
    (hbody : ∀ s r, b s = some r → ∀ g, Wp c (LQG c (fun s g => u s g ++ E1) (fun s g => setN L1 (ul s g)) xs (fun e d => ux e d ++ E1) (fun e d => setN L1 (ulx e d)) r) body (u s g ++ E1) (setN L1 (ul s g)))
    (hafter : ∀ g, To c Q (xs e) (ux e g ++ E1) (setN L1 (ulx e g)))
    (hL1 : NL L L1 := by repeat (first | exact NL.nil | apply NL.cons))
    (hE1 : Sb E ts E1 := by repeat (first | exact Sb.nil | (apply Sb.cons; rfl))) (hE : Le E (u s0 g0 ++ E1) := by repeat (first | exact Le.nil | refine Le.same rfl ?_)) (hL : L1 = setN L1 (ul s0 g0) := by rfl) : Wp c Q (.loop body) E L :=
  Wp.loopG hl (fun s g => u s g ++ E1) (fun s g => setN L1 (ul s g)) xs (fun e d => ux e d ++ E1) (fun e d => setN L1 (ulx e d)) g0 (hL1.eq.trans hL) hE hbody hafter
theorem Qcm {γ : Type} {b : Bool} {y z : Code} {E1 : List (Nat × VP)} {L1 : List Ent} (ts : List Nat) (u : γ → List (Nat × VP)) (ul : γ → List (Nat × Ent)) (hM : ∀ g, To c Q .normal (u g ++ E1) (setN L1 (ul g)))
    (ht : (∀ g, To c (Stp Q) .normal (u g ++ E1) (setN L1 (ul g))) → b = true → Wp c (Stp Q) y E L1) (hf : (∀ g, To c (Stp Q) .normal (u g ++ E1) (setN L1 (ul g))) → b = false → Wp c (Stp Q) z E L1)
    (hL1 : NL L L1 := by repeat (first | exact NL.nil | apply NL.cons))
    (hE1 : Sb E ts E1 := by repeat (first | exact Sb.nil | (apply Sb.cons; rfl))) (hl : Look c E L1 x (.of b) := by first | exact look_t rfl | exact look_bool _) : Wp c Q (.cond x y z) E L := by
  cases hL1.eq
  exact Wp.condM (fun g => u g ++ E1) (fun g => setN L (ul g)) hl hM ht hf

/-! ### Regions that draw their order -/

section
variable {all : List Hk} {w : Nat → Bool}
theorem Hm {τ : VP} {hyp : List Ent → Prop} (hx : ∀ L', Look c E L' x τ := by first | exact fun _ => look_t rfl | exact fun _ => look_int _ | exact fun _ => look_bool _ | exact fun _ => look_str _) : ∀ L', hyp L' → HO c ops E L' ⟨some dd, .move x, ty, pos, af, none⟩ τ := fun L' _ => .v (r_move (hx L')) rfl
theorem H1 {σ τ : VP} {hyp : List Ent → Prop} (h : ∀ {L'}, Look c E L' x σ → HR c E L' o τ) (hg : o.guard = none := by rfl) (hx : ∀ L', Look c E L' x σ := by first | exact fun _ => look_t rfl | exact fun _ => look_int _ | exact fun _ => look_bool _ | exact fun _ => look_str _) :
    ∀ L', hyp L' → HO c ops E L' o τ := fun L' _ => .v (h (hx L')) hg
theorem H2 {σ σ2 τ : VP} {hyp : List Ent → Prop} (h : ∀ {L'}, Look c E L' x σ → Look c E L' y σ2 → HR c E L' o τ) (hg : o.guard = none := by rfl) (hx : ∀ L', Look c E L' x σ := by first | exact fun _ => look_t rfl | exact fun _ => look_int _ | exact fun _ => look_bool _ | exact fun _ => look_str _)
    (hy : ∀ L', Look c E L' y σ2 := by first | exact fun _ => look_t rfl | exact fun _ => look_int _ | exact fun _ => look_bool _ | exact fun _ => look_str _) : ∀ L', hyp L' → HO c ops E L' o τ := fun L' _ => .v (h (hx L') (hy L')) hg
theorem Hld {p o : Nat} {β γ : Type} [Rp β] [Rp γ] {b : β} (i : Nat) (l : Lens β γ) (tt : Ty c.P t γ) (hx : ∀ L', Look c E L' x (.eq (.pointer (some ⟨p, o, none⟩))) := by exact fun _ => look_t rfl) (hL : L[i]? = some ⟨some p, .var b⟩ := by rfl) (ho : o = l.off := by rfl)
    (hu : unsto w i 0 all = true := by first | rfl | kernel_rfl) : ∀ L' : List Ent, (∀ (j : Nat) (e : Ent), L[j]? = some e → unsto w j 0 all = true → L'[j]? = some e) → HO c ops E L' ⟨some dd, .load t x, ty, pos, af, none⟩ (.of (l.get b)) :=
  fun L' hL' => .v (r_load l tt (hx L') (hL' _ _ hL hu) ho rfl) rfl
theorem Hl0 {p : Nat} {β : Type} [Rp β] {b : β} (i : Nat) (tt : Ty c.P t β) (hx : ∀ L', Look c E L' x (.eq (.pointer (some ⟨p, 0, none⟩))) := by exact fun _ => look_t rfl) (hL : L[i]? = some ⟨some p, .var b⟩ := by rfl)
    (hu : unsto w i 0 all = true := by first | rfl | kernel_rfl) : ∀ L' : List Ent, (∀ (j : Nat) (e : Ent), L[j]? = some e → unsto w j 0 all = true → L'[j]? = some e) → HO c ops E L' ⟨some dd, .load t x, ty, pos, af, none⟩ (.of b) :=
  fun L' hL' => .v (r_load (Lens.id β) tt (hx L') (hL' _ _ hL hu) rfl rfl) rfl
theorem Hcl {f : FuncId} {xs : List Operand} {ats : Array TypeId} {τs : List VP} {ρ : VP} {hyp : List Ent → Prop} (en : En c.P f) (h : Meets c.P f τs ρ)
    (hx : ∀ L', Looks c E L' xs τs := by intro L'; repeat (first | exact trivial | refine ⟨look_t rfl, ?_⟩ | refine ⟨look_int _, ?_⟩ | refine ⟨look_bool _, ?_⟩ | refine ⟨look_nil, ?_⟩ | refine ⟨look_str _, ?_⟩)) :
    ∀ L', hyp L' → HO c ops E L' ⟨some dd, .call ⟨.value (.func f), xs.toArray, ats⟩, ty, pos, af, none⟩ ρ := fun L' _ => .v (r_call en h (hx L')) rfl
theorem Hix {α : Type} [Rp α] [Inhabited α] {xs : List α} {e : TypeId} {i : Int} {j : Nat} {hyp : List Ent → Prop} (hk : idx xs.length i = some j) (hu : c.P.underlying t = some (.slice e)) (te : Ty c.P e α)
    (hx : ∀ L', Look c E L' x (.of xs) := by exact fun _ => look_t rfl) (hy : ∀ L', Look c E L' y (.of i) := by first | exact fun _ => look_t rfl | exact fun _ => look_int _) :
    ∀ L', hyp L' → HO c ops E L' ⟨some dd, .indexAddr t x y, ty, pos, af, none⟩ (.ptr (lget xs j)) := fun L' _ => .v (r_ias hu te (hx L') (hy L') (idx_some hk)) rfl
theorem Hn {α : Type} [Rp α] {a b : α} {hyp : List Ent → Prop} (e : some a = some b) (h : ∀ L', hyp L' → HR c E L' o (.of a)) (hg : o.guard = none := by rfl) : ∀ L', hyp L' → HO c ops E L' o (.of b) := fun L' hL => .v ((h L' hL).as (some_in e)) hg
theorem Hg {τ : VP} {j g : Nat} {b want : Bool} {hyp : List Ent → Prop} (h : ∀ L', hyp L' → b = want → HR c E L' o τ) (hg : o.guard = some (j, want) := by rfl) (hj : (ops[j]?).bind (·.dst) = some g := by rfl) (hl : look E g = some (.of b) := by rfl) :
    ∀ L', hyp L' → HO c ops E L' o (.cond (b = want) τ) := fun L' hL => .g (h L' hL) hg hj hl
end

/-- an operation that only yields a value -/
def Hp (s : Nat) (up rd : List Nat) (τ : VP) : Hd := ⟨some s, up, rd, [], fun _ => τ, fun _ _ => ⟨none, .dead⟩⟩
section
variable {hs : List Hd} {i : Nat} {up rd : List Nat}
theorem Dm {τ : VP} (hx : ∀ (hd : Nat → Hid) (E' : List (Nat × VP)) (L' : List Ent), (∀ t τ, look (heD hd hs E up) t = some τ → look E' t = some τ) → Look c E' L' x τ := by first | exact fun _ _ _ hE => look_t (hE _ _ rfl) | exact fun _ _ _ _ => look_int _ | exact fun _ _ _ _ => look_bool _ | exact fun _ _ _ _ => look_str _)
    (hn : Nat.blt dd c.n = true := by rfl) : HeadD c ops Q hs E L i ⟨some dd, .move x, ty, pos, af, none⟩ (Hp dd up rd τ) := hd_v rfl rfl hn fun hd E' L' hE _ => r_move (hx hd E' L' hE)
theorem D1 {σ τ : VP} (h : ∀ {E' L'}, Look c E' L' x σ → HR c E' L' o τ) (hg : o.guard = none := by rfl) (hd : o.dst = some dd := by rfl)
    (hx : ∀ (hd : Nat → Hid) (E' : List (Nat × VP)) (L' : List Ent), (∀ t τ, look (heD hd hs E up) t = some τ → look E' t = some τ) → Look c E' L' x σ := by first | exact fun _ _ _ hE => look_t (hE _ _ rfl) | exact fun _ _ _ _ => look_int _ | exact fun _ _ _ _ => look_bool _ | exact fun _ _ _ _ => look_str _)
    (hn : Nat.blt dd c.n = true := by rfl) : HeadD c ops Q hs E L i o (Hp dd up rd τ) := hd_v hg hd hn fun hd E' L' hE _ => h (hx hd E' L' hE)
theorem Dld {p o : Nat} {β γ : Type} [Rp β] [Rp γ] {b : β} (k : Nat) (l : Lens β γ) (tt : Ty c.P t γ)
    (hx : ∀ (hd : Nat → Hid) (E' : List (Nat × VP)) (L' : List Ent), (∀ t τ, look (heD hd hs E up) t = some τ → look E' t = some τ) → Look c E' L' x (.eq (.pointer (some ⟨p, o, none⟩))) := by exact fun _ _ _ hE => look_t (hE _ _ rfl))
    (hL : ∀ hd : Nat → Hid, (Lf (fun _ => true) hd 0 (hs.take i) L)[k]? = some ⟨some p, .var b⟩ := by exact fun _ => rfl) (hr : rd.contains k = true := by rfl) (ho : o = l.off := by rfl)
    (hn : Nat.blt dd c.n = true := by rfl) : HeadD c ops Q hs E L i ⟨some dd, .load t x, ty, pos, af, none⟩ (Hp dd up rd (.of (l.get b))) := hd_v rfl rfl hn fun hd E' L' hE hL' => r_load l tt (hx hd E' L' hE) (hL' _ _ (hL hd) hr) ho rfl
theorem Dl0 {p : Nat} {β : Type} [Rp β] {b : β} (k : Nat) (tt : Ty c.P t β)
    (hx : ∀ (hd : Nat → Hid) (E' : List (Nat × VP)) (L' : List Ent), (∀ t τ, look (heD hd hs E up) t = some τ → look E' t = some τ) → Look c E' L' x (.eq (.pointer (some ⟨p, 0, none⟩))) := by exact fun _ _ _ hE => look_t (hE _ _ rfl))
    (hL : ∀ hd : Nat → Hid, (Lf (fun _ => true) hd 0 (hs.take i) L)[k]? = some ⟨some p, .var b⟩ := by exact fun _ => rfl) (hr : rd.contains k = true := by rfl)
    (hn : Nat.blt dd c.n = true := by rfl) : HeadD c ops Q hs E L i ⟨some dd, .load t x, ty, pos, af, none⟩ (Hp dd up rd (.of b)) := hd_v rfl rfl hn fun hd E' L' hE hL' => r_load (Lens.id β) tt (hx hd E' L' hE) (hL' _ _ (hL hd) hr) rfl rfl
theorem Dv {τ : VP} (h : ∀ (hd : Nat → Hid) (E' : List (Nat × VP)) (L' : List Ent), (∀ t τ, look (heD hd hs E up) t = some τ → look E' t = some τ) → (∀ j e, (Lf (fun _ => true) hd 0 (hs.take i) L)[j]? = some e → rd.contains j = true → L'[j]? = some e) → HR c E' L' o τ)
    (hg : o.guard = none := by rfl) (hd : o.dst = some dd := by rfl) (hn : Nat.blt dd c.n = true := by rfl) : HeadD c ops Q hs E L i o (Hp dd up rd τ) := hd_v hg hd hn h
end
end
end Gv

namespace Gv
open Go
set_option linter.unusedVariables false
set_option linter.unusedSimpArgs false

theorem wpIn_room {F : Fence} {n n' : Nat} {P : Program} {code : Code} {Q : Exit → Act → World → Prop} {a : Act} {W : World} (hd : F.depth = none) (h : code.wpIn F n P Q a W) : code.wpIn F n' P Q a W :=
  fun b k cs hro hb _ => h b k cs hro hb (fun d hd' => by rw [hd] at hd'; cases hd')

/-- the very object -/
def CP.is (o : Obj) : CP where
  holds _ _ x := x = o
  nilOk := False
  mono _ h := h
abbrev CP.dfr : CP := .is (.deferred (some []))

/-- a function's value with what it has captured -/
def VP.clo (f : FuncId) (τs : List VP) : VP where
  holds A W v := ∃ lb : List Value, v = .func (.func f) #[] lb.toArray ∧ HoldsAll A W τs lb
  mono e h := let ⟨lb, h1, h2⟩ := h; ⟨lb, h1, h2.mono e⟩

/-- an own block that is no cells is turned -/
theorem St.turn {c E L a W} (h : St c E L a W) {i p : Nat} {cp cp' : CP} (hi : L[i]? = some ⟨some p, cp⟩) {o' : Obj} (hc : cp'.holds (ks L ++ c.A0) W o') :
    St c E (L.set i ⟨some p, cp'⟩) a (W.putObj p o') := by
  have hks : ks (L.set i ⟨some p, cp'⟩) = ks L := ks_set (cp := cp') hi
  have hp : p ∈ ks L := mem_ks.2 ⟨_, List.mem_of_getElem? hi, rfl⟩
  have hext : Ext (ks L ++ c.A0) W (ks L ++ c.A0) (W.putObj p o') :=
    ⟨by simp, fun k _ ha => World.putObj_heap_other (fun e => ha (e ▸ List.mem_append.2 (.inl hp))), fun _ h _ => h⟩
  exact
  { defers := h.defers
    size := h.size
    env := fun t τ hl => by rw [hks]; exact let ⟨v, h1, h2⟩ := h.env t τ hl; ⟨v, h1, τ.mono hext h2⟩
    fr := ⟨h.fr.os, h.fr.tape, h.fr.output, h.fr.drawn, by simpa using h.fr.size, fun k hk hx => by
      rw [World.putObj_heap_other (fun e : k = p => hx (by subst e; exact h.mine _ hp hk))]
      exact h.fr.block k hk hx⟩
    own := fun e he => by
      rw [hks]
      obtain ⟨j, hj⟩ := List.mem_iff_getElem?.1 he
      rw [List.getElem?_set] at hj
      split at hj
      · rename_i hij
        subst hij
        split at hj
        · simp only [Option.some.injEq] at hj
          subst hj
          exact ⟨_, World.putObj_heap_same (h.lt p hp), cp'.mono hext hc⟩
        · cases hj
      · rename_i hij
        have h1 := h.own e (List.mem_of_getElem? hj)
        unfold Ent.ok at *
        split at h1
        · rename_i q hq
          obtain ⟨o', ho', hh⟩ := h1
          have hne : q ≠ p := fun e' => hij (ks_inj h.nodup hi hj rfl (e' ▸ hq))
          exact ⟨o', by rw [World.putObj_heap_other hne]; exact ho', CP.mono _ hext hh⟩
        · exact h1
    nodup := by rw [hks]; exact h.nodup
    lt := by rw [hks]; simpa using h.lt
    mine := by rw [hks]; exact h.mine
    old := by rw [hks]; simpa using h.old }

theorem r_mkI {c : Cx} {E : List (Nat × VP)} {L : List Ent} {d : Option Tmp} {ty : TypeId} {pos : String} {af : Array Edge} {g : Option (Nat × Bool)} {f : FuncId} {xs : List Operand} {τs : List VP} (hx : Looks c E L xs τs) :
    HR c E L ⟨d, .makeFunc (.func f) #[] xs.toArray, ty, pos, af, g⟩ (.clo f τs) := .pure fun a W s =>
  ⟨.func (.func f) #[] (xs.map a.eval).toArray, by simp [execOp, Instr.makeFunc], _, rfl, hx.holds a W s⟩

/-- what a callee may do with entries of the caller's -/
structure Lent (A : List Nat) (W : World) (L : List Ent) : Prop where
  old : ∀ k ∈ A, k < W.heap.size ∧ k ∉ ks L
  nodup : (ks L).Nodup
  lt : ∀ k ∈ ks L, k < W.heap.size
  ok : ∀ e ∈ L, e.ok (ks L ++ A) W

/-- the value u is a yield: called with x it turns s to s' and says 'go on', or leaves with q and says 'no more' -/
def Yld (P : Program) (u : Value) {α σ ε γ : Type} (τ : α → VP) (Ls : σ → γ → List Ent) (Lx : ε → γ → List Ent) (step : α → σ → Option (σ ⊕ ε)) (R : List Nat → World → Prop) : Prop :=
  ∃ l, u = .func (.yield l) #[] #[] ∧ ∀ x s r, step x s = some r → ∀ g A W v, R (ks (Ls s g) ++ A) W → Lent A W (Ls s g) → (τ x).holds (ks (Ls s g) ++ A) W v →
    YieldAt Fence.wide 8 P l #[v] W (match r with
      | .inl s' => PostO (ks (Ls s g)) A W (fun _ : γ => VP.of true) (fun g => Ls s' g)
      | .inr q => PostO (ks (Ls s g)) A W (fun _ : γ => VP.of false) (fun g => Lx q g))

/-- the caller's entries behind a loop -/
def Lr {σ ε γ : Type} (Ls : σ → γ → List Ent) (Lx : ε → γ → List Ent) : σ ⊕ ε → γ → List Ent
  | .inl s, g => Ls s g
  | .inr q, g => Lx q g

/-- the function f is an iterator: called with a yield it does what 'run' says, the entries Lin being lent to it -/
structure MeetsI (P : Program) (f : FuncId) (τs : List VP) (Lin : List Ent) {α : Type} (τ : α → VP) (run : ∀ {σ ε : Type}, (α → σ → Option (σ ⊕ ε)) → σ → Option (σ ⊕ ε)) : Prop where
  go : ∀ {σ ε γ : Type} (Ls : σ → γ → List Ent) (Lx : ε → γ → List Ent) (step : α → σ → Option (σ ⊕ ε)) (s0 : σ) (g0 : γ) (r : σ ⊕ ε), run step s0 = some r →
    ∀ (A : List Nat) (W : World) (u : Value) (vs : List Value), Lent A W (Lin ++ Ls s0 g0) → HoldsAll (ks (Lin ++ Ls s0 g0) ++ A) W τs vs →
      Yld P u τ Ls Lx step (fun A' W' => Ext (ks (Lin ++ Ls s0 g0) ++ A) W A' W') →
      Calls P f (u :: vs).toArray W (PostO (ks (Lin ++ Ls s0 g0)) A W (fun _ : γ => .tup []) (fun g => Lin ++ Lr Ls Lx r g))

theorem MeetsI.of {P : Program} {f : FuncId} {fn : Func} {code : Code} {n : Nat} {τs : List VP} {Lin : List Ent} {α : Type} {τ : α → VP} {run : ∀ {σ ε : Type}, (α → σ → Option (σ ⊕ ε)) → σ → Option (σ ⊕ ε)}
    (hf : P.funcs[f]? = some fn) (hb : fn.body = some code) (hn : fn.ntmps = n) (hlen : Nat.ble (τs.length + 1) n = true)
    (h : ∀ {σ ε γ : Type} (Ls : σ → γ → List Ent) (Lx : ε → γ → List Ent) (step : α → σ → Option (σ ⊕ ε)) (s0 : σ) (g0 : γ) (r : σ ⊕ ε), run step s0 = some r →
      ∀ W A u, Yld P u τ Ls Lx step (fun A' W' => Ext (ks (Lin ++ Ls s0 g0) ++ A) W A' W') →
        Wp ⟨P, n, W, ks (Lin ++ Ls s0 g0), A, none, []⟩ (bodyPost P fn (PostO (ks (Lin ++ Ls s0 g0)) A W (fun _ : γ => .tup []) (fun g => Lin ++ Lr Ls Lx r g))) code (params 0 (.eq u :: τs)) (Lin ++ Ls s0 g0)) : MeetsI P f τs Lin τ run := by
  refine ⟨?_⟩
  intro σ ε γ Ls Lx step s0 g0 r hr A W u vs hl hv hy
  refine calls_of_wp hf hb (wpIn_wide.1 (h Ls Lx step s0 g0 r hr W A u hy _ _ ?_))
  have hv' : HoldsAll (ks (Lin ++ Ls s0 g0) ++ A) W (.eq u :: τs) (u :: vs) := .cons rfl hv
  have hl' := hv'.length
  have hle : τs.length + 1 ≤ n := Nat.le_of_ble_eq_true hlen
  exact
  { defers := rfl
    size := by simp at hl'; simp [hn, hl']; omega
    env := fun t τ hlk => by
      obtain ⟨_, v, h2, h3⟩ := look_params hv' 0 t τ hlk
      refine ⟨v, ?_, h3⟩
      have hlt : t < (u :: vs).length := (List.getElem?_eq_some_iff.1 h2).1
      rw [Array.getElem?_append_left (by simpa using hlt)]
      simpa using h2
    fr := .refl _ _
    own := hl.ok
    nodup := hl.nodup
    lt := hl.lt
    mine := fun k hk _ => hk
    old := hl.old }

section
variable {c : Cx} {E : List (Nat × VP)} {L : List Ent} {ops : Array Oper} {Q : Exit → Act → World → Prop}
variable {d : Option Tmp} {ty : TypeId} {pos : String} {af : Array Edge} {g : Option (Nat × Bool)} {x y : Operand} {t t2 : TypeId}

theorem St.sofar {a : Act} {W : World} (s : St c E L a W) : Ext (c.X ++ c.A0) c.W0 (ks L ++ c.A0) W :=
  ⟨s.fr.size, fun k hk ha => s.fr.block k hk fun hx => ha (List.mem_append.2 (.inl hx)), fun k hm hlt => by
    rcases List.mem_append.1 hm with hm | hm
    · exact List.mem_append.2 (.inl (s.mine k hm hlt))
    · exact List.mem_append.2 (.inr hm)⟩

theorem St.lent {a : Act} {W : World} {Lin Lr : List Ent} (s : St c E (Lin ++ Lr) a W) : Lent (ks Lr ++ c.A0) W Lin := by
  have hnd0 := s.nodup
  rw [ks_append] at hnd0
  obtain ⟨hn1, hn2, hn3⟩ := List.nodup_append.1 hnd0
  exact
  { old := fun k hm => by
      rcases List.mem_append.1 hm with hm | hm
      · exact ⟨s.lt k (by rw [ks_append]; exact List.mem_append.2 (.inr hm)), fun h => hn3 k h k hm rfl⟩
      · obtain ⟨h1, h2⟩ := s.old k hm
        exact ⟨h1, fun h => h2 (by rw [ks_append]; exact List.mem_append.2 (.inl h))⟩
    nodup := hn1
    lt := fun k hm => s.lt k (by rw [ks_append]; exact List.mem_append.2 (.inl hm))
    ok := fun e he => Ent.ok_mono (s.own e (List.mem_append.2 (.inl he))) (.drop fun k hm => by
      rw [ks_append]
      simp only [List.mem_append] at hm ⊢
      rcases hm with hm | hm | hm
      · exact .inl (.inl hm)
      · exact .inl (.inr hm)
      · exact .inr hm) fun _ _ => rfl }

theorem ks_swap {Lin Lr : List Ent} {A : List Nat} {W : World} : Ext (ks (Lin ++ Lr) ++ A) W (ks Lin ++ (ks Lr ++ A)) W := .drop fun k hm => by
  rw [ks_append]
  simp only [List.mem_append] at hm ⊢
  rcases hm with hm | hm | hm
  · exact .inl (.inl hm)
  · exact .inl (.inr hm)
  · exact .inr hm
theorem ks_swap' {Lin Lr : List Ent} {A : List Nat} {W : World} : Ext (ks Lin ++ (ks Lr ++ A)) W (ks (Lin ++ Lr) ++ A) W := .drop fun k hm => by
  rw [ks_append] at hm
  simp only [List.mem_append] at hm ⊢
  rcases hm with (hm | hm) | hm
  · exact .inl hm
  · exact .inr (.inl hm)
  · exact .inr (.inr hm)

/-- a round is asked for: yield is called -/
theorem Sq.yield {rest : List Oper} {dd tf : Nat} {ats : Array TypeId} {u : Value} {α σ ε γ : Type} {τ : α → VP} {Ls : σ → γ → List Ent} {Lx : ε → γ → List Ent} {step : α → σ → Option (σ ⊕ ε)} {Lin : List Ent} {x : Operand} {v : α} {s : σ} {gg : γ} {r : σ ⊕ ε}
    (hc : c.rd = none) (hy : Yld c.P u τ Ls Lx step (fun A' W' => Ext (c.X ++ c.A0) c.W0 A' W')) (hf : look E tf = some (.eq u)) (hx : Look c E (Lin ++ Ls s gg) x (τ v)) (hr : step v s = some r) (hn : Nat.blt dd c.n = true)
    (k1 : ∀ s', r = .inl s' → ∀ g', Sq c ops Q rest ((dd, .of true) :: E) (Lin ++ Ls s' g')) (k2 : ∀ q, r = .inr q → ∀ g', Sq c ops Q rest ((dd, .of false) :: E) (Lin ++ Lx q g')) :
    Sq c ops Q (⟨some dd, .call ⟨.value (.tmp tf), #[x], ats⟩, ty, pos, af, none⟩ :: rest) E (Lin ++ Ls s gg) := fun a W st => by
  obtain ⟨l, rfl, hy⟩ := hy
  obtain ⟨uf, h1, h2⟩ := st.env tf _ hf
  have hu : uf = .func (.yield l) #[] #[] := h2
  subst hu
  have st' : St c E (Ls s gg ++ Lin) a W := st.perm List.perm_append_comm
  have hv := hx a W st
  have hv' : (τ v).holds (ks (Ls s gg) ++ (ks Lin ++ c.A0)) W (a.eval x) := (τ v).mono (.drop fun k hm => by
    rw [ks_append]
    simp only [List.mem_append] at hm ⊢
    rcases hm with hm | hm | hm
    · exact .inl (.inr hm)
    · exact .inl (.inl hm)
    · exact .inr hm) hv
  obtain ⟨fn, tmps, assign, body, hrun, hR⟩ := hy v s r hr gg (ks Lin ++ c.A0) W (a.eval x) (st'.sofar.trans ks_swap) st'.lent hv'
  have hrun' : (execOp a.eval ⟨some dd, .call ⟨.value (.tmp tf), #[x], ats⟩, ty, pos, af, none⟩).run c.P W = .ok (.round l fn tmps assign body) W := by
    rw [← hrun]
    simp [execOp, resolve, Deferred.ofValue, Act.eval, h1, invoke, Sem.run_bind, Sem.run_pure, Result.andThen]
  refine wpListIn_plain rfl fun K hK => ?_
  refine ⟨fun _ _ => trivial, ?_⟩
  rw [Oper.semAt_eq _ _ _ (fun _ h => by cases h), hrun', Oper.uponIn_round]
  refine ⟨fun h => by simp at h, ?_⟩
  have hR' : RoundIn c.F (9 - 1) c.P l fn tmps assign body W _ := hR
  refine hR'.mono fun e W' he => ?_
  cases r with
  | inl s' =>
    obtain ⟨w, g', rfl, hf', h3, h4, h5, h6⟩ := he
    obtain rfl := of_bool.1 h6
    refine hK _ _ (k1 s' rfl g' _ _ ?_)
    exact (((st'.after hf' h3 h4 h5).perm List.perm_append_comm).put (by simpa using hn) (of_bool.2 rfl))
  | inr q =>
    obtain ⟨w, g', rfl, hf', h3, h4, h5, h6⟩ := he
    obtain rfl := of_bool.1 h6
    refine hK _ _ (k2 q rfl g' _ _ ?_)
    exact (((st'.after hf' h3 h4 h5).perm List.perm_append_comm).put (by simpa using hn) (of_bool.2 rfl))

/-- the same under a guard that holds -/
theorem Sq.yieldT {rest : List Oper} {dd tf j gt : Nat} {b : Bool} {ats : Array TypeId} {u : Value} {α σ ε γ : Type} {τ : α → VP} {Ls : σ → γ → List Ent} {Lx : ε → γ → List Ent} {step : α → σ → Option (σ ⊕ ε)} {Lin : List Ent} {x : Operand} {v : α} {s : σ} {gg : γ} {r : σ ⊕ ε}
    (hc : c.rd = none) (hy : Yld c.P u τ Ls Lx step (fun A' W' => Ext (c.X ++ c.A0) c.W0 A' W')) (hb : b = true) (hj : (ops[j]?).bind (·.dst) = some gt) (hl : look E gt = some (.of b)) (hf : look E tf = some (.cond (b = true) (.eq u))) (hx : Look c E (Lin ++ Ls s gg) x (τ v)) (hr : step v s = some r) (hn : Nat.blt dd c.n = true)
    (k1 : ∀ s', r = .inl s' → ∀ g', Sq c ops Q rest ((dd, .cond (b = true) (.of true)) :: E) (Lin ++ Ls s' g')) (k2 : ∀ q, r = .inr q → ∀ g', Sq c ops Q rest ((dd, .cond (b = true) (.of false)) :: E) (Lin ++ Lx q g')) :
    Sq c ops Q (⟨some dd, .call ⟨.value (.tmp tf), #[x], ats⟩, ty, pos, af, some (j, true)⟩ :: rest) E (Lin ++ Ls s gg) := fun a W st => by
  have hE : look ((tf, .eq u) :: E) tf = some (.eq u) := by simp [look, Nat.beq_refl]
  have st0 : St c ((tf, .eq u) :: E) (Lin ++ Ls s gg) a W := st.less fun t τ' h => by
    simp only [look] at h
    by_cases e : Nat.beq tf t = true
    · rw [e] at h
      simp only [cond_true, Option.some.injEq] at h
      subst h
      rw [← look_beq.1 e]
      exact ⟨_, hf, fun A W v hv => hv.1 hb⟩
    · simp only [Bool.not_eq_true] at e
      rw [e] at h
      exact ⟨_, h, fun _ _ _ h => h⟩
  have key := Sq.yield (c := c) (ops := ops) (Q := Q) (E := (tf, .eq u) :: E) (rest := rest) (ty := ty) (pos := pos) (af := af) (ats := ats) hc hy hE (fun a W s => hx a W (s.less fun t τ' h => by
    by_cases e : Nat.beq tf t = true
    · have := look_beq.1 e
      subst this
      rw [hf] at h
      cases h
      refine ⟨_, hE, fun A W v hv => ⟨fun _ => hv, fun h => absurd hb h⟩⟩
    · simp only [Bool.not_eq_true] at e
      exact ⟨τ', by simp only [look]; rw [e]; exact h, fun _ _ _ h => h⟩)) hr hn
    (fun s' e g' a W st => k1 s' e g' a W (st.less fun t τ' h => by
      simp only [look] at h ⊢
      by_cases e : Nat.beq dd t = true
      · rw [e] at h ⊢
        simp only [cond_true, Option.some.injEq] at h ⊢
        exact ⟨_, rfl, fun A W v hv => by subst h; exact ⟨fun _ => hv, fun h => absurd hb h⟩⟩
      · simp only [Bool.not_eq_true] at e
        rw [e] at h ⊢
        simp only [cond_false] at h ⊢
        by_cases e2 : Nat.beq tf t = true
        · have := look_beq.1 e2
          subst this
          rw [hf] at h
          cases h
          rw [e2]
          exact ⟨_, rfl, fun A W v hv => ⟨fun _ => hv, fun h => absurd hb h⟩⟩
        · simp only [Bool.not_eq_true] at e2
          rw [e2]
          exact ⟨τ', h, fun _ _ _ h => h⟩))
    (fun s' e g' a W st => k2 s' e g' a W (st.less fun t τ' h => by
      simp only [look] at h ⊢
      by_cases e : Nat.beq dd t = true
      · rw [e] at h ⊢
        simp only [cond_true, Option.some.injEq] at h ⊢
        exact ⟨_, rfl, fun A W v hv => by subst h; exact ⟨fun _ => hv, fun h => absurd hb h⟩⟩
      · simp only [Bool.not_eq_true] at e
        rw [e] at h ⊢
        simp only [cond_false] at h ⊢
        by_cases e2 : Nat.beq tf t = true
        · have := look_beq.1 e2
          subst this
          rw [hf] at h
          cases h
          rw [e2]
          exact ⟨_, rfl, fun A W v hv => ⟨fun _ => hv, fun h => absurd hb h⟩⟩
        · simp only [Bool.not_eq_true] at e2
          rw [e2]
          exact ⟨τ', h, fun _ _ _ h => h⟩))
  have := key a W st0
  unfold Cx.wpl wpListIn at this ⊢
  rw [if_pos (by simp [Region.wanted])] at this
  rw [if_pos (by simp [Region.wanted, yielded_of hj hl st, hb])]
  exact this

theorem Sq.eqL {l : List Oper} {L2 : List Ent} (h : L = L2) (k : Sq c ops Q l E L2) : Sq c ops Q l E L := by subst h; exact k

theorem Sq.cases {l : List Oper} (b : Bool) (h1 : b = true → Sq c ops Q l E L) (h2 : b = false → Sq c ops Q l E L) : Sq c ops Q l E L := by
  cases b
  · exact h2 rfl
  · exact h1 rfl
/-- a guard that does not hold -/
theorem Sq.skipG {o : Oper} {rest : List Oper} {dd j gt : Nat} {b : Bool} (τ : VP) (hb : b = false) (hg : o.guard = some (j, true)) (hd : o.dst = some dd) (hj : (ops[j]?).bind (·.dst) = some gt) (hl : look E gt = some (.of b)) (hn : Nat.blt dd c.n = true)
    (k : Sq c ops Q rest ((dd, .cond (b = true) τ) :: E) L) : Sq c ops Q (o :: rest) E L := fun a W s => by
  unfold Cx.wpl wpListIn
  rw [if_neg (by simp [Region.wanted, hg, yielded_of hj hl s, hb]), hd]
  exact ⟨fun _ _ => trivial, k _ _ (s.put (by simpa using hn) ⟨fun h => (by rw [hb] at h; cases h), fun _ => rfl⟩)⟩

theorem Wp.condT {x : Operand} {b : Bool} {y z : Code} (hl : Look c E L x (.of b)) (hb : b = true) (k : Wp c Q y E L) : Wp c Q (.cond x y z) E L := .cond hl (fun _ => k) fun h => by rw [hb] at h; cases h
theorem Wp.condF {x : Operand} {b : Bool} {y z : Code} (hl : Look c E L x (.of b)) (hb : b = false) (k : Wp c Q z E L) : Wp c Q (.cond x y z) E L := .cond hl (fun h => by rw [hb] at h; cases h) fun _ => k

/-! ### The loop over an iterator -/

def exitOf : Code → Exit
  | .ret => .ret
  | .exit id => .exit id
  | .goto t => .goto t
  | _ => .normal
def isJump : Code → Bool
  | .ret | .exit _ | .goto _ => true
  | _ => false

/-- how a round ends; l: the loop's record, D: the block for deferred calls -/
def RQ {σ ε γ : Type} (c : Cx) (js : ε → Code) (l D : Nat) (rec : Loop) (Ls : σ → γ → List Ent) (Lx : ε → γ → List Ent) : σ ⊕ ε → Exit → Act → World → Prop
  | .inl s', x, a, W => x = .normal ∧ ∃ g, St c [] (⟨some l, .is (.loop rec)⟩ :: ⟨some D, .dfr⟩ :: Ls s' g) a W
  | .inr q, x, a, W => isJump (js q) = true ∧ x = exitOf (js q) ∧ ∃ g, St c [] (⟨some l, .is (.loop rec)⟩ :: ⟨some D, .dfr⟩ :: Lx q g) a W

/-- behind the assignment to the loop's variable the round begins -/
def BR (c : Cx) (l : Nat) (body : Code) (Q : Exit → Act → World → Prop) (a : Act) (W : World) : Prop :=
  ∃ W2, (Instr.beginRound l).run c.P W = .ok () W2 ∧ c.wp body Q a W2

theorem To.begin {l : Nat} {body : Code} {Q' : Exit → Act → World → Prop} (i : Nat) {r : Loop} (hL : L[i]? = some ⟨some l, .is (.loop r)⟩) (hr : r.state = .ready)
    (k : Wp c Q body E (L.set i ⟨some l, .is (.loop { r with state := .busy })⟩)) : To c (Exit.then (BR c l body Q) Q') .normal E L := fun a W s => by
  obtain ⟨o, h1, h2⟩ := s.own _ (List.mem_of_getElem? hL)
  have h2' : o = .loop r := h2
  subst h2'
  exact ⟨_, run_beginRound h1 hr, k _ _ (s.turn hL rfl)⟩

theorem To.rleave {σ ε γ : Type} {js : ε → Code} {l D : Nat} {rec : Loop} {Ls : σ → γ → List Ent} {Lx : ε → γ → List Ent} {q : ε} {x : Exit} (g : γ) (n : Nat) (hj : isJump (js q) = true) (hx : x = exitOf (js q)) (hL : L.drop n = ⟨some l, .is (.loop rec)⟩ :: ⟨some D, .dfr⟩ :: Lx q g) :
    To c (RQ c js l D rec Ls Lx (.inr q)) x E L := fun a W s => ⟨hj, hx, g, by rw [← hL]; exact (s.dropL n).less (fun t τ h => by simp [look] at h)⟩

theorem Wp.jump {j : Code} (hj : isJump j = true) (k : To c Q (exitOf j) E L) : Wp c Q j E L := by
  cases j <;> simp only [isJump] at hj <;> first | cases hj | skip
  all_goals first | exact .exit k | exact .ret k | exact fun a W s => wpIn_goto (k a W s)

theorem roundPost_jump {P : Program} {l : Nat} {R : Ending → World → Prop} {j : Code} {a : Act} {W W' : World} {v : Value} (hj : isJump j = true) (h6 : (Instr.endRound l (some j)).run P W = .ok v W') (hR : R (.returned v) W') :
    roundPost P l R (exitOf j) a W := by
  cases j <;> simp only [isJump] at hj <;> first | exact ⟨_, _, h6, hR⟩ | cases hj

theorem St.mark {a : Act} {W : World} (s : St c E L a W) (D : Nat) : St { c with ds := D :: c.ds } E L { a with defers := coll D :: a.defers } W :=
  { defers := by simp [s.defers], size := s.size, env := s.env, fr := s.fr, own := s.own, nodup := s.nodup, lt := s.lt, mine := s.mine, old := s.old }

/-- what an iterator does, for these entries of the caller's -/
def GoI (P : Program) (f : FuncId) (τs : List VP) (Lin : List Ent) {α σ ε γ : Type} (τ : α → VP) (run : (α → σ → Option (σ ⊕ ε)) → σ → Option (σ ⊕ ε)) (Ls : σ → γ → List Ent) (Lx : ε → γ → List Ent) : Prop :=
  ∀ (step : α → σ → Option (σ ⊕ ε)) (s0 : σ) (g0 : γ) (r : σ ⊕ ε), run step s0 = some r →
    ∀ (A : List Nat) (W : World) (u : Value) (vs : List Value), Lent A W (Lin ++ Ls s0 g0) → HoldsAll (ks (Lin ++ Ls s0 g0) ++ A) W τs vs →
      Yld P u τ Ls Lx step (fun A' W' => Ext (ks (Lin ++ Ls s0 g0) ++ A) W A' W') →
      Calls P f (u :: vs).toArray W (PostO (ks (Lin ++ Ls s0 g0)) A W (fun _ : γ => .tup []) (fun g => Lin ++ Lr Ls Lx r g))

theorem range_wpG {gt p : Nat} {assign body : Code} {f : FuncId} {lbτ : List VP} {Lin : List Ent} {α σ ε γ : Type} {τ : α → VP} {run : (α → σ → Option (σ ⊕ ε)) → σ → Option (σ ⊕ ε)}
    {Ls : σ → γ → List Ent} {Lx : ε → γ → List Ent} {step : α → σ → Option (σ ⊕ ε)} {s0 : σ} {g0 : γ} {r : σ ⊕ ε} (js : ε → Code)
    (hc : c.rd = none) (en : En c.P f) (hg : look E gt = some (.clo f lbτ)) (hI : ∀ e1 e2 Lx', GoI c.P f lbτ Lin τ run (fun s g => e1 :: e2 :: Ls s g) Lx') (hr : run step s0 = some r) (hL : L = Lin ++ Ls s0 g0) (hp : Nat.blt p c.n = true)
    (hround : ∀ x s r, step x s = some r → ∀ g (W0' : World) (X' A0' : List Nat) (l D : Nat) (rec : Loop), rec.state = .ready →
      Wp ⟨c.P, c.n, W0', X', A0', some l, []⟩ (Exit.then (BR ⟨c.P, c.n, W0', X', A0', some l, []⟩ l body (RQ ⟨c.P, c.n, W0', X', A0', some l, []⟩ js l D { rec with state := .busy } Ls Lx r)) (fun _ _ _ => False)) assign ((p, τ x) :: E) (⟨some l, .is (.loop rec)⟩ :: ⟨some D, .dfr⟩ :: Ls s g))
    (hdone : ∀ s', r = .inl s' → ∀ g D, To { c with ds := D :: c.ds } Q .normal E (⟨some D, .dfr⟩ :: (Lin ++ Ls s' g)))
    (hstop : ∀ q, r = .inr q → ∀ g D, Wp { c with ds := D :: c.ds } Q (js q) E (⟨some D, .dfr⟩ :: (Lin ++ Lx q g))) :
    Wp c Q (.rangeFunc (.tmp gt) #[p] assign body) E L := fun a W st => by
  subst hL
  refine wpIn_rangeFunc fun fn hfn => ?_
  show ∃ l mark w₁ d w₁' f' args w₂, (Instr.enterLoop fn a.tmps #[p] assign body c.rd).run c.P W = _ ∧ _
  rw [hc]
  obtain ⟨rec, hrec⟩ : ∃ rec : Loop, rec = { state := .ready, pending := none, fn, tmps := a.tmps, params := #[p], assign, body, defers := W.heap.size } := ⟨_, rfl⟩
  obtain ⟨v, hv1, lb, hv2, hlb⟩ := st.env gt _ hg
  -- the two blocks of book-keeping
  obtain ⟨W1, hW1⟩ : ∃ W1, (W.alloc (.deferred (some []))).alloc (.loop rec) = W1 := ⟨_, rfl⟩
  have s1 := (st.alloc (o := .deferred (some [])) (cp := .dfr) rfl).alloc (o := .loop rec) (cp := .is (.loop rec)) rfl
  rw [hW1, World.size_alloc] at s1
  obtain ⟨D, hD⟩ : ∃ D, D = W.heap.size := ⟨_, rfl⟩
  obtain ⟨l, hl⟩ : ∃ l, l = W.heap.size + 1 := ⟨_, rfl⟩
  have hen := run_enterLoop_outer (P := c.P) (w := W) fn a.tmps #[p] assign body
  rw [← hrec, hW1, ← hl, ← hD] at hen
  rw [← hl, ← hD] at s1
  -- the state that the iterator is handed
  obtain ⟨Ls', hLs⟩ : ∃ Ls' : σ → γ → List Ent, Ls' = fun s g => ⟨some l, .is (.loop rec)⟩ :: ⟨some D, .dfr⟩ :: Ls s g := ⟨_, rfl⟩
  obtain ⟨Lx', hLx⟩ : ∃ Lx' : ε → γ → List Ent, Lx' = fun q g => ⟨some l, .is (.loop { rec with state := .done, pending := some (js q) })⟩ :: ⟨some D, .dfr⟩ :: Lx q g := ⟨_, rfl⟩
  have s2 : St c E (Lin ++ Ls' s0 g0) a W1 := s1.perm (by
    rw [hLs]
    exact (List.perm_middle.trans (List.perm_middle.cons _)).symm)
  have hvs : HoldsAll (ks (Lin ++ Ls' s0 g0) ++ c.A0) W1 lbτ lb := by
    have h1 : (VP.clo f lbτ).holds (ks (Lin ++ Ls' s0 g0) ++ c.A0) W1 v := by
      obtain ⟨v', h1, h2⟩ := s2.env gt _ hg
      rw [hv1] at h1
      cases h1
      exact h2
    obtain ⟨lb', e1, e2⟩ := h1
    rw [hv2] at e1
    have : lb' = lb := by injection e1 with _ _ e1; injection e1 with e1; exact e1.symm
    rw [← this]; exact e2
  have s2' : St c E ((Lin ++ Ls' s0 g0) ++ []) a W1 := by rw [List.append_nil]; exact s2
  have hlent := s2'.lent
  simp only [ks, List.nil_append] at hlent
  have hyld : Yld c.P (.func (.yield l) #[] #[]) τ Ls' Lx' step (fun A' W' => Ext (ks (Lin ++ Ls' s0 g0) ++ c.A0) W1 A' W') := by
    refine ⟨l, rfl, fun x s r' hs g A W2 v2 hext hle hv => ?_⟩
    have hle' := hle
    rw [hLs] at hle'
    obtain ⟨o, ho1, ho2⟩ := hle'.ok ⟨some l, .is (.loop rec)⟩ (by simp)
    have ho2' : o = .loop rec := ho2
    subst ho2'
    have hy := run_yield (P := c.P) (args := #[v2]) ho1 (by rw [hrec]; rfl)
    refine ⟨_, _, _, _, hy, roundIn_of_wpIn trivial ?_⟩
    have e1 : rec.assign = assign := by rw [hrec]
    have e2 : rec.body = body := by rw [hrec]
    have e3 : rec.params = #[p] := by rw [hrec]
    have e4 : rec.tmps = a.tmps := by rw [hrec]
    rw [e1, e2, e3, e4]
    refine wpIn_room (n := 9) rfl ?_
    have hfold : ((#[p] : Array Tmp).zip #[v2]).foldl (fun tmps (t, a) => tmps.setIfInBounds t a) a.tmps = a.tmps.setIfInBounds p v2 := by simp
    rw [hfold]
    subst hLs hLx
    refine wpIn_mono ((hround x s r' hs g W2 (ks (⟨some l, .is (.loop rec)⟩ :: ⟨some D, .dfr⟩ :: Ls s g)) A l D rec (by rw [hrec])) { tmps := a.tmps.setIfInBounds p v2, defers := [] } W2 ?_) ?_
    · have hpn : p < c.n := by simpa using hp
      exact
      { defers := rfl
        size := by simp [s2.size]
        env := fun t τ' hlk => by
          simp only [look] at hlk
          by_cases e : Nat.beq p t = true
          · rw [e] at hlk
            simp only [cond_true, Option.some.injEq] at hlk
            subst hlk
            have := look_beq.1 e
            subst this
            exact ⟨v2, by simp [s2.size, hpn], hv⟩
          · simp only [Bool.not_eq_true] at e
            rw [e] at hlk
            simp only [cond_false] at hlk
            obtain ⟨u, h1, h2⟩ := s2.env t τ' hlk
            have hne : p ≠ t := fun h => by rw [look_beq.2 h] at e; cases e
            exact ⟨u, by rw [Array.getElem?_setIfInBounds_ne hne]; exact h1, τ'.mono hext h2⟩
        fr := .refl _ _
        own := hle.ok
        nodup := hle.nodup
        lt := hle.lt
        mine := fun k hk _ => hk
        old := hle.old }
    · intro e a3 W3 hq
      cases e with
      | normal =>
        obtain ⟨W4, hbr, hb⟩ := hq
        refine ⟨W4, hbr, wpIn_room (n := 9) rfl (wpIn_mono hb ?_)⟩
        intro e a5 W5 hq5
        -- the end of the round
        have fin : ∀ (jump : Option Code) {Lr : List Ent}, St ⟨c.P, c.n, W2, ks (⟨some l, .is (.loop rec)⟩ :: ⟨some D, .dfr⟩ :: Ls s g), A, some l, []⟩ [] (⟨some l, .is (.loop { rec with state := .busy })⟩ :: ⟨some D, .dfr⟩ :: Lr) a5 W5 →
            ∃ W6, (Instr.endRound l jump).run c.P W5 = .ok (.bool jump.isNone) W6 ∧ St ⟨c.P, c.n, W2, ks (⟨some l, .is (.loop rec)⟩ :: ⟨some D, .dfr⟩ :: Ls s g), A, some l, []⟩ [] (⟨some l, .is (.loop { rec with state := if jump.isNone then .ready else .done, pending := jump })⟩ :: ⟨some D, .dfr⟩ :: Lr) a5 W6 := fun jump Lr s5 => by
          obtain ⟨o, h1, h2⟩ := s5.own ⟨some l, .is (.loop { rec with state := .busy })⟩ (by simp)
          have h2' : o = .loop { rec with state := .busy } := h2
          subst h2'
          exact ⟨_, run_endRound jump h1, s5.turn (i := 0) rfl rfl⟩
        cases r' with
        | inl s' =>
          obtain ⟨rfl, g', s5⟩ := hq5
          obtain ⟨W6, h6, s6⟩ := fin none s5
          refine ⟨_, W6, h6, ?_⟩
          have hrr : ({ rec with state := if (none : Option Code).isNone then .ready else .done, pending := none } : Loop) = rec := by rw [hrec]; rfl
          rw [hrr] at s6
          exact s6.ends (ρ := fun _ : γ => VP.of true) (Lo := fun g => ⟨some l, .is (.loop rec)⟩ :: ⟨some D, .dfr⟩ :: Ls s' g) g' (List.Sublist.refl _) (of_bool.2 rfl)
        | inr q =>
          obtain ⟨hj, rfl, g', s5⟩ := hq5
          obtain ⟨W6, h6, s6⟩ := fin (some (js q)) s5
          have key : PostO (ks (⟨some l, .is (.loop rec)⟩ :: ⟨some D, .dfr⟩ :: Ls s g)) A W2 (fun _ : γ => VP.of false) (fun g => ⟨some l, .is (.loop { rec with state := .done, pending := some (js q) })⟩ :: ⟨some D, .dfr⟩ :: Lx q g) (.returned (.bool false)) W6 :=
            s6.ends (ρ := fun _ : γ => VP.of false) (Lo := fun g => ⟨some l, .is (.loop { rec with state := .done, pending := some (js q) })⟩ :: ⟨some D, .dfr⟩ :: Lx q g) g' (List.Sublist.refl _) (of_bool.2 rfl)
          exact roundPost_jump hj h6 key
      | exit id => exact hq.elim
      | goto t => exact hq.elim
      | ret => exact hq.elim
      | panic ch => exact hq.elim
      | outgrown => exact hq.elim
  have hgo : GoI c.P f lbτ Lin τ run Ls' Lx' := by rw [hLs]; exact hI _ _ Lx'
  have hcall := hgo step s0 g0 r hr c.A0 W1 (.func (.yield l) #[] #[]) lb hlent hvs hyld
  have hcl : a.eval (.tmp gt) = .func (.func f) #[] lb.toArray := by simp [Act.eval, hv1, hv2]
  refine ⟨l, [coll D], W1, { target := .fn (.func f) lb.toArray, args := #[.func (.yield l) #[] #[]] }, W1, f, #[.func (.yield l) #[] #[]] ++ lb.toArray, W1, hen, ?_, fun _ _ => trivial, ?_, fun h => by simp at h, ?_⟩
  · simp only [resolve, hcl]
    simp [go_sem]
  · simp [invoke, go_sem, en.run]
  · refine CallsIn.ofCalls ?_
    have hargs : (#[.func (.yield l) #[] #[]] ++ lb.toArray : Array Value) = (.func (.yield l) #[] #[] :: lb).toArray := by simp
    rw [hargs]
    refine hcall.mono fun e W7 ⟨v7, g', he, hf, h3, h4, h5, h6⟩ => ?_
    subst he
    have s7 := s2'.after hf h3 (by simpa [ks] using h4) (by simpa [ks] using h5)
    rw [List.append_nil] at s7
    cases r with
    | inl s' =>
      simp only [Lr] at s7
      subst hLs
      have s8 : St c E (⟨some l, .is (.loop rec)⟩ :: ⟨some D, .dfr⟩ :: (Lin ++ Ls s' g')) a W7 := s7.perm (by
        exact List.perm_middle.trans (List.perm_middle.cons _))
      obtain ⟨o, ho1, ho2⟩ := s8.own ⟨some l, .is (.loop rec)⟩ (by simp)
      have ho2' : o = .loop rec := ho2
      subst ho2'
      have hend := run_endLoop (P := c.P) ho1 (by rw [hrec]; simp)
      have hpn : rec.pending = none := by rw [hrec]
      rw [hpn] at hend
      refine ⟨none, _, hend, ?_⟩
      have s9 := (s8.turn (i := 0) (cp' := .is (.loop { rec with state := .exhausted })) (o' := .loop { rec with state := .exhausted }) rfl rfl).dropL 1
      rw [hpn] at s9
      exact hdone s' rfl g' D _ _ (s9.mark D)
    | inr q =>
      simp only [Lr] at s7
      subst hLx
      have s8 : St c E (⟨some l, .is (.loop { rec with state := .done, pending := some (js q) })⟩ :: ⟨some D, .dfr⟩ :: (Lin ++ Lx q g')) a W7 := s7.perm (by
        exact List.perm_middle.trans (List.perm_middle.cons _))
      obtain ⟨o, ho1, ho2⟩ := s8.own ⟨some l, .is (.loop { rec with state := .done, pending := some (js q) })⟩ (by simp)
      have ho2' : o = .loop { rec with state := .done, pending := some (js q) } := ho2
      subst ho2'
      have hend := run_endLoop (P := c.P) ho1 (by simp)
      refine ⟨some (js q), _, hend, ?_⟩
      have s9 := (s8.turn (i := 0) (cp' := .is (.loop { rec with state := .exhausted, pending := some (js q) })) (o' := .loop { rec with state := .exhausted, pending := some (js q) }) rfl rfl).dropL 1
      exact hstop q rfl g' D _ _ (s9.mark D)

theorem range_wp {gt p : Nat} {assign body : Code} {f : FuncId} {lbτ : List VP} {Lin : List Ent} {α σ ε γ : Type} {τ : α → VP} {run : ∀ {σ ε : Type}, (α → σ → Option (σ ⊕ ε)) → σ → Option (σ ⊕ ε)}
    {Ls : σ → γ → List Ent} {Lx : ε → γ → List Ent} {step : α → σ → Option (σ ⊕ ε)} {s0 : σ} {g0 : γ} {r : σ ⊕ ε} (js : ε → Code)
    (hc : c.rd = none) (en : En c.P f) (hg : look E gt = some (.clo f lbτ)) (hI : MeetsI c.P f lbτ Lin τ run) (hr : run step s0 = some r) (hL : L = Lin ++ Ls s0 g0) (hp : Nat.blt p c.n = true)
    (hround : ∀ x s r, step x s = some r → ∀ g (W0' : World) (X' A0' : List Nat) (l D : Nat) (rec : Loop), rec.state = .ready →
      Wp ⟨c.P, c.n, W0', X', A0', some l, []⟩ (Exit.then (BR ⟨c.P, c.n, W0', X', A0', some l, []⟩ l body (RQ ⟨c.P, c.n, W0', X', A0', some l, []⟩ js l D { rec with state := .busy } Ls Lx r)) (fun _ _ _ => False)) assign ((p, τ x) :: E) (⟨some l, .is (.loop rec)⟩ :: ⟨some D, .dfr⟩ :: Ls s g))
    (hdone : ∀ s', r = .inl s' → ∀ g D, To { c with ds := D :: c.ds } Q .normal E (⟨some D, .dfr⟩ :: (Lin ++ Ls s' g)))
    (hstop : ∀ q, r = .inr q → ∀ g D, Wp { c with ds := D :: c.ds } Q (js q) E (⟨some D, .dfr⟩ :: (Lin ++ Lx q g))) :
    Wp c Q (.rangeFunc (.tmp gt) #[p] assign body) E L :=
  range_wpG (run := run) js hc en hg (fun e1 e2 Lx' => hI.go (fun s g => e1 :: e2 :: Ls s g) Lx') hr hL hp hround hdone hstop

/-! ### The end of a function that holds such loops -/

theorem bodyPostM_of {P : Program} {fn : Func} {R : Ending → World → Prop} {a : Act} {W : World} (h : bodyPost P fn R .ret a W) : bodyPostM Fence.wide 9 P fn R .ret a W := by
  obtain ⟨h1, v, h2, h3⟩ := h
  show LeavesInM Fence.wide 9 P fn a.tmps R a.defers .returning W
  rw [h1]
  exact ⟨v, h2, h3⟩

theorem To.endn {P : Program} {fn : Func} {R : Ending → World → Prop} (k : To c (bodyPost P fn R) .ret E L) : To c (bodyPost P fn R) .normal E L := fun a W s => k a W s

/-- no loop has been on this way -/
theorem To.endM {fn : Func} {R : Ending → World → Prop} (k : To c (bodyPost c.P fn R) .ret E L) : To c (bodyPostM Fence.wide 9 c.P fn R) .ret E L := fun a W s => bodyPostM_of (k a W s)

/-- one loop has been on this way -/
theorem To.endD {fn : Func} {R : Ending → World → Prop} {D : Nat} (i : Nat) (hL : L[i]? = some ⟨some D, .dfr⟩) (hds : c.ds = [D]) (k : To { c with ds := [] } (bodyPost c.P fn R) .ret E (L.set i ⟨some D, .is (.deferred none)⟩)) :
    To c (bodyPostM Fence.wide 9 c.P fn R) .ret E L := fun a W s => by
  obtain ⟨o, h1, h2⟩ := s.own _ (List.mem_of_getElem? hL)
  have h2' : o = .deferred (some []) := h2
  subst h2'
  have s2 := s.turn hL (cp' := .is (.deferred none)) (o' := .deferred none) rfl
  have s3 : St { c with ds := [] } E (L.set i ⟨some D, .is (.deferred none)⟩) { a with defers := [] } (W.putObj D (.deferred none)) :=
    { defers := rfl, size := s2.size, env := s2.env, fr := s2.fr, own := s2.own, nodup := s2.nodup, lt := s2.lt, mine := s2.mine, old := s2.old }
  obtain ⟨_, v, h3, h4⟩ := k _ _ s3
  show LeavesInM Fence.wide 9 c.P fn a.tmps R a.defers .returning W
  rw [s.defers, hds]
  exact ⟨by simp, .inl ⟨D, _, rfl, run_takeDeferred h1, v, h3, h4⟩⟩
end

theorem Meets.enterM {P : Program} {f : FuncId} {fn : Func} {code : Code} {n : Nat} {τs : List VP} {ρ : VP} (hf : P.funcs[f]? = some fn) (hb : fn.body = some code) (hn : fn.ntmps = n) (hlen : Nat.ble τs.length n = true)
    (h : ∀ W A, Wp ⟨P, n, W, [], A, none, []⟩ (bodyPostM Fence.wide 9 P fn fun e W' => ∃ v, e = .returned v ∧ Fr [] W W' ∧ ρ.holds A W' v) code (params 0 τs) []) : Meets P f τs ρ := by
  intro A W vs hA hv
  refine (callsIn_wide (n := 9)).1 (callsIn_of_wp_marks hf hb trivial (h W A _ _ ?_))
  have hl := hv.length
  have hle : τs.length ≤ n := Nat.le_of_ble_eq_true hlen
  exact
  { defers := rfl
    size := by simp [hn, hl]; omega
    env := fun t τ hl' => by
      obtain ⟨_, v, h2, h3⟩ := look_params hv 0 t τ hl'
      refine ⟨v, ?_, h3⟩
      have hlt : t < vs.length := (List.getElem?_eq_some_iff.1 h2).1
      rw [Array.getElem?_append_left (by simpa using hlt)]
      simpa using h2
    fr := .refl _ _
    own := by simp
    nodup := by simp [ks]
    lt := by simp [ks]
    mine := by simp [ks]
    old := fun k hk => ⟨hA k hk, by simp [ks]⟩ }

theorem Meets.ofM {P : Program} {f : FuncId} {fn : Func} {code : Code} {n : Nat} {τs : List VP} {ρ : VP} (hf : P.funcs[f]? = some fn) (hb : fn.body = some code) (hn : fn.ntmps = n) (hlen : Nat.ble τs.length n = true)
    (h : ∀ W A, Wp ⟨P, n, W, [], A, none, []⟩ (bodyPostM Fence.wide 9 P fn (Post ⟨P, n, W, [], A, none, []⟩ ρ)) code (params 0 τs) []) : Meets P f τs ρ := Meets.enterM hf hb hn hlen h

theorem MeetsO.ofM {P : Program} {f : FuncId} {fn : Func} {code : Code} {n : Nat} {τs : List VP} {Lin : List Ent} {δ : Type} {ρ : δ → VP} {Lo : δ → List Ent} (hf : P.funcs[f]? = some fn) (hb : fn.body = some code) (hn : fn.ntmps = n) (hlen : Nat.ble τs.length n = true)
    (h : ∀ W A, Wp ⟨P, n, W, ks Lin, A, none, []⟩ (bodyPostM Fence.wide 9 P fn (PostO (ks Lin) A W ρ Lo)) code (params 0 τs) Lin) : MeetsO P f τs Lin ρ Lo := by
  intro A W vs hA hnd hlt hok hv
  refine (callsIn_wide (n := 9)).1 (callsIn_of_wp_marks hf hb trivial (h W A _ _ ?_))
  have hl := hv.length
  have hle : τs.length ≤ n := Nat.le_of_ble_eq_true hlen
  exact
  { defers := rfl
    size := by simp [hn, hl]; omega
    env := fun t τ hl' => by
      obtain ⟨_, v, h2, h3⟩ := look_params hv 0 t τ hl'
      refine ⟨v, ?_, h3⟩
      have hlt : t < vs.length := (List.getElem?_eq_some_iff.1 h2).1
      rw [Array.getElem?_append_left (by simpa using hlt)]
      simpa using h2
    fr := .refl _ _
    own := hok
    nodup := hnd
    lt := hlt
    mine := fun k hk _ => hk
    old := hA }
end Gv

namespace Gv
open Go
set_option linter.unusedVariables false
set_option linter.unusedSimpArgs false

theorem flat_tup2 {τ σ : VP} (h : τ.Flat) (k : σ.Flat) : (VP.tup [τ, σ]).Flat := fun A W A' W' v ⟨vs, h1, h2⟩ => by
  refine ⟨vs, h1, ?_⟩
  generalize vs.toList = l at h2
  cases h2 with
  | cons a r => cases r with
    | cons b r => cases r; exact .cons (h _ _ _ _ _ a) (.cons (k _ _ _ _ _ b) .nil)
section
variable {c : Cx} {E : List (Nat × VP)} {L : List Ent} {ops : Array Oper} {Q : Exit → Act → World → Prop}
variable {d : Option Tmp} {ty : TypeId} {pos : String} {af : Array Edge} {g : Option (Nat × Bool)} {x y : Operand} {t t2 : TypeId}

theorem HR.via {o : Oper} {τ : VP} {E' : List (Nat × VP)} {L' : List Ent} (hf : τ.Flat) (hs : ∀ a W, St c E L a W → St c E' L' a W) (h : HR c E' L' o τ) : HR c E L o τ := fun a W st => by
  have := h a W (hs a W st)
  unfold OpTo at this ⊢
  exact Oper.wp_mono (fun a' W' ⟨v, h1, h2, h3⟩ => ⟨v, h1, h2, hf _ _ _ _ _ h3⟩) this

/-- more is known of a slot -/
theorem St.tell {a : Act} {W : World} (s : St c E L a W) {sl : Nat} {σ τ : VP} (hl : look E sl = some σ) (h : ∀ v, σ.holds (ks L ++ c.A0) W v → τ.holds (ks L ++ c.A0) W v) : St c ((sl, τ) :: E) L a W := by
  refine { s with env := fun t τ' hlk => ?_ }
  simp only [look] at hlk
  by_cases e : Nat.beq sl t = true
  · rw [e] at hlk
    simp only [cond_true, Option.some.injEq] at hlk
    subst hlk
    have := look_beq.1 e
    subst this
    obtain ⟨v, h1, h2⟩ := s.env sl _ hl
    exact ⟨v, h1, h v h2⟩
  · simp only [Bool.not_eq_true] at e
    rw [e] at hlk
    exact s.env t τ' hlk

/-- the variable of entry i is written no more: its block is one that others may look at -/
theorem St.ptrAt {a : Act} {W : World} (s : St c E L a W) {i p : Nat} {α : Type} [Rp α] {z : α} (hL : L[i]? = some ⟨some p, .var z⟩) :
    (VP.ptr z).holds (ks (L.set i ⟨none, .dead⟩) ++ c.A0) W (.pointer (some ⟨p, 0, none⟩)) := by
  obtain ⟨o, hob, cs, T, rfl, hr⟩ := s.own _ (List.mem_of_getElem? hL)
  have hlen : cs.toList.length = Rp.size α := Rp.len hr
  refine ⟨p, 0, cs, T, (0, 0), rfl, s.not_left hL, hob, by simp at hlen; omega, ?_⟩
  rw [List.drop_zero, ← hlen, List.take_length]
  have hsub := ks_set_none_sub (L := L) (i := i) (cp := .dead)
  exact Rp.mono (.drop fun k hm => by
    rcases List.mem_append.1 hm with hm | hm
    · exact List.mem_append.2 (.inl (hsub.subset hm))
    · exact List.mem_append.2 (.inr hm)) hr

/-- the method f bound to what p points at -/
abbrev bnd (f p : Nat) : Value := .func (.func f) #[.pointer (some ⟨p, 0, none⟩)] #[]

theorem r_mkB {f p : Nat} (hx : Look c E L x (.eq (.pointer (some ⟨p, 0, none⟩)))) : HR c E L ⟨d, .makeFunc (.func f) #[x] #[], ty, pos, af, g⟩ (.eq (bnd f p)) := .pure fun a W s => by
  have h := hx a W s
  refine ⟨_, ?_, rfl⟩
  have h' : a.eval x = .pointer (some ⟨p, 0, none⟩) := h
  simp [execOp, Instr.makeFunc, h', bnd]

theorem fn2_bnd {f p : Nat} {α β γ δ : Type} [Rp α] [Rp β] [Rp γ] [Rp δ] {z : δ} {F : α → β → Option γ} {P : Program} (en : En P f) (h : ∀ x y r, F x y = some r → Meets P f [.ptr z, .of x, .of y] (.of r)) {A : List Nat} {W : World}
    (hp : (VP.ptr z).holds A W (.pointer (some ⟨p, 0, none⟩))) : (VP.fn2 P F).holds A W (bnd f p) :=
  ⟨f, _, #[], rfl, en, fun A' W' e hA x y r vx vy hF hv hv2 => by simpa using h x y r hF A' W' [_, vx, vy] hA (.cons (VP.mono _ e hp) (.cons hv (.cons hv2 .nil)))⟩
/-! ### Lending: steps ahead of one operation -/

/-- an own variable -/
theorem HR.lendV {o : Oper} {τ σ : VP} {p : Nat} {α : Type} [Rp α] {z : α} (i sl : Nat) (hl : look E sl = some σ) (hv : ∀ A W v, σ.holds A W v → v = .pointer (some ⟨p, 0, none⟩)) (hL : L[i]? = some ⟨some p, .var z⟩) (hf : τ.Flat)
    (h : HR c ((sl, .ptr z) :: E) (L.set i ⟨none, .dead⟩) o τ) : HR c E L o τ :=
  .via hf (fun a W s => (s.kill i).tell (σ := σ) hl (fun v hh => by rw [hv _ _ _ hh]; exact s.ptrAt hL)) h
/-- .. to a method that is bound to it -/
theorem HR.lendB2 {o : Oper} {τ : VP} {p f : Nat} {α β γ δ : Type} [Rp α] [Rp β] [Rp γ] [Rp δ] {z : δ} {F : α → β → Option γ} (i sl : Nat) (hl : look E sl = some (.eq (bnd f p))) (hL : L[i]? = some ⟨some p, .var z⟩) (en : En c.P f)
    (hF : ∀ x y r, F x y = some r → Meets c.P f [.ptr z, .of x, .of y] (.of r)) (hf : τ.Flat) (h : HR c ((sl, .fn2 c.P F) :: E) (L.set i ⟨none, .dead⟩) o τ) : HR c E L o τ :=
  .via hf (fun a W s => (s.kill i).tell hl (fun v hh => by have hh' : v = bnd f p := hh; rw [hh']; exact fn2_bnd en hF (s.ptrAt hL))) h
/-- its own slices read as lists -/
theorem HR.lendT {o : Oper} {τ : VP} {p cap T : Nat} {key : Option Nat} {β γ : Type} [Rp β] [Rp γ] {b b' : β} {xs : List γ} {os os' : List (Nat × Value)} (l : Lens β (List γ)) (i j q : Nat) (hij : Nat.beq i j = false) (hL : L[i]? = some ⟨some p, .varX b os⟩) (hJ : L[j]? = some ⟨key, .row T xs cap⟩)
    (hq : os[q]? = some (l.off, slv key xs.length cap)) (hb : l.set b xs = b') (hos : delHole os l.off = os') (hf : τ.Flat) (h : HR c E ((L.set j ⟨none, .dead⟩).set i ⟨some p, .varX b' os'⟩) o τ) : HR c E L o τ :=
  .via hf (fun a W s => s.thaw l (fun e => by rw [e, Nat.beq_refl] at hij; cases hij) hL hJ q hq hb hos) h
theorem HR.lendTS {o : Oper} {τ : VP} {p cap T : Nat} {key : Option Nat} {β γ : Type} [Rp β] [Rp γ] {b b' : β} {xs : List γ} {os os' : List (Nat × Value)} (l : Lens β (List γ)) (i j q sl : Nat) (hij : Nat.beq i j = false) (hL : L[i]? = some ⟨some p, .varX b os⟩) (hJ : L[j]? = some ⟨key, .row T xs cap⟩)
    (hq : os[q]? = some (l.off, slv key xs.length cap)) (hb : l.set b xs = b') (hos : delHole os l.off = os') (hsl : look E sl = some (.eq (slv key xs.length cap))) (hf : τ.Flat) (h : HR c ((sl, .of xs) :: E) ((L.set j ⟨none, .dead⟩).set i ⟨some p, .varX b' os'⟩) o τ) : HR c E L o τ :=
  .via hf (fun a W s => s.thawS l (fun e => by rw [e, Nat.beq_refl] at hij; cases hij) hL hJ q hq hb hos hsl) h
theorem HR.lend0 {o : Oper} {τ : VP} {p : Nat} {β : Type} [Rp β] {b : β} (i : Nat) (hL : L[i]? = some ⟨some p, .varX b []⟩) (hf : τ.Flat) (h : HR c E (L.set i ⟨some p, .var b⟩) o τ) : HR c E L o τ :=
  .via hf (fun a W s => s.retell (cp' := .var b) hL (fun o ⟨cs, T, h1, h2⟩ => ⟨cs, T, h1, h2.1⟩) id) h

/-! ### Pointers: nil or not, boxed -/

theorem run_ptr_eq {P : Program} {T : TypeId} {e : TypeId} (h : P.underlying T = some (.pointer e)) (p : Addr) (W : World) (n : Nat) : (Op.equalIn (n + 1) T (.pointer (some p)) (.pointer none)).run P W = .ok false W := by
  simp [Op.equalIn, run_underlying h]
/-- an own pointer is not nil -/
theorem r_pnil {p : Addr} {e : TypeId} (hu : c.P.underlying t = some (.pointer e)) (hx : Look c E L x (.eq (.pointer (some p)))) : HR c E L ⟨d, .binOp .eql t x (.const (.pointer none)) t2, ty, pos, af, g⟩ (.of false) := .pure fun a W s => by
  have hn : a.eval (.const (.pointer none)) = .pointer none := rfl
  have h1 : a.eval x = .pointer (some p) := hx a W s
  refine ⟨.bool false, ?_, of_bool.2 rfl⟩
  simp only [execOp, eqGuard, binOp, h1, hn, Op.equal, Op.maxDepth]
  simp [run_ptr_eq hu p W 9999]
theorem run_nil_eq {P : Program} {T : TypeId} {e : TypeId} (h : P.underlying T = some (.pointer e)) (W : World) (n : Nat) : (Op.equalIn (n + 1) T (.pointer none) (.pointer none)).run P W = .ok true W := by
  simp [Op.equalIn, run_underlying h]
theorem r_nilnil {e : TypeId} (hu : c.P.underlying t = some (.pointer e)) (hx : Look c E L x (.eq (.pointer none))) : HR c E L ⟨d, .binOp .eql t x (.const (.pointer none)) t2, ty, pos, af, g⟩ (.of true) := .pure fun a W s => by
  have hn : a.eval (.const (.pointer none)) = .pointer none := rfl
  have h1 : a.eval x = .pointer none := hx a W s
  refine ⟨.bool true, ?_, of_bool.2 rfl⟩
  simp only [execOp, eqGuard, binOp, h1, hn, Op.equal, Op.maxDepth]
  simp [run_nil_eq hu W 9999]
theorem r_pnilp {γ : Type} [Rp γ] {r : γ} {e : TypeId} (hu : c.P.underlying t = some (.pointer e)) (hx : Look c E L x (.ptr r)) : HR c E L ⟨d, .binOp .eql t x (.const (.pointer none)) t2, ty, pos, af, g⟩ (.of false) := .pure fun a W s => by
  have hn : a.eval (.const (.pointer none)) = .pointer none := rfl
  obtain ⟨b, off, cur, T, fz, h1, _⟩ := hx a W s
  refine ⟨.bool false, ?_, of_bool.2 rfl⟩
  simp only [execOp, eqGuard, binOp, h1, hn, Op.equal, Op.maxDepth]
  simp [run_ptr_eq hu _ W 9999]
theorem Wp.bring {code : Code} (i : Nat) {e : Ent} (h : L[i]? = Option.some e) (k : Wp c Q code E (e :: L.eraseIdx i)) : Wp c Q code E L := fun a W s => k a W (s.bring h)
theorem Wp.clr {z : Code} {p : Nat} {β γ : Type} [Rp β] [Rp γ] {b b' : β} {os : List (Nat × Value)} {u : Value} (l : Lens β (List γ)) (i q : Nat) (hL : L[i]? = Option.some ⟨Option.some p, .varX b os⟩) (hq : os[q]? = Option.some (l.off, u)) (hb : l.set b [] = b')
    (k : Wp c Q z E (L.set i ⟨Option.some p, .varX b' os⟩)) : Wp c Q z E L := fun a W s =>
  k a W (s.again (cp' := .varX b' os) hL (fun A W o ⟨cs, T, h1, h2⟩ => ⟨cs, T, h1, hb ▸ repH_clr l h2 (List.mem_of_getElem? hq)⟩) id)
theorem one_eqp {p : Option Addr} : ∀ A W v, (VP.eq (.pointer p)).holds A W v → v.oneCell' = true := fun A W v h => by
  have h' : v = .pointer p := h
  rw [h']; rfl

/-! ### Operations that leave the own blocks as they are, though they may be at work in them -/

def HS (c : Cx) (E : List (Nat × VP)) (L : List Ent) (o : Oper) (τ : VP) : Prop :=
  ∀ a W, St c E L a W → OpTo c.P o a W fun v W' => St c E L a W' ∧ τ.holds (ks L ++ c.A0) W' v

theorem Sq.vS {o : Oper} {rest : List Oper} {d : Nat} {τ : VP} (h : HS c E L o τ) (hg : o.guard = none) (hd : o.dst = some d) (hn : Nat.blt d c.n = true)
    (k : Sq c ops Q rest ((d, τ) :: E) L) : Sq c ops Q (o :: rest) E L := fun a W s =>
  wpList_op hg (h a W s) fun v W' ⟨f, hv⟩ => by
    rw [hd]
    exact k _ _ (f.put (by simpa using hn) hv)
/-- the entries at these places -/
def Pick (L : List Ent) : List Nat → List Ent → Prop
  | [], [] => True
  | i :: is, e :: es => L[i]? = some e ∧ Pick L is es
  | _, _ => False
theorem eraseIdx_get {L : List Ent} {i j : Nat} (h : i ≠ j) : (L.eraseIdx i)[if j < i then j else j - 1]? = L[j]? := by
  rw [List.getElem?_eraseIdx]
  by_cases h1 : j < i
  · simp [h1]
  · have : ¬ (j - 1 < i) := by omega
    simp only [h1, if_false, this]
    congr 1; omega
theorem Pick.shift {L : List Ent} {i : Nat} : ∀ {is : List Nat} {es : List Ent}, Pick L is es → i ∉ is → Pick (L.eraseIdx i) (is.map fun j => if j < i then j else j - 1) es
  | [], [], _, _ => trivial
  | j :: is, e :: es, ⟨h1, h2⟩, hn => by
    simp only [List.mem_cons, not_or] at hn
    exact ⟨by rw [eraseIdx_get hn.1]; exact h1, Pick.shift h2 hn.2⟩
theorem nodup_shift {i : Nat} : ∀ {is : List Nat}, is.Nodup → i ∉ is → (is.map fun j => if j < i then j else j - 1).Nodup
  | [], _, _ => by simp
  | j :: is, h, hn => by
    simp only [List.mem_cons, not_or] at hn
    obtain ⟨h1, h2⟩ := List.nodup_cons.1 h
    refine List.nodup_cons.2 ⟨fun hm => ?_, nodup_shift h2 hn.2⟩
    obtain ⟨k, hk, he⟩ := List.mem_map.1 hm
    have hki : k ≠ i := fun e => hn.2 (e ▸ hk)
    have hkj : k ≠ j := fun e => h1 (e ▸ hk)
    have hji : j ≠ i := fun e => hn.1 e.symm
    have he' : (if k < i then k else k - 1) = (if j < i then j else j - 1) := he
    split at he' <;> split at he' <;> omega
theorem Pick.perm : ∀ {is : List Nat} {es L : List Ent}, Pick L is es → is.Nodup → ∃ R, L.Perm (es ++ R)
  | [], [], L, _, _ => ⟨L, List.Perm.refl _⟩
  | i :: is, e :: es, L, ⟨h1, h2⟩, hn => by
    obtain ⟨hn1, hn2⟩ := List.nodup_cons.1 hn
    obtain ⟨R, hR⟩ := (h2.shift hn1).perm (nodup_shift hn2 hn1)
    exact ⟨R, (bring_perm h1).trans (hR.cons e)⟩
  termination_by is => is.length
  decreasing_by simp

theorem HS.call {f : FuncId} {xs : List Operand} {ats : Array TypeId} {τs : List VP} {Lin : List Ent} {ρ : Unit → VP} {Lo : Unit → List Ent} (is : List Nat) (en : En c.P f) (h : MeetsO c.P f τs Lin ρ Lo)
    (hx : Looks c E L xs τs) (hn : decide is.Nodup = true) (hp : Pick L is Lin) (hl : Lo () = Lin) : HS c E L ⟨d, .call ⟨.value (.func f), xs.toArray, ats⟩, ty, pos, af, g⟩ (ρ ()) := fun a W s => by
  obtain ⟨R, hR⟩ := hp.perm (of_decide_eq_true hn)
  have s' := s.perm hR
  have hkp := ks_perm hR
  have hAs : ∀ k, k ∈ ks L ++ c.A0 ↔ k ∈ ks (Lin ++ R) ++ c.A0 := fun k => by
    simp only [List.mem_append]; rw [hkp.mem_iff]
  have hh : HoldsAll (ks (Lin ++ R) ++ c.A0) W τs (xs.map a.eval) := (hx.holdsO s).mono (.drop fun k hm => (hAs k).2 hm)
  have ho := opto_callO (d := d) (ty := ty) (pos := pos) (af := af) (g := g) (ats := ats) en h s' hh
  unfold OpTo at ho ⊢
  refine Oper.wp_mono (fun a' W' ⟨v, h1, dd, h2, h3⟩ => ⟨v, h1, ?_, ?_⟩) ho
  · cases dd; rw [hl] at h2; exact h2.perm hR.symm
  · cases dd
    rw [hl] at h3
    exact VP.mono _ (.drop fun k hm => (hAs k).1 hm) h3

theorem Pick.set {L : List Ent} {i j : Nat} {x y e1 e2 : Ent} (hij : i ≠ j) (hi : L[i]? = some e1) (hj : L[j]? = some e2) : ∃ R, L.Perm (e1 :: e2 :: R) ∧ ((L.set i x).set j y).Perm (x :: y :: R) := by
  have hpi : Pick L [i, j] [e1, e2] := ⟨hi, hj, trivial⟩
  have hle : ∀ M : List Ent, ∀ u v : Ent, M[i]? = some u → M[j]? = some v → M.Perm (u :: v :: (M.eraseIdx i).eraseIdx (if j < i then j else j - 1)) := fun M u v h1 h2 =>
    (bring_perm h1).trans ((bring_perm (by rw [eraseIdx_get hij]; exact h2)).cons u)
  refine ⟨_, hle L e1 e2 hi hj, ?_⟩
  have hi' := (List.getElem?_eq_some_iff.1 hi).1
  have hj' := (List.getElem?_eq_some_iff.1 hj).1
  have h1 := hle ((L.set i x).set j y) x y (by rw [List.getElem?_set_ne (Ne.symm hij), List.getElem?_set_self hi']) (by rw [List.getElem?_set_self (by simpa using hj')])
  have h2 : ((L.set i x).set j y).eraseIdx i = (L.eraseIdx i).set (if j < i then j else j - 1) y := by
    apply List.ext_getElem?
    intro k
    simp only [List.getElem?_eraseIdx, List.getElem?_set, List.length_set, List.length_eraseIdx, hi', if_true]
    by_cases hk : k < i <;> by_cases hji : j < i <;> simp only [hk, hji, if_true, if_false] <;> (repeat' split) <;> first | rfl | omega | skip
  rw [h2, List.eraseIdx_set_eq] at h1
  exact h1

/-- two own blocks go in, one comes out; the other is gone -/
theorem Sq.callO2 {rest : List Oper} {dd : Nat} {f : FuncId} {xs : List Operand} {ats : Array TypeId} {τs : List VP} {e1 e2 : Ent} {δ : Type} {ρ : δ → VP} {Lo : δ → List Ent} (lo : δ → Ent) (i j : Nat) (en : En c.P f) (h : MeetsO c.P f τs [e1, e2] ρ Lo)
    (hx : Looks c E L xs τs) (hij : Nat.beq i j = false) (hi : L[i]? = some e1) (hj : L[j]? = some e2) (hlo : ∀ q, Lo q = [lo q]) (hn : Nat.blt dd c.n = true) (k : ∀ q, Sq c ops Q rest ((dd, ρ q) :: E) ((L.set i (lo q)).set j ⟨none, .dead⟩)) :
    Sq c ops Q (⟨some dd, .call ⟨.value (.func f), xs.toArray, ats⟩, ty, pos, af, none⟩ :: rest) E L := fun a W s => by
  have hne : i ≠ j := fun e => by rw [e, Nat.beq_refl] at hij; cases hij
  obtain ⟨R, hR, _⟩ := Pick.set (x := e1) (y := e2) hne hi hj
  have s' := s.perm hR
  have hkp := ks_perm hR
  have hAs : ∀ k, k ∈ ks L ++ c.A0 ↔ k ∈ ks ([e1, e2] ++ R) ++ c.A0 := fun k => by
    simp only [List.mem_append]; rw [hkp.mem_iff]; simp [ks_append]
  have hh : HoldsAll (ks ([e1, e2] ++ R) ++ c.A0) W τs (xs.map a.eval) := (hx.holdsO s).mono (.drop fun k hm => (hAs k).2 hm)
  refine wpList_op rfl (opto_callO (Lin := [e1, e2]) en h s' hh) fun v W' ⟨q, h2, h3⟩ => ?_
  refine k q _ _ ?_
  obtain ⟨R', hR1, hR2⟩ := Pick.set (x := lo q) (y := ⟨none, .dead⟩) hne hi hj
  have hRR : (e1 :: e2 :: R).Perm (e1 :: e2 :: R') := hR.symm.trans hR1
  have hRR' : R.Perm R' := (hRR.cons_inv).cons_inv
  rw [hlo] at h2 h3
  have h4 : St c E (lo q :: ⟨none, .dead⟩ :: R) a W' := { h2 with
    own := fun e he => by
      simp only [List.mem_cons] at he
      rcases he with rfl | rfl | he
      · exact h2.own _ (by simp)
      · trivial
      · exact h2.own _ (by simp [he]) }
  have h5 : St c E ((L.set i (lo q)).set j ⟨none, .dead⟩) a W' := h4.perm (((hRR'.cons _).cons _).trans hR2.symm)
  have h6 : (ks ((L.set i (lo q)).set j ⟨none, .dead⟩)).Perm (ks (lo q :: R)) := by
    have := ks_perm (hR2.trans ((hRR'.symm.cons _).cons _))
    simpa [ks] using this
  refine h5.put (by simpa using hn) (VP.mono _ (.drop fun k hm => ?_) h3)
  rcases List.mem_append.1 hm with hm | hm
  · exact List.mem_append.2 (.inl (h6.mem_iff.1 hm))
  · exact List.mem_append.2 (.inr hm)

theorem gss {L : List Ent} {i : Nat} {x e : Ent} (h : L[i]? = some x) : (L.set i e)[i]? = some e := by
  rw [List.getElem?_set_self (List.getElem?_eq_some_iff.1 h).1]
theorem gso {L : List Ent} {i j : Nat} {r : Option Ent} {e : Ent} (hn : Nat.beq j i = false) (h : L[i]? = r) : (L.set j e)[i]? = r := by
  rw [List.getElem?_set_ne (fun e => by rw [e, Nat.beq_refl] at hn; cases hn)]; exact h

/-! ### slices.Delete -/

theorem To.again {z : Exit} {key : Option Nat} {cp : CP} (cp' : CP) (i : Nat) (hL : L[i]? = some ⟨key, cp⟩) (h : ∀ A W o, cp.holds A W o → cp'.holds A W o) (hn : cp.nilOk → cp'.nilOk) (k : To c Q z E (L.set i ⟨key, cp'⟩)) : To c Q z E L := fun a W s =>
  k a W (s.again hL h hn)
end

end Gv

namespace Gv
open Go
set_option linter.unusedVariables false
set_option linter.unusedSimpArgs false

/-! ### Programs that make new blocks -/

/-- what must hold of the result -/
abbrev Wm (α : Type) := (α → Prop) → Prop
def Wm.of {α : Type} (o : Option α) : Wm α := fun Q => ∃ r, o = some r ∧ Q r
def Wm.bind {α β : Type} (m : Wm α) (k : α → Wm β) : Wm β := fun Q => m fun r => k r Q
def Wm.ret {α : Type} (x : α) : Wm α := fun Q => Q x
/-! ### Pools -/

abbrev Pool (κ : Type) := List (Nat × κ)
/-- a pointer into a pool; none: nil -/
abbrev Ref := Option Nat
instance instRpRef : Rp Ref := .scalar (fun x => Value.pointer (x.map fun p => ⟨p, 0, none⟩)) fun _ => rfl
theorem of_ref {A W v} {x : Ref} : (VP.of x).holds A W v ↔ v = .pointer (x.map fun p => ⟨p, 0, none⟩) :=
  ⟨fun h => toList_one h.1 h.2, fun h => by subst h; exact ⟨rfl, rfl⟩⟩

instance : Zc Ref := ⟨[.pointer none], fun _ _ => rfl⟩
/-- a new block: its number, and the pool with it -/
def Wm.mk {κ : Type} (hp : Pool κ) (k : κ) : Wm (Nat × Pool κ) := fun Q => ∀ a : Nat × Pool κ, a.1 ∉ hp.map (·.1) ∧ a.2 = (a.1, k) :: hp → Q a
/-- how contents lie in blocks -/
class Cl (κ : Type) where
  ents : Nat → κ → List Ent
  root : ∀ p k, ∃ e ∈ ents p k, e.key = some p

def Ents {κ : Type} [Cl κ] : Pool κ → List Ent
  | [] => []
  | (p, k) :: r => Cl.ents p k ++ Ents r
def pat {κ : Type} : Pool κ → Nat → Option κ
  | [], _ => none
  | (q, k) :: r, p => if q = p then some k else pat r p
def pup {κ : Type} : Pool κ → Nat → κ → Pool κ
  | [], _, _ => []
  | (q, k) :: r, p, k' => if q = p then (q, k') :: r else (q, k) :: pup r p k'
theorem pool_open {κ : Type} [Cl κ] : ∀ {hp : Pool κ} {p : Nat} {k : κ}, pat hp p = some k → ∃ R, (Ents hp).Perm (Cl.ents p k ++ R) ∧ ∀ k', (Ents (pup hp p k')).Perm (Cl.ents p k' ++ R)
  | [], _, _, h => by simp [pat] at h
  | (q, k0) :: r, p, k, h => by
    simp only [pat] at h
    split at h
    · rename_i e
      subst e
      simp only [Option.some.injEq] at h
      subst h
      exact ⟨Ents r, .refl _, fun k' => by simp only [pup, if_pos]; exact .refl _⟩
    · rename_i e
      obtain ⟨R, h1, h2⟩ := pool_open h
      refine ⟨Cl.ents q k0 ++ R, ?_, fun k' => ?_⟩
      · exact (h1.append_left (Cl.ents q k0)).trans (by rw [← List.append_assoc, ← List.append_assoc]; exact List.perm_append_comm.append_right R)
      · simp only [pup, if_neg e]
        exact ((h2 k').append_left (Cl.ents q k0)).trans (by rw [← List.append_assoc, ← List.append_assoc]; exact List.perm_append_comm.append_right R)

section
variable {c : Cx} {E : List (Nat × VP)} {L : List Ent} {ops : Array Oper} {Q : Exit → Act → World → Prop}
variable {d : Option Tmp} {ty : TypeId} {pos : String} {af : Array Edge} {g : Option (Nat × Bool)} {x y : Operand} {t t2 : TypeId}

theorem mem_perm {L L' : List Ent} (p : L.Perm L') {A : List Nat} (k : Nat) : k ∈ ks L ++ A ↔ k ∈ ks L' ++ A := by
  simp only [List.mem_append]; rw [(ks_perm p).mem_iff]
theorem perm_ext {L L' : List Ent} (p : L.Perm L') {A : List Nat} {W : World} : Ext (ks L ++ A) W (ks L' ++ A) W := .drop fun k hm => (mem_perm p k).2 hm

theorem Look.perm {L' : List Ent} {x : Operand} {τ : VP} (p : L.Perm L') (h : Look c E L x τ) : Look c E L' x τ := fun a W s =>
  τ.mono (perm_ext p) (h a W (s.perm p.symm))
theorem HR.perm {L' : List Ent} {o : Oper} {τ : VP} (p : L.Perm L') (h : HR c E L o τ) : HR c E L' o τ := fun a W s => by
  have := h a W (s.perm p.symm)
  unfold OpTo at this ⊢
  exact Oper.wp_mono (fun a' W' ⟨v, h1, h2, h3⟩ => ⟨v, h1, h2, τ.mono (perm_ext p) h3⟩) this
theorem Sq.perm {l : List Oper} {L' : List Ent} (p : L.Perm L') (h : Sq c ops Q l E L) : Sq c ops Q l E L' := fun a W s => h a W (s.perm p.symm)

/-- a pointer that is not nil -/
theorem look_ref {x : Operand} {r : Ref} {p : Nat} (hx : Look c E L x (.of r)) (h : r = some p) : Look c E L x (.eq (.pointer (some ⟨p, 0, none⟩))) := fun a W s => by
  subst h
  exact of_ref.1 (hx a W s)
variable {κ : Type} [Cl κ] {hp : Pool κ} {loc : List Ent}

theorem pmem {p n : Nat} {k : κ} {e : Ent} (hL : L.drop n = Ents hp) (h : pat hp p = some k) (hk : Cl.ents p k = [e]) : e ∈ L := by
  obtain ⟨R, h1, _⟩ := pool_open h
  rw [hk] at h1
  have : e ∈ L.drop n := by rw [hL]; exact h1.mem_iff.2 (by simp)
  exact List.mem_of_mem_drop this
theorem dmem {L' : List Ent} {e : Ent} (hL : ∀ (i : Nat) (e : Ent), L[i]? = some e → L'[i]? = some e) (h : e ∈ L) : e ∈ L' := by
  obtain ⟨i, hi⟩ := List.mem_iff_getElem?.1 h
  exact List.mem_of_getElem? (hL i e hi)

theorem r_loadM {x : Operand} {t : TypeId} {p o : Nat} {β γ : Type} [Rp β] [Rp γ] {b : β} (l : Lens β γ) {r : γ} (tt : Ty c.P t γ) (hx : Look c E L x (.eq (.pointer (some ⟨p, o, none⟩))))
    (hm : (⟨some p, .var b⟩ : Ent) ∈ L) (ho : o = l.off) (hr : l.get b = r) : HR c E L ⟨d, .load t x, ty, pos, af, g⟩ (.of r) := by
  obtain ⟨i, hi⟩ := List.mem_iff_getElem?.1 hm
  exact r_load (i := i) l tt hx hi ho hr

/-! ### Calls with a pool -/

/-! ### Tests of pointers -/

theorem run_eq_refnil {P : Program} {e : TypeId} (W : World) (n : Nat) {t : TypeId} (a : Option Addr) (h : P.underlying t = some (.pointer e)) : (Op.equalIn (n + 1) t (.pointer a) (.pointer none)).run P W = .ok a.isNone W := by
  cases a <;> simp [Op.equalIn, run_underlying h]
theorem r_refnil {r : Ref} {e : TypeId} (hu : c.P.underlying t = some (.pointer e)) (hx : Look c E L x (.of r)) : HR c E L ⟨d, .binOp .eql t x (.const (.pointer none)) t2, ty, pos, af, g⟩ (.of r.isNone) := .pure fun a W s => by
  have h1 := of_ref.1 (hx a W s)
  refine ⟨.bool r.isNone, ?_, of_bool.2 rfl⟩
  have hn : a.eval (.const (.pointer none)) = .pointer none := rfl
  simp only [execOp, eqGuard, binOp, h1, hn, Op.equal, Op.maxDepth]
  have := run_eq_refnil (P := c.P) W 9999 (r.map fun p => ⟨p, 0, none⟩) hu
  simp only [Option.isNone_map] at this
  simp [this]
theorem r_refnnil {r : Ref} {e : TypeId} (hu : c.P.underlying t = some (.pointer e)) (hx : Look c E L x (.of r)) : HR c E L ⟨d, .binOp .neq t x (.const (.pointer none)) t2, ty, pos, af, g⟩ (.of r.isSome) := .pure fun a W s => by
  have h1 := of_ref.1 (hx a W s)
  refine ⟨.bool r.isSome, ?_, of_bool.2 rfl⟩
  have hn : a.eval (.const (.pointer none)) = .pointer none := rfl
  simp only [execOp, eqGuard, binOp, h1, hn, Op.equal, Op.maxDepth]
  have := run_eq_refnil (P := c.P) W 9999 (r.map fun p => ⟨p, 0, none⟩) hu
  simp only [Option.isNone_map] at this
  simp [this]
end
/-! ### Ways and loops with such programs -/

section
variable {c : Cx} {E : List (Nat × VP)} {L : List Ent} {ops : Array Oper} {Q : Exit → Act → World → Prop}

theorem Wm.of_bind {α β : Type} {o : Option α} {k : α → Wm β} {R : β → Prop} (h : Wm.bind (Wm.of o) k R) : ∃ r, o = some r ∧ k r R := h

/-- where a round ends -/
def LQW {σ ε γ δ : Type} (c : Cx) (E : σ → γ → List (Nat × VP)) (L : σ → γ → List Ent) (xs : ε → Exit) (Ex : ε → δ → List (Nat × VP)) (Lx : ε → δ → List Ent) (R : σ ⊕ ε → Prop) : Exit → Act → World → Prop := fun x a W =>
  (∃ s, R (.inl s) ∧ x = .normal ∧ ∃ g, St c (E s g) (L s g) a W) ∨ ∃ e, R (.inr e) ∧ x ≠ .normal ∧ x = xs e ∧ ∃ g, St c (Ex e g) (Lx e g) a W

theorem wcond_t {α : Type} {b : Bool} {m n : Wm α} {R : α → Prop} (hb : b = true) (h : cond b m n R) : m R := by subst hb; exact h
theorem wcond_f {α : Type} {b : Bool} {m n : Wm α} {R : α → Prop} (hb : b = false) (h : cond b m n R) : n R := by subst hb; exact h

end
end Gv

namespace Gv
open Go
set_option linter.unusedVariables false
set_option linter.unusedSimpArgs false

/-- a map as data; none: nil -/
structure MRef where
  p : Option Nat
  deriving DecidableEq, Inhabited
instance instRpMRef : Rp MRef := .scalar (fun x => Value.map x.p) fun _ => rfl
instance : Zc MRef := ⟨[.map none], fun _ _ => rfl⟩
/-! ### What a map holds -/

inductive Kvs {α β : Type} [Rp α] [Rp β] (A : List Nat) (W : World) : List MapEntry → List (α × β) → Prop
  | nil : Kvs A W [] []
  | cons {e k v es r} : (VP.of k).holds A W e.key → (VP.of v).holds A W e.val → Kvs A W es r → Kvs A W (e :: es) ((k, v) :: r)

theorem Kvs.mono {α β : Type} [Rp α] [Rp β] {A W A' W'} (h : Ext A W A' W') : ∀ {es : List MapEntry} {kv : List (α × β)}, Kvs A W es kv → Kvs A' W' es kv
  | _, _, .nil => .nil
  | _, _, .cons h1 h2 r => .cons (VP.mono _ h h1) (VP.mono _ h h2) (r.mono h)

def CP.map {α β : Type} [Rp α] [Rp β] (kv : List (α × β)) : CP where
  holds A W o := ∃ es clock, o = .map es clock ∧ Kvs A W es.toList kv ∧ (∀ x ∈ es.toList, x.born < clock) ∧ (es.toList.map MapEntry.born).Nodup
  nilOk := False
  mono e h := let ⟨es, clock, h1, h2, h3⟩ := h; ⟨es, clock, h1, h2.mono e, h3⟩

/-! ### Keys may be asked for -/

/-- a key of this kind can be hashed, at n levels -/
def Ck (P : Program) (t : TypeId) (α : Type) [Rp α] (n : Nat) : Prop := ∀ b d A W u (x : α), n ≤ d → (VP.of x).holds A W u → (Instr.checkKey b d t u).run P W = .ok () W

/-- the fields of a struct that is a key -/
inductive Cks (P : Program) (β : Type) [Rp β] (k : Nat) : List Field → Prop
  | nil : Cks P β k []
  | cons {γ : Type} [Rp γ] {f r} (l : Lens β γ) : l.off = f.offset → Ty P f.type γ → Ck P f.type γ k → Cks P β k r → Cks P β k (f :: r)

/-! ### Finding a key -/

/-- keys of type t: how they are compared and hashed -/
structure Kt (P : Program) (t : TypeId) (α : Type) [Rp α] [DecidableEq α] : Prop where
  check : ∀ b A W u (x : α), (VP.of x).holds A W u → (Instr.checkKey b 10000 t u).run P W = .ok () W
  same : ∀ A W u v (x y : α), (VP.of x).holds A W u → (VP.of y).holds A W v → (Op.equal t u v).run P W = .ok (decide (x = y)) W
  now : ∃ D, P.underlying t = some D ∧ ∀ A W u v (x y : α), (VP.of x).holds A W u → (VP.of y).holds A W v → Instr.sameNow D u v = none ∨ Instr.sameNow D u v = some (decide (x = y))

theorem Kvs.length {α β : Type} [Rp α] [Rp β] {A W} : ∀ {es : List MapEntry} {kv : List (α × β)}, Kvs A W es kv → es.length = kv.length
  | _, _, .nil => rfl
  | _, _, .cons _ _ r => by simp [r.length]

/-! ### Operations on maps -/

section
variable {c : Cx} {E : List (Nat × VP)} {L : List Ent} {ops : Array Oper} {Q : Exit → Act → World → Prop}
variable {d : Option Tmp} {ty : TypeId} {pos : String} {af : Array Edge} {g : Option (Nat × Bool)} {x y z : Operand} {t t2 : TypeId}
variable {κ : Type} [Cl κ] {hp : Pool κ} {loc : List Ent}

end

end Gv

namespace Gv
open Go
set_option linter.unusedVariables false
set_option linter.unusedSimpArgs false

/-- the method of this name that the dynamic type t has is the function f, which takes the value itself -/
structure Mt (P : Program) (t : TypeId) (name : String) (f : FuncId) : Prop where
  run : ∀ v W args, (callMethod (.iface t v) name args).run P W = .ok (.enter f (#[v] ++ args)) W

theorem Mt.of {P : Program} {t : TypeId} {name : String} {f : FuncId} {i : TypeInfo} {D : TypeDesc} {m : Method} (hi : P.info? t = some i) (hm : i.methods.find? (fun x => x.name == name) = some m) (hp : m.path = #[]) (hf : m.func = some (f, false)) (hD : P.underlying t = some D)
    (hn : (match (motive := TypeDesc → Bool) D with | .pointer _ => false | _ => true) = true) (en : En P f) : Mt P t name f where
  run v W args := by
    have hcf : ∀ args, (callFunc f args).run P W = .ok (.enter f args) W := fun args => en.run ..
    have hm2 : ∀ n, (method (n + 1) t v name).run P W = .ok (f, v) W := fun n => by
      simp only [method, Sem.run_bind, typeInfo, run_program, Result.andThen_ok, hi, Sem.run_pure, hm, hp, hf, follow, receiverAt, run_underlying hD]
      cases D <;> simp at hn <;> simp [Place.get]
    obtain ⟨n, hn⟩ : ∃ n, P.types.size + Made.depth = n + 1 := ⟨P.types.size + Made.depth - 1, by simp [Made.depth]⟩
    simp only [callMethod, Sem.run_bind, run_program, Result.andThen_ok, hn, hm2, hcf]

theorem MeetsO.map {P : Program} {f : FuncId} {τs : List VP} {Lin : List Ent} {δ δ' : Type} {ρ : δ → VP} {Lo : δ → List Ent} {ρ' : δ' → VP} {Lo' : δ' → List Ent} (F : δ → δ') (hr : ∀ d, ρ' (F d) = ρ d) (hl : ∀ d, Lo' (F d) = Lo d) (h : MeetsO P f τs Lin ρ Lo) : MeetsO P f τs Lin ρ' Lo' :=
  fun A W vs h1 h2 h3 h4 h5 => (h A W vs h1 h2 h3 h4 h5).mono fun e W' ⟨v, d, q1, q2, q3, q4, q5, q6⟩ => ⟨v, F d, q1, q2, by rw [hl]; exact q3, by rw [hl]; exact q4, by rw [hl]; exact q5, by rw [hl, hr]; exact q6⟩

/-- a value of an interface, called by a method's name: it does what MeetsO says of a function -/
structure MeetsV (P : Program) (name : String) (τ : VP) (τs : List VP) (Lin : List Ent) {δ : Type} (ρ : δ → VP) (Lo : δ → List Ent) : Prop where
  go : ∀ (A : List Nat) (W : World) (u : Value) (vs : List Value), (∀ k ∈ A, k < W.heap.size ∧ k ∉ ks Lin) → (ks Lin).Nodup → (∀ k ∈ ks Lin, k < W.heap.size) → (∀ e ∈ Lin, e.ok (ks Lin ++ A) W) → HoldsAll (ks Lin ++ A) W (τ :: τs) (u :: vs) →
    ∃ f v, (∀ args, (callMethod u name args).run P W = .ok (.enter f (#[v] ++ args)) W) ∧ Calls P f (v :: vs).toArray W (PostO (ks Lin) A W ρ Lo)

theorem MeetsV.of {P : Program} {name : String} {t : TypeId} {f : FuncId} {τ σ : VP} {τs : List VP} {Lin : List Ent} {δ : Type} {ρ : δ → VP} {Lo : δ → List Ent} (mt : Mt P t name f) (hτ : ∀ A W u, τ.holds A W u → ∃ v, u = .iface t v ∧ σ.holds A W v)
    (h : MeetsO P f (σ :: τs) Lin ρ Lo) : MeetsV P name τ τs Lin ρ Lo where
  go A W u vs h1 h2 h3 h4 h5 := by
    cases h5 with
    | cons h6 h7 =>
      obtain ⟨v, rfl, h8⟩ := hτ _ _ _ h6
      exact ⟨f, v, fun args => mt.run v W args, h A W (v :: vs) h1 h2 h3 h4 (.cons h8 h7)⟩

section
variable {c : Cx} {E : List (Nat × VP)} {L : List Ent} {ops : Array Oper} {Q : Exit → Act → World → Prop}
variable {d : Option Tmp} {ty : TypeId} {pos : String} {af : Array Edge} {g : Option (Nat × Bool)} {x y z : Operand} {t t2 : TypeId}

variable {κ : Type} [Cl κ] {hp : Pool κ}
end
end Gv

namespace Gv
open Go
set_option linter.unusedVariables false
set_option linter.unusedSimpArgs false

/-- the value u is a yield: called with x it turns s to some s' and says 'go on', or leaves with some q and says 'no more' -/
def YldW (P : Program) (u : Value) {α σ ε γ : Type} (τ : α → VP) (Ls : σ → γ → List Ent) (Lx : ε → γ → List Ent) (step : α → σ → Wm (σ ⊕ ε)) (Rg : List Nat → World → Prop) : Prop :=
  ∃ l, u = .func (.yield l) #[] #[] ∧ ∀ x s R, step x s R → ∀ g A W v, Rg (ks (Ls s g) ++ A) W → Lent A W (Ls s g) → (τ x).holds (ks (Ls s g) ++ A) W v →
    YieldAt Fence.wide 8 P l #[v] W (fun e W' => (∃ s', R (.inl s') ∧ PostO (ks (Ls s g)) A W (fun _ : γ => VP.of true) (fun g => Ls s' g) e W') ∨ ∃ q, R (.inr q) ∧ PostO (ks (Ls s g)) A W (fun _ : γ => VP.of false) (fun g => Lx q g) e W')

/-- the function f is an iterator: called with a yield it does what 'run' says; it may look at the caller's pool -/
structure MeetsJ (P : Program) (f : FuncId) (τs : List VP) {κ : Type} [Cl κ] {α : Type} (τ : α → VP) (run : ∀ {σ ε : Type}, (σ → Pool κ) → (α → σ → Wm (σ ⊕ ε)) → σ → Wm (σ ⊕ ε)) : Prop where
  go : ∀ {σ ε γ : Type} (Ls : σ → γ → List Ent) (Lx : ε → γ → List Ent) (hq : σ → Pool κ) (Lc : σ → γ → List Ent), (∀ s g, Ls s g = Lc s g ++ Ents (hq s)) → ∀ (step : α → σ → Wm (σ ⊕ ε)) (s0 : σ) (g0 : γ) (R : σ ⊕ ε → Prop), run hq step s0 R →
    ∀ (A : List Nat) (W : World) (u : Value) (vs : List Value), Lent A W (Ls s0 g0) → HoldsAll (ks (Ls s0 g0) ++ A) W τs vs →
      YldW P u τ Ls Lx step (fun A' W' => Ext (ks (Ls s0 g0) ++ A) W A' W') →
      Calls P f (u :: vs).toArray W (PostO (ks (Ls s0 g0)) A W (δ := {r // R r} × γ) (fun _ => .tup []) (fun d => Lr Ls Lx d.1.1 d.2))

theorem MeetsJ.of {P : Program} {f : FuncId} {fn : Func} {code : Code} {n : Nat} {τs : List VP} {κ : Type} [Cl κ] {α : Type} {τ : α → VP} {run : ∀ {σ ε : Type}, (σ → Pool κ) → (α → σ → Wm (σ ⊕ ε)) → σ → Wm (σ ⊕ ε)}
    (hf : P.funcs[f]? = some fn) (hb : fn.body = some code) (hn : fn.ntmps = n) (hlen : Nat.ble (τs.length + 1) n = true)
    (h : ∀ {σ ε γ : Type} (Ls : σ → γ → List Ent) (Lx : ε → γ → List Ent) (hq : σ → Pool κ) (Lc : σ → γ → List Ent), (∀ s g, Ls s g = Lc s g ++ Ents (hq s)) → ∀ (step : α → σ → Wm (σ ⊕ ε)) (s0 : σ) (g0 : γ) (R : σ ⊕ ε → Prop), run hq step s0 R →
      ∀ W A u, YldW P u τ Ls Lx step (fun A' W' => Ext (ks (Ls s0 g0) ++ A) W A' W') →
        Wp ⟨P, n, W, ks (Ls s0 g0), A, none, []⟩ (bodyPost P fn (PostO (ks (Ls s0 g0)) A W (δ := {r // R r} × γ) (fun _ => .tup []) (fun d => Lr Ls Lx d.1.1 d.2))) code (params 0 (.eq u :: τs)) (Ls s0 g0)) : MeetsJ P f τs τ run := by
  refine ⟨?_⟩
  intro σ ε γ Ls Lx hq Lc hLc step s0 g0 R hr A W u vs hl hv hy
  refine calls_of_wp hf hb (wpIn_wide.1 (h Ls Lx hq Lc hLc step s0 g0 R hr W A u hy _ _ ?_))
  have hv' : HoldsAll (ks (Ls s0 g0) ++ A) W (.eq u :: τs) (u :: vs) := .cons rfl hv
  have hl' := hv'.length
  have hle : τs.length + 1 ≤ n := Nat.le_of_ble_eq_true hlen
  exact
  { defers := rfl
    size := by simp at hl'; simp [hn, hl']; omega
    env := fun t τ hlk => by
      obtain ⟨_, v, h2, h3⟩ := look_params hv' 0 t τ hlk
      refine ⟨v, ?_, h3⟩
      have hlt : t < (u :: vs).length := (List.getElem?_eq_some_iff.1 h2).1
      rw [Array.getElem?_append_left (by simpa using hlt)]
      simpa using h2
    fr := .refl _ _
    own := hl.ok
    nodup := hl.nodup
    lt := hl.lt
    mine := fun k hk _ => hk
    old := hl.old }

section
variable {c : Cx} {E : List (Nat × VP)} {L : List Ent} {ops : Array Oper} {Q : Exit → Act → World → Prop}
variable {d : Option Tmp} {ty : TypeId} {pos : String} {af : Array Edge} {g : Option (Nat × Bool)} {x y : Operand} {t t2 : TypeId}

end
end Gv

namespace Gv
open Go
set_option linter.unusedVariables false
set_option linter.unusedSimpArgs false

/-- any: what is hidden -/
def Wm.any (α : Type) : Wm α := fun Q => ∀ x, Q x
theorem HoldsAll.append {A : List Nat} {W : World} : ∀ {τs σs : List VP} {vs us : List Value}, HoldsAll A W τs vs → HoldsAll A W σs us → HoldsAll A W (τs ++ σs) (vs ++ us)
  | _, _, _, _, .nil, h => h
  | _, _, _, _, .cons h r, h2 => .cons h (r.append h2)

section
variable {c : Cx} {E : List (Nat × VP)} {L : List Ent} {ops : Array Oper} {Q : Exit → Act → World → Prop}
variable {d : Option Tmp} {ty : TypeId} {pos : String} {af : Array Edge} {g : Option (Nat × Bool)} {x y : Operand} {t t2 : TypeId}

/-- the operation leaves these blocks, and yields that -/
def OpS (c : Cx) (E : List (Nat × VP)) (L : List Ent) (o : Oper) {δ : Type} (ρ : δ → VP) (L' : δ → List Ent) : Prop :=
  ∀ a W, St c E L a W → OpTo c.P o a W fun v W' => ∃ q, St c E (L' q) a W' ∧ (ρ q).holds (ks (L' q) ++ c.A0) W' v

theorem OpS.perm {L1 : List Ent} {o : Oper} {δ : Type} {ρ : δ → VP} {L' L2 : δ → List Ent} (p : L.Perm L1) (p' : ∀ q, (L' q).Perm (L2 q)) (h : OpS c E L1 o ρ L') : OpS c E L o ρ L2 := fun a W s => by
  have := h a W (s.perm p)
  unfold OpTo at this ⊢
  exact Oper.wp_mono (fun a' W' ⟨v, h1, q, h2, h3⟩ => ⟨v, h1, q, h2.perm (p' q), (ρ q).mono (perm_ext (p' q)) h3⟩) this
theorem OpS.to {o : Oper} {δ : Type} {ρ : δ → VP} {L' L2 : δ → List Ent} (e : ∀ q, L' q = L2 q) (h : OpS c E L o ρ L') : OpS c E L o ρ L2 := by
  have : L' = L2 := funext e
  subst this; exact h
theorem OpS.map {o : Oper} {δ δ' : Type} {ρ : δ → VP} {L' : δ → List Ent} {ρ' : δ' → VP} {L2 : δ' → List Ent} (F : δ → δ') (hr : ∀ d, ρ' (F d) = ρ d) (hl : ∀ d, L2 (F d) = L' d) (h : OpS c E L o ρ L') : OpS c E L o ρ' L2 := fun a W s => by
  have := h a W s
  unfold OpTo at this ⊢
  exact Oper.wp_mono (fun a' W' ⟨v, h1, q, h2, h3⟩ => ⟨v, h1, F q, by rw [hl]; exact h2, by rw [hl, hr]; exact h3⟩) this
/-- an operation that reads an own slice as a list: the slice is gone then -/
theorem OpS.fz {α : Type} [Rp α] {o : Oper} {i s cap T : Nat} {key : Option Nat} {xs : List α} {δ : Type} {ρ : δ → VP} {L' : δ → List Ent} (hl : look E s = some (.eq (slv key xs.length cap))) (hL : L[i]? = some ⟨key, .row T xs cap⟩)
    (h : OpS c ((s, .of xs) :: E) (L.set i ⟨none, .dead⟩) o ρ L') : OpS c E L o ρ L' := fun a W st => by
  have h1 := h a W (st.freeze hl hL)
  unfold OpTo at h1 ⊢
  refine Oper.wp_mono (fun a' W' ⟨v, h2, q, s', h3⟩ => ⟨v, h2, q, { s' with env := fun t τ hlk => ?_ }, h3⟩) h1
  by_cases e : Nat.beq s t = true
  · have := look_beq.1 e
    subst this
    rw [hl] at hlk
    cases hlk
    obtain ⟨v, h4, h5⟩ := st.env s _ hl
    exact ⟨v, h4, h5⟩
  · refine s'.env t τ ?_
    simp only [look]
    rw [Bool.not_eq_true] at e
    rw [e]
    exact hlk
theorem OpS.hr {o : Oper} {τ : VP} (h : HR c E L o τ) : OpS c E L o (fun _ : Unit => τ) (fun _ => L) := fun a W s => by
  have h1 := h a W s
  unfold OpTo at h1 ⊢
  exact Oper.wp_mono (fun a' W' ⟨v, h2, f, h3⟩ => ⟨v, h2, (), s.world f, h3⟩) h1
theorem OpS.call {o : Oper} {f : FuncId} {as : Act → List Value} {τs : List VP} {Lin Lr : List Ent} {δ : Type} {ρ : δ → VP} {Lo : δ → List Ent} (h : MeetsO c.P f τs Lin ρ Lo)
    (hc : ∀ a W, St c E (Lin ++ Lr) a W → (execOp a.eval o).run c.P W = .ok (.enter f (as a).toArray) W ∧ HoldsAll (ks (Lin ++ Lr) ++ c.A0) W τs (as a)) : OpS c E (Lin ++ Lr) o ρ (fun q => Lo q ++ Lr) := fun a W s => by
  obtain ⟨hrun, hx⟩ := hc a W s
  have hnd0 := s.nodup
  rw [ks_append] at hnd0
  obtain ⟨hn1, hn2, hn3⟩ := List.nodup_append.1 hnd0
  have hset : Ext (ks (Lin ++ Lr) ++ c.A0) W (ks Lin ++ (ks Lr ++ c.A0)) W := ks_swap
  have hA : ∀ k ∈ ks Lr ++ c.A0, k < W.heap.size ∧ k ∉ ks Lin := fun k hm => by
    rcases List.mem_append.1 hm with hm | hm
    · exact ⟨s.lt k (by rw [ks_append]; exact List.mem_append.2 (.inr hm)), fun h => hn3 k h k hm rfl⟩
    · obtain ⟨h1, h2⟩ := s.old k hm
      exact ⟨h1, fun h => h2 (by rw [ks_append]; exact List.mem_append.2 (.inl h))⟩
  have hlt : ∀ k ∈ ks Lin, k < W.heap.size := fun k hm => s.lt k (by rw [ks_append]; exact List.mem_append.2 (.inl hm))
  refine .of_enter (f := f) (args := (as a).toArray) (W' := W) hrun ?_
  refine (h (ks Lr ++ c.A0) W (as a) hA hn1 hlt (fun e he => Ent.ok_mono (s.own e (List.mem_append.2 (.inl he))) hset fun _ _ => rfl) (hx.mono hset)).mono fun e W' ⟨v, dd, he, hf, h1, h2, h3, h4⟩ => ?_
  exact ⟨v, he, dd, s.after hf h1 h2 h3, (ρ dd).mono ks_swap' h4⟩

theorem OpS.callO {f : FuncId} {xs : List Operand} {ats : Array TypeId} {τs : List VP} {Lin Lr : List Ent} {δ : Type} {ρ : δ → VP} {Lo : δ → List Ent} (m : Nat) (en : En c.P f) (h : MeetsO c.P f τs Lin ρ Lo)
    (h1 : L.take m = Lin) (h2 : L.drop m = Lr) (hx : Looks c E L xs τs) : OpS c E L ⟨d, .call ⟨.value (.func f), xs.toArray, ats⟩, ty, pos, af, g⟩ ρ (fun q => Lo q ++ Lr) := by
  have e : L = Lin ++ Lr := by rw [← h1, ← h2, List.take_append_drop]
  clear h1 h2
  subst e
  exact OpS.call (as := fun a => xs.map a.eval) h fun a W s => ⟨by simp [execOp, resolve, Deferred.ofValue, Act.eval, invoke, en.run], hx.holds a W s⟩

/-! ### Calls of closures -/

theorem Look.clo_run {fo : Operand} {f : FuncId} {τcs τs : List VP} {xs : List Operand} {ats : Array TypeId} (en : En c.P f) (hf : Look c E L fo (.clo f τcs)) (hx : Looks c E L xs τs) {a : Act} {W : World} (s : St c E L a W) :
    ∃ lb : List Value, (execOp a.eval ⟨d, .call ⟨.value fo, xs.toArray, ats⟩, ty, pos, af, g⟩).run c.P W = .ok (.enter f (xs.map a.eval ++ lb).toArray) W ∧ HoldsAll (ks L ++ c.A0) W (τs ++ τcs) (xs.map a.eval ++ lb) := by
  obtain ⟨lb, h1, h2⟩ := hf a W s
  exact ⟨lb, by simp [execOp, resolve, Deferred.ofValue, h1, invoke, en.run], (hx.holds a W s).append h2⟩

theorem OpS.clo {fo : Operand} {f : FuncId} {τcs τs : List VP} {xs : List Operand} {ats : Array TypeId} {Lin Lr : List Ent} {δ : Type} {ρ : δ → VP} {Lo : δ → List Ent} (m : Nat) (en : En c.P f) (hf : Look c E L fo (.clo f τcs)) (h : MeetsO c.P f (τs ++ τcs) Lin ρ Lo)
    (h1 : L.take m = Lin) (h2 : L.drop m = Lr) (hx : Looks c E L xs τs) : OpS c E L ⟨d, .call ⟨.value fo, xs.toArray, ats⟩, ty, pos, af, g⟩ ρ (fun q => Lo q ++ Lr) := by
  have e : L = Lin ++ Lr := by rw [← h1, ← h2, List.take_append_drop]
  clear h1 h2
  subst e
  intro a W s
  obtain ⟨lb, h3, h4⟩ := Look.clo_run (d := d) (ty := ty) (pos := pos) (af := af) (g := g) (ats := ats) en hf hx s
  have hnd0 := s.nodup
  rw [ks_append] at hnd0
  obtain ⟨hn1, hn2, hn3⟩ := List.nodup_append.1 hnd0
  have hset : Ext (ks (Lin ++ Lr) ++ c.A0) W (ks Lin ++ (ks Lr ++ c.A0)) W := ks_swap
  have hA : ∀ k ∈ ks Lr ++ c.A0, k < W.heap.size ∧ k ∉ ks Lin := fun k hm => by
    rcases List.mem_append.1 hm with hm | hm
    · exact ⟨s.lt k (by rw [ks_append]; exact List.mem_append.2 (.inr hm)), fun h => hn3 k h k hm rfl⟩
    · obtain ⟨h1, h2⟩ := s.old k hm
      exact ⟨h1, fun h => h2 (by rw [ks_append]; exact List.mem_append.2 (.inl h))⟩
  have hlt : ∀ k ∈ ks Lin, k < W.heap.size := fun k hm => s.lt k (by rw [ks_append]; exact List.mem_append.2 (.inl hm))
  refine .of_enter (f := f) (W' := W) h3 ?_
  refine (h (ks Lr ++ c.A0) W _ hA hn1 hlt (fun e he => Ent.ok_mono (s.own e (List.mem_append.2 (.inl he))) hset fun _ _ => rfl) (h4.mono hset)).mono fun e W' ⟨v, dd, he, hf, h1, h2, h3, h4⟩ => ?_
  exact ⟨v, he, dd, s.after hf h1 h2 h3, (ρ dd).mono ks_swap' h4⟩
theorem Looks.perm {L1 : List Ent} (p : L.Perm L1) : ∀ {xs : List Operand} {τs : List VP}, Looks c E L xs τs → Looks c E L1 xs τs
  | [], [], h => h
  | _ :: _, _ :: _, h => ⟨h.1.perm p, Looks.perm p h.2⟩
  | [], _ :: _, h => h.elim
  | _ :: _, [], h => h.elim
/-! ### Objects of the pool that lie in several blocks -/

end
end Gv
namespace Gv
open Go
set_option linter.unusedVariables false

/-! ### Regions and iterators that look at a pool -/

section
variable {c : Cx} {E : List (Nat × VP)} {L : List Ent} {ops : Array Oper} {Q : Exit → Act → World → Prop}
theorem HeadD.q {hs : List Hd} {i np : Nat} {o : Oper} {h : Hd} (hh : HeadD c ops Q hs E L i o h) : HeadDP c ops Q hs E L np i o h := fun hd E' L' h1 h2 _ => hh hd E' L' h1 h2

/-- an iterator that looks at the caller's pool, which stays as it is -/
structure MeetsK (P : Program) (f : FuncId) (τs : List VP) {κ : Type} [Cl κ] (hp : Pool κ) {α : Type} (τ : α → VP) (run : ∀ {σ ε : Type}, (α → σ → Option (σ ⊕ ε)) → σ → Option (σ ⊕ ε)) : Prop where
  go : ∀ {σ ε γ : Type} (Ls : σ → γ → List Ent) (Lx : ε → γ → List Ent) (Lc : σ → γ → List Ent), (∀ s g, Ls s g = Lc s g ++ Ents hp) → GoI P f τs [] τ (run (σ := σ) (ε := ε)) Ls Lx

theorem MeetsK.of {P : Program} {f : FuncId} {fn : Func} {code : Code} {n : Nat} {τs : List VP} {κ : Type} [Cl κ] {hp : Pool κ} {α : Type} {τ : α → VP} {run : ∀ {σ ε : Type}, (α → σ → Option (σ ⊕ ε)) → σ → Option (σ ⊕ ε)}
    (hf : P.funcs[f]? = some fn) (hb : fn.body = some code) (hn : fn.ntmps = n) (hlen : Nat.ble (τs.length + 1) n = true)
    (h : ∀ {σ ε γ : Type} (Ls : σ → γ → List Ent) (Lx : ε → γ → List Ent) (Lc : σ → γ → List Ent), (∀ s g, Ls s g = Lc s g ++ Ents hp) → ∀ (step : α → σ → Option (σ ⊕ ε)) (s0 : σ) (g0 : γ) (r : σ ⊕ ε), run step s0 = some r →
      ∀ W A u, Yld P u τ Ls Lx step (fun A' W' => Ext (ks (Ls s0 g0) ++ A) W A' W') →
        Wp ⟨P, n, W, ks (Ls s0 g0), A, none, []⟩ (bodyPost P fn (PostO (ks (Ls s0 g0)) A W (fun _ : γ => .tup []) (fun g => [] ++ Lr Ls Lx r g))) code (params 0 (.eq u :: τs)) (Ls s0 g0)) : MeetsK P f τs hp τ run := by
  refine ⟨?_⟩
  intro σ ε γ Ls Lx Lc hLc step s0 g0 r hr A W u vs hl hv hy
  refine calls_of_wp hf hb (wpIn_wide.1 (h Ls Lx Lc hLc step s0 g0 r hr W A u hy _ _ ?_))
  have hv' : HoldsAll (ks (Ls s0 g0) ++ A) W (.eq u :: τs) (u :: vs) := .cons rfl hv
  have hl' := hv'.length
  have hle : τs.length + 1 ≤ n := Nat.le_of_ble_eq_true hlen
  exact
  { defers := rfl
    size := by simp at hl'; simp [hn, hl']; omega
    env := fun t τ hlk => by
      obtain ⟨_, v, h2, h3⟩ := look_params hv' 0 t τ hlk
      refine ⟨v, ?_, h3⟩
      have hlt : t < (u :: vs).length := (List.getElem?_eq_some_iff.1 h2).1
      rw [Array.getElem?_append_left (by simpa using hlt)]
      simpa using h2
    fr := .refl _ _
    own := hl.ok
    nodup := hl.nodup
    lt := hl.lt
    mine := fun k hk _ => hk
    old := hl.old }

end
end Gv
namespace Gv
open Go
set_option linter.unusedVariables false

/-! ### Variables that hold closures over own variables -/

/-- a function's value, as it is -/
structure Raw where
  f : FuncId
  us : Option (List Value)
instance : Inhabited Raw := ⟨⟨0, none⟩⟩
def Raw.val : Raw → Value
  | ⟨f, some us⟩ => .func (.func f) #[] us.toArray
  | ⟨_, none⟩ => .nilFunc
instance : Rp Raw where
  size := 1
  agg := false
  rep _ _ cs x := cs = [x.val]
  len h := by rw [h]; rfl
  one h := by
    intro v hv
    rw [h, List.mem_singleton] at hv
    subst hv
    rename_i x
    obtain ⟨f, us⟩ := x
    cases us <;> rfl
  flat _ := rfl
  mono _ h := h
instance : Zc Raw := ⟨[.nilFunc], fun _ _ => rfl⟩
section
variable {c : Cx} {E : List (Nat × VP)} {L : List Ent} {ops : Array Oper} {Q : Exit → Act → World → Prop}
variable {d : Option Tmp} {ty : TypeId} {pos : String} {af : Array Edge} {g : Option (Nat × Bool)} {x y : Operand} {t t2 : TypeId}

/-! ### Under a guard, what makes new blocks -/

end
end Gv
namespace Gv
open Go
set_option linter.unusedVariables false
section
variable {c : Cx} {E : List (Nat × VP)} {L : List Ent} {ops : Array Oper} {Q : Exit → Act → World → Prop}
end
end Gv

namespace Gv
open Go
set_option linter.unusedVariables false
set_option linter.unusedSimpArgs false
section
variable {c : Cx} {E : List (Nat × VP)} {L : List Ent} {ops : Array Oper} {Q : Exit → Act → World → Prop}

def drawT (ops : Array Oper) (n : Nat) (hs : List (Option Nat × List Nat × List Nat × List Nat)) (E : List Nat) : Bool :=
  decide (hs.length = n) && decide (n ≤ ops.size) && decide (hs.filterMap (·.1)).Nodup && ((List.range n).all fun m => match hs[m]? with | some (some s, up, _) => !E.contains s || (List.range n).all fun k => decide (k = m) || up.contains k | _ => true) &&
  ((List.range n).all fun i => match hs[i]? with
    | none => false
    | some (_, up, rd, wr) =>
      (((ops[i]?).map fun o => (o.dst == (hs[i]?).bind (·.1)) && o.after.all fun e => !Region.binds .any e || decide (e.on < i)).getD false) &&
      (up.all fun k => Region.waitsFor .any ops i k || (List.range i).any fun m => Region.waitsFor .any ops i m && ((hs[m]?).map fun h => h.2.1.contains k).getD false) &&
      ((List.range n).all fun k => match hs[k]? with
        | none => true
        | some (_, upk, _, wrk) =>
          (!(decide (k < i) && wrk.any rd.contains) || up.contains k) && (!(decide (i < k) && wrk.any fun j => rd.contains j || wr.contains j) || upk.contains i))) &&
  (decide (n = ops.size) || (Region.sinkB .any ops n && Region.chainB .any ops n)) &&
  Region.seqB .any ops (ops.size - n) n ((List.range n).foldl (fun l i => l.setIfInBounds i true) (Array.replicate ops.size false))

theorem drawT_core {n : Nat} {hs : List Hd} {np : Nat} (hw : ∀ h ∈ hs, ∀ j ∈ h.wr, j < np ∨ L.length ≤ j) (hB : drawT ops n (dat hs) (E.map (·.1)) = true) (hh : HeadsDP c ops Q hs E L np 0 (ops.toList.take n) hs)
    (ht : ∀ hd, Sq c ops Q (ops.toList.drop n) (zipD (fun _ => true) hd E 0 hs) (Lf (fun _ => true) hd 0 hs L)) :
    ∀ m (listed : Array Bool) (hd : Nat → Hid) (a : Act) (W : World), ((List.range n).filter fun i => !listed.getD i true).length ≤ m → HeadInv .any ops n listed →
      St c (zipD (fun i => listed.getD i false) hd E 0 hs) (Lf (fun i => listed.getD i false) hd 0 hs L) a W → wpAnyIn c.F 9 c.P .any ops Q (m + (ops.size - n)) listed a W := by
  simp only [drawT, Bool.and_eq_true, decide_eq_true_eq, Bool.or_eq_true] at hB
  obtain ⟨⟨⟨⟨⟨⟨hlen0, hn⟩, hnd⟩, hdis⟩, hall⟩, htail⟩, hseq⟩ := hB
  have hlen : hs.length = n := by simpa [dat] using hlen0
  have hget : ∀ i, i < n → ∃ h o, hs[i]? = some h ∧ ops[i]? = some o := fun i hi => ⟨hs[i]'(by omega), ops[i], by simp, by simp⟩
  -- what is asked of operation i
  have hcond : ∀ (i : Nat) (h : Hd) (o : Oper), hs[i]? = some h → ops[i]? = some o →
      o.dst = h.slot ∧ (∀ e ∈ o.after, Region.binds .any e = true → e.on < i) ∧
      (∀ k ∈ h.up, Region.waitsFor .any ops i k = true ∨ ∃ m, m < i ∧ Region.waitsFor .any ops i m = true ∧ ∃ x, hs[m]? = some x ∧ k ∈ x.up) ∧
      (∀ (k : Nat) (x : Hd), hs[k]? = some x → (k < i → (∃ j ∈ x.wr, h.rd.contains j = true) → k ∈ h.up) ∧ (i < k → (∃ j ∈ x.wr, h.rd.contains j = true ∨ h.wr.contains j = true) → i ∈ x.up)) := by
    intro i h o hi ho
    have hlt : i < n := by have := (List.getElem?_eq_some_iff.1 hi).1; omega
    have h1 := List.all_eq_true.1 hall i (List.mem_range.2 hlt)
    rw [dat_get hi] at h1
    simp only [Bool.and_eq_true] at h1
    obtain ⟨⟨h2, h3⟩, h4⟩ := h1
    simp only [ho, Option.map_some, Option.getD_some, Bool.and_eq_true, Option.bind_some, beq_iff_eq] at h2
    refine ⟨h2.1, fun e he hb => ?_, fun k hk => ?_, fun k x hx => ?_⟩
    · have := Array.all_eq_true_iff_forall_mem.1 h2.2 e he
      simp [hb] at this
      exact this
    · have := List.all_eq_true.1 h3 k hk
      simp only [Bool.or_eq_true, List.any_eq_true, Bool.and_eq_true, List.mem_range] at this
      rcases this with h5 | ⟨m, h5, h6, h7⟩
      · exact .inl h5
      · have hm : m < hs.length := by omega
        rw [dat_get (List.getElem?_eq_getElem hm)] at h7
        exact .inr ⟨m, h5, h6, hs[m], List.getElem?_eq_getElem hm, by simpa using h7⟩
    · have hkl : k < n := by have := (List.getElem?_eq_some_iff.1 hx).1; omega
      have := List.all_eq_true.1 h4 k (List.mem_range.2 hkl)
      rw [dat_get hx] at this
      simp only [Bool.and_eq_true, Bool.or_eq_true, Bool.not_eq_true', Bool.and_eq_false_iff, decide_eq_false_iff_not, List.contains_iff_mem] at this
      refine ⟨fun hki ⟨j, hj, hr⟩ => ?_, fun hik ⟨j, hj, hr⟩ => ?_⟩
      · rcases this.1 with (h5 | h5) | h5
        · exact absurd hki h5
        · have := List.any_eq_false.1 h5 j hj
          exact absurd hr this
        · exact h5
      · rcases this.2 with (h5 | h5) | h5
        · exact absurd hik h5
        · have := List.any_eq_false.1 h5 j hj
          simp only [Bool.or_eq_true] at this
          exact absurd hr this
        · exact h5
  have huniq : ∀ (i j s : Nat) (x y : Hd), hs[i]? = some x → hs[j]? = some y → x.slot = some s → y.slot = some s → i = j := by
    have key : ∀ (l : List Hd), ((dat l).filterMap (·.1)).Nodup → ∀ (i j s : Nat) (x y : Hd), l[i]? = some x → l[j]? = some y → x.slot = some s → y.slot = some s → i = j := by
      intro l
      induction l with
      | nil => intro _ i j s x y h; simp at h
      | cons z r ih =>
        intro hnd i j s x y hi hj hx hy
        have hr : ((dat r).filterMap (·.1)).Nodup := by
          cases hz : z.slot with
          | none => simpa [dat, hz] using hnd
          | some w =>
            simp only [dat, List.map_cons, List.filterMap_cons, hz] at hnd
            exact (List.nodup_cons.1 hnd).2
        have hout : z.slot = some s → ∀ (q : Nat) (v : Hd), r[q]? = some v → v.slot ≠ some s := fun hz q v hq hv => by
          simp only [dat, List.map_cons, List.filterMap_cons, hz] at hnd
          exact (List.nodup_cons.1 hnd).1 (List.mem_filterMap.2 ⟨_, List.mem_map.2 ⟨v, List.mem_of_getElem? hq, rfl⟩, hv⟩)
        cases i with
        | zero =>
          simp only [List.getElem?_cons_zero, Option.some.injEq] at hi
          subst hi
          cases j with
          | zero => rfl
          | succ j => simp only [List.getElem?_cons_succ] at hj; exact absurd hy (hout hx j y hj)
        | succ i =>
          simp only [List.getElem?_cons_succ] at hi
          cases j with
          | zero =>
            simp only [List.getElem?_cons_zero, Option.some.injEq] at hj
            subst hj
            exact absurd hx (hout hy i x hi)
          | succ j => simp only [List.getElem?_cons_succ] at hj; rw [ih hr i j s x y hi hj hx hy]
    exact key hs hnd
  have hbase : ∀ (t : Nat) (τ : VP), look E t = some τ → ∀ (m : Nat) (h : Hd), hs[m]? = some h → h.slot = some t → ∀ k, k < n → k ≠ m → k ∈ h.up := by
    intro t τ hl m h hm hs' k hk hkm
    have hml : m < n := by have := (List.getElem?_eq_some_iff.1 hm).1; omega
    have h1 := List.all_eq_true.1 hdis m (List.mem_range.2 hml)
    rw [show (dat hs)[m]? = some (h.slot, h.up, h.rd, h.wr) by simp [dat, hm], hs'] at h1
    have hmem : t ∈ E.map (·.1) := by
      clear hdis h1 hh ht hm hs'
      induction E with
      | nil => simp [look] at hl
      | cons x r ih =>
        obtain ⟨s, σ⟩ := x
        simp only [look] at hl
        by_cases e : Nat.beq s t = true
        · have := look_beq.1 e; subst this; simp
        · simp only [Bool.not_eq_true] at e
          rw [e] at hl
          simp only [List.map_cons, List.mem_cons]
          exact .inr (ih hl)
    replace h1 : (!(E.map (·.1)).contains t || (List.range n).all fun k => decide (k = m) || h.up.contains k) = true := h1
    rw [show (E.map (·.1)).contains t = true by simpa using hmem] at h1
    have h2 : ∀ x, x < n → x = m ∨ x ∈ h.up := by simpa using h1
    exact (h2 k hk).resolve_left hkm
  have hup : ∀ (listed : Array Bool), HeadInv .any ops n listed → ∀ (d i : Nat), i ≤ d → ∀ (h : Hd) (o : Oper), hs[i]? = some h → ops[i]? = some o → (∀ e ∈ o.after, Region.binds .any e = true → listed.getD e.on false = true) → ∀ k ∈ h.up, listed.getD k false = true := by
    intro listed inv d
    induction d with
    | zero =>
      intro i hi h o hhi hoi hw k hk
      rcases (hcond i h o hhi hoi).2.2.1 k hk with h1 | ⟨m, hm, _⟩
      · obtain ⟨oj, hoj, e, he, hb, hon⟩ := Region.waitsFor_spec h1
        rw [hoi] at hoj; cases hoj
        rw [← hon]; exact hw e he hb
      · omega
    | succ d ih =>
      intro i hi h o hhi hoi hw k hk
      rcases (hcond i h o hhi hoi).2.2.1 k hk with h1 | ⟨m, hm, h1, x, hx, hkx⟩
      · obtain ⟨oj, hoj, e, he, hb, hon⟩ := Region.waitsFor_spec h1
        rw [hoi] at hoj; cases hoj
        rw [← hon]; exact hw e he hb
      · obtain ⟨oj, hoj, e, he, hb, hon⟩ := Region.waitsFor_spec h1
        rw [hoi] at hoj; cases hoj
        have hml := hw e he hb
        rw [hon] at hml
        obtain ⟨x2, om, hx2, hom⟩ := hget m (by have := (List.getElem?_eq_some_iff.1 hhi).1; omega)
        exact ih m (by omega) x om hx hom (fun e he hb => inv.closed m om hom hml e he hb) k hkx
  have hdone : ∀ (listed : Array Bool) (hd : Nat → Hid) (a : Act) (W : World), (∀ i, i < n → listed.getD i true = true) → HeadInv .any ops n listed →
      St c (zipD (fun i => listed.getD i false) hd E 0 hs) (Lf (fun i => listed.getD i false) hd 0 hs L) a W → wpAnyIn c.F 9 c.P .any ops Q (ops.size - n) listed a W := by
    intro listed hd a W hall2 inv st
    have hl := listed_all inv hn hall2
    rw [← hl] at hseq
    have hlen2 : (ops.toList.drop n).length = ops.size - n := by simp
    rw [← hlen2]
    rw [← hlen2] at hseq
    refine wpAnyIn_of_seq (ops.toList.drop n) n listed a W (fun j => by simp) hseq (ht hd a W ?_)
    have hl2 : ∀ m, m < hs.length → listed.getD (0 + m) false = true := fun m hm => by
      have h1 := hall2 m (by omega)
      have h2 : m < listed.size := by rw [inv.size]; omega
      simpa [h2] using h1
    rw [zipD_congr (ls' := fun _ => true) hl2, Lf_congr (ls' := fun _ => true) hl2] at st
    exact st
  have more : ∀ f (listed : Array Bool) a W, wpAnyIn c.F 9 c.P .any ops Q f listed a W → wpAnyIn c.F 9 c.P .any ops Q (f + 1) listed a W := by
    intro f
    induction f with
    | zero => intro listed a W h; exact ⟨fun _ => h.2, fun i hi => by rw [h.1] at hi; cases hi⟩
    | succ f ihf => intro listed a W h; exact ⟨h.1, fun i hi => wpOpIn_mono (fun a' w' h' => ihf _ a' w' h') (h.2 i hi)⟩
  intro m
  induction m with
  | zero =>
    intro listed hd a W hm inv st
    rw [Nat.zero_add]
    refine hdone listed hd a W (fun i hi => ?_) inv st
    cases h : listed.getD i true with
    | true => rfl
    | false =>
      have : i ∈ (List.range n).filter fun i => !listed.getD i true := List.mem_filter.2 ⟨List.mem_range.2 hi, by rw [h]; rfl⟩
      rw [List.length_eq_zero_iff.1 (Nat.le_zero.1 hm)] at this
      cases this
  | succ m ih =>
    intro listed hd a W hm inv st
    rw [show m + 1 + (ops.size - n) = (m + (ops.size - n)) + 1 by omega]
    by_cases hall3 : ∀ i, i < n → listed.getD i true = true
    · have h1 := hdone listed hd a W hall3 inv st
      have key : ∀ k, wpAnyIn c.F 9 c.P .any ops Q (k + (ops.size - n)) listed a W := by
        intro k
        induction k with
        | zero => rw [Nat.zero_add]; exact h1
        | succ k ihk => rw [show k + 1 + (ops.size - n) = (k + (ops.size - n)) + 1 by omega]; exact more _ _ _ _ ihk
      exact more _ _ _ _ (key m)
    have hex : ∃ i, i < n ∧ listed.getD i true = false := by
      false_or_by_contra
      rename_i h2
      exact hall3 fun i hi => by
        cases h : listed.getD i true with
        | true => rfl
        | false => exact absurd ⟨i, hi, h⟩ h2
    have hready : ∀ t ∈ Region.ready .any ops listed, t < n := by
      intro t htm
      rcases Nat.lt_or_ge t n with h | h
      · exact h
      · obtain ⟨i, hi, hun⟩ := hex
        have hnlt : n < ops.size ∨ n = ops.size := by omega
        have htlt : t < ops.size := by
          obtain ⟨_, o, ho, _⟩ := mem_ready.1 htm
          exact (Array.getElem?_eq_some_iff.1 ho).1
        rcases htail with h1 | h1
        · omega
        · exact absurd htm (tail_waits h1.1 h1.2 (by omega) inv _ i rfl hi hun t h)
    refine ⟨fun h0 => ?_, fun i hi => ?_⟩
    · exfalso
      -- the least that has not come up would be ready
      have key : ∀ d i, i ≤ d → i < n → listed.getD i true = true := by
        intro d
        induction d with
        | zero =>
          intro i hi0 hi
          cases hl : listed.getD i true with
          | true => rfl
          | false =>
            obtain ⟨h, o, hhi, ho⟩ := hget i hi
            have : i ∈ Region.ready .any ops listed := mem_ready.2 ⟨hl, o, ho, fun e he hb => by have := (hcond i h o hhi ho).2.1 e he hb; omega⟩
            rw [h0] at this; cases this
        | succ d ihd =>
          intro i hi0 hi
          cases hl : listed.getD i true with
          | true => rfl
          | false =>
            obtain ⟨h, o, hhi, ho⟩ := hget i hi
            have : i ∈ Region.ready .any ops listed := mem_ready.2 ⟨hl, o, ho, fun e he hb => by
              have h1 := (hcond i h o hhi ho).2.1 e he hb
              have h2 := ihd e.on (by omega) (by omega)
              have h3 : e.on < listed.size := by rw [inv.size]; omega
              simpa [h3] using h2⟩
            rw [h0] at this; cases this
      obtain ⟨i, hi, hun⟩ := hex
      have := key i i (Nat.le_refl _) hi
      rw [hun] at this; cases this
    · have hin : i < n := hready i hi
      obtain ⟨hun, o, ho, hlisted⟩ := mem_ready.1 hi
      obtain ⟨h, _, hhi, _⟩ := hget i hin
      have hunf : listed.getD i false = false := getD_both hun
      have hilt : i < listed.size := by rw [inv.size]; omega
      have hcnt : ((List.range n).filter fun j => !(listed.setIfInBounds i true).getD j true).length ≤ m := by
        have : ((List.range n).filter fun j => !(listed.setIfInBounds i true).getD j true).length < ((List.range n).filter fun j => !listed.getD j true).length := by
          refine cnt_lt (fun j => !listed.getD j true) (fun j => !(listed.setIfInBounds i true).getD j true) i (by simp only [hun]; rfl) ?_ (fun j hj => ?_) n hin
          · simp [hilt]
          · by_cases e : i = j
            · subst e; simp only [hun]; rfl
            · rw [getD_set_ne true e] at hj; exact hj
        omega
      have inv' := inv.set hi hin
      obtain ⟨hdst, hedges, hclos, hent⟩ := hcond i h o hhi ho
      have hupl := hup listed inv i i (Nat.le_refl _) h o hhi ho hlisted
      -- whoever comes later and leaves an entry of i's has not come up
      have hlater : ∀ (k : Nat) (x : Hd), hs[k]? = some x → i < k → (∃ j ∈ x.wr, h.rd.contains j = true ∨ h.wr.contains j = true) → listed.getD k false = false := fun k x hx hik hj => by
        have h1 := (hent k x hx).2 hik hj
        cases hk : listed.getD k false with
        | false => rfl
        | true =>
          obtain ⟨_, ok, _, hok⟩ := hget k (by have := (List.getElem?_eq_some_iff.1 hx).1; omega)
          have := hup listed inv k k (Nat.le_refl _) x ok hx hok (fun e he hb => inv.closed k ok hok hk e he hb) i h1
          rw [hunf] at this; cases this
      have hsplit : hs = hs.take i ++ h :: hs.drop (i + 1) := by
        have hil : i < hs.length := by omega
        rw [List.getElem?_eq_getElem hil] at hhi
        cases hhi
        rw [List.getElem_cons_drop]
        exact (List.take_append_drop i hs).symm
      have htl : (hs.take i).length = i := by rw [List.length_take]; omega
      -- a slot that was known before is filled last, if ever
      have hbl : ∀ (t : Nat) (τ : VP), look E t = some τ → ∀ (m : Nat) (x : Hd), hs[m]? = some x → listed.getD (0 + m) false = true → x.slot ≠ some t := fun t τ hl m x hx hlm hs' => by
        rw [Nat.zero_add] at hlm
        have hmi : i ≠ m := fun e => by subst e; rw [hunf] at hlm; cases hlm
        obtain ⟨_, om, _, hom⟩ := hget m (by have := (List.getElem?_eq_some_iff.1 hx).1; omega)
        have := hup listed inv m m (Nat.le_refl _) x om hx hom (fun e he hb => inv.closed m om hom hlm e he hb) i (hbase t τ hl m x hx hs' i hin hmi)
        rw [hunf] at this; cases this
      have hspec := (HeadsDP.get hh i h o hhi (by rw [List.getElem?_take, if_pos hin, Array.getElem?_toList]; exact ho)) 
      rw [Nat.zero_add] at hspec
      have hsq := hspec hd (zipD (fun i => listed.getD i false) hd E 0 hs) (Lf (fun i => listed.getD i false) hd 0 hs L) (fun t τ hl => ?_) (fun j e hj hr => ?_) (Lf_drop hw)
      · have hw := wpOp_of_list (K := fun a W => ∃ x, St c (addE h.slot (h.τ (msk h.up i (upd hd i x))) (zipD (fun i => listed.getD i false) hd E 0 hs)) (setE (Lf (fun i => listed.getD i false) hd 0 hs L) (h.ent (msk h.up i (upd hd i x))) h.wr) a W) ho (hsq a W st)
        refine wpOpIn_mono (fun a' W' ⟨x, st'⟩ => ?_) hw
        have hdo : ∀ j, j ≠ i → upd hd i x j = hd j := fun j hj => by
          have : Nat.beq j i = false := by
            cases hb : Nat.beq j i
            · rfl
            · exact absurd (look_beq.1 hb) hj
          simp only [upd, this, cond_false]
        -- those that have come up do not know of i
        have hmo : ∀ (j : Nat) (y : Hd), hs[j]? = some y → listed.getD j false = true → msk y.up j (upd hd i x) = msk y.up j hd := fun j y hy hj => by
          obtain ⟨_, oj, _, hoj⟩ := hget j (by have := (List.getElem?_eq_some_iff.1 hy).1; omega)
          refine msk_congr (hdo j fun e => by subst e; rw [hunf] at hj; cases hj) fun k hk => hdo k fun e => ?_
          have := hup listed inv j j (Nat.le_refl _) y oj hy hoj (fun e he hb => inv.closed j oj hoj hj e he hb) k hk
          subst e
          rw [hunf] at this; cases this
        have hli : (listed.setIfInBounds i true).getD i false = true := by simp [hilt]
        have hlo : ∀ j, j ≠ i → (listed.setIfInBounds i true).getD j false = listed.getD j false := fun j hj => getD_set_ne false (fun e => hj e.symm)
        refine ih _ (upd hd i x) a' W' hcnt inv' ?_
        have hLeq : Lf (fun j => (listed.setIfInBounds i true).getD j false) (upd hd i x) 0 hs L = setE (Lf (fun i => listed.getD i false) hd 0 hs L) (h.ent (msk h.up i (upd hd i x))) h.wr := by
          apply List.ext_getElem?
          intro j
          rw [Lf_get, setE_get, Lf_get]
          by_cases hj : h.wr.contains j = true
          · rw [if_pos hj]
            have e1 : ∀ (ls : Nat → Bool) (g : Nat → Hid) (v : Option Ent), (∀ k x, hs[k]? = some x → i < k → x.wr.contains j = true → ls k = false) → valD ls g j 0 hs v = (bif ls i then (valD ls g j 0 (hs.take i) v).map (fun _ => h.ent (msk h.up i g) j) else valD ls g j 0 (hs.take i) v) := fun ls g v hls => by
              conv => lhs; rw [hsplit]
              rw [valD_append, htl, Nat.zero_add, valD, hj, Bool.and_true, valD_none]
              intro k x hx hw
              rw [List.getElem?_drop] at hx
              exact hls (i + 1 + k) x hx (by omega) hw
            have hno : ∀ k x, hs[k]? = some x → i < k → x.wr.contains j = true → listed.getD k false = false := fun k x hx hik hw => hlater k x hx hik ⟨j, by simpa using hw, .inr hj⟩
            rw [e1 (fun j => (listed.setIfInBounds i true).getD j false) (upd hd i x) _ (fun k x hx hik hw => by rw [hlo k (by omega)]; exact hno k x hx hik hw), e1 (fun j => listed.getD j false) hd _ hno]
            simp only [hli, hunf, cond_true, cond_false]
            rw [valD_congr (ls' := fun j => listed.getD j false) (hd' := hd) fun q x hx _ => by
              have hq : q < i := by have := (List.getElem?_eq_some_iff.1 hx).1; omega
              rw [List.getElem?_take, if_pos hq] at hx
              rw [Nat.zero_add]
              exact ⟨hlo q (by omega), fun hl => hmo q x hx (by rw [hlo q (by omega)] at hl; exact hl)⟩]
          · rw [if_neg hj]
            refine valD_congr fun q x hx hw => ?_
            rw [Nat.zero_add]
            have hq : q ≠ i := fun e => by subst e; rw [hhi] at hx; cases hx; exact hj hw
            exact ⟨hlo q hq, fun hl => hmo q x hx (by rw [hlo q hq] at hl; exact hl)⟩
        rw [hLeq]
        refine st'.less fun t τ hl => ?_
        rcases zipD_inv hl with ⟨j, y, h1, h2, h3, h4⟩ | ⟨h1, hno⟩
        · rw [Nat.zero_add] at h2 h4
          by_cases hji : j = i
          · subst hji
            rw [hhi] at h1
            cases h1
            exact ⟨τ, by rw [h3, h4]; simp [addE, look, Nat.beq_refl], fun _ _ _ h => h⟩
          · rw [hlo j hji] at h2
            rw [hmo j y h1 h2] at h4
            have h5 := zipD_get (ls := fun i => listed.getD i false) (hd := hd) (E := E) (k := 0) h1 (by rw [Nat.zero_add]; exact h2) h3 fun q z hq hz => huniq q j t z y hq h1 hz h3
            rw [Nat.zero_add, ← h4] at h5
            refine ⟨τ, ?_, fun _ _ _ h => h⟩
            cases hs2 : h.slot with
            | none => exact h5
            | some s =>
              have hne : Nat.beq s t = false := by
                cases hb : Nat.beq s t
                · rfl
                · have := look_beq.1 hb; subst this
                  exact absurd (huniq j i s y h h1 hhi h3 hs2) hji
              simp only [addE, look, hne, cond_false]
              exact h5
        · have hb := hbl t τ h1
          have h5 := zipD_base (ls := fun i => listed.getD i false) (hd := hd) (E := E) (k := 0) hb
          refine ⟨τ, ?_, fun _ _ _ h => h⟩
          cases hs2 : h.slot with
          | none => simp only [addE]; rw [h5]; exact h1
          | some s =>
            have hne : Nat.beq s t = false := by
              cases hb2 : Nat.beq s t
              · rfl
              · have := look_beq.1 hb2; subst this
                exact absurd hs2 (hno i h hhi (by rw [Nat.zero_add]; exact hli))
            simp only [addE, look, hne, cond_false]
            rw [h5]; exact h1
      · rcases heD_inv hl with ⟨j, hj, y, h1, h2, h3⟩ | h1
        · have h5 := zipD_get (ls := fun i => listed.getD i false) (hd := hd) (E := E) (k := 0) h1 (by rw [Nat.zero_add]; exact hupl j hj) h2 fun q z hq hz => huniq q j t z y hq h1 hz h2
          rw [Nat.zero_add, ← h3] at h5
          exact h5
        · rw [zipD_base (hbl t τ h1)]; exact h1
      · rw [Lf_get] at hj ⊢
        rw [← hj]
        conv => lhs; rw [hsplit]
        rw [valD_append, valD_none]
        · refine valD_congr fun q x hx hw => ?_
          rw [Nat.zero_add]
          have hq : q < i := by have := (List.getElem?_eq_some_iff.1 hx).1; omega
          rw [List.getElem?_take, if_pos hq] at hx
          exact ⟨hupl q ((hent q x hx).1 hq ⟨j, by simpa using hw, hr⟩), fun _ => rfl⟩
        · intro q x hx hw
          rw [htl, Nat.zero_add]
          cases q with
          | zero => exact hunf
          | succ q =>
            simp only [List.getElem?_cons_succ] at hx
            rw [List.getElem?_drop] at hx
            exact hlater (i + (q + 1)) x (by rw [← hx]; congr 1; omega) (by omega) ⟨j, by simpa using hw, .inl hr⟩

/-- a region whose first n operations come in whatever order, with a pool behind the first np entries, of which these only look at it; the others follow one by one -/
theorem Wp.drawTP {rid : Nat} {l : List Oper} (n : Nat) {np : Nat} (hm : c.P.follows .mixedOrders = true) (hs : List Hd) (ds : List (Option Nat × List Nat × List Nat × List Nat)) (es : List Nat) (hds : dat hs = ds) (hes : E.map (·.1) = es) (hB : Gv.drawT l.toArray n ds es = true) (hw2 : ∀ h ∈ hs, ∀ j ∈ h.wr, j < np ∨ L.length ≤ j)
    (hh : HeadsDP c l.toArray Q hs E L np 0 (l.take n) hs) (ht : ∀ hd, Sq c l.toArray Q (l.drop n) (zipD (fun _ => true) hd E 0 hs) (Lf (fun _ => true) hd 0 hs L)) : Wp c Q (.region rid l.toArray true) E L := fun a W s => by
  subst hds hes
  refine wpIn_region_any hm ?_
  have hn : n ≤ l.toArray.size := by
    simp only [Gv.drawT, Bool.and_eq_true, decide_eq_true_eq] at hB
    exact hB.1.1.1.1.1.2
  have inv0 : HeadInv .any l.toArray n (Array.replicate l.toArray.size false) :=
    { size := by simp
      closed := fun j oj _ hl => by rw [getD_replicate_false] at hl; cases hl
      tail := fun t _ ht => by simp at ht; simp [ht] }
  have h := drawT_core hw2 (ops := l.toArray) (Q := Q) hB (by simpa using hh) (by simpa using ht) n (Array.replicate l.toArray.size false) (fun _ _ => none) a W.drew (Nat.le_trans (List.length_filter_le _ _) (by simp)) inv0 ?_
  · rw [show n + (l.toArray.size - n) = l.toArray.size by omega] at h
    exact h
  have h1 : ∀ (hs : List Hd) (k : Nat), zipD (fun i => (Array.replicate l.toArray.size false).getD i false) (fun _ _ => none) E k hs = E := by
    intro hs
    induction hs with
    | nil => intro k; rfl
    | cons h r ih =>
      intro k
      have h2 := ih (k + 1)
      simp only [getD_replicate_false] at h2
      unfold zipD
      simp only [getD_replicate_false]
      exact h2
  have h2 : ∀ (hs : List Hd) (k : Nat) (L : List Ent), Lf (fun i => (Array.replicate l.toArray.size false).getD i false) (fun _ _ => none) k hs L = L := by
    intro hs
    induction hs with
    | nil => intro k L; rfl
    | cons h r ih => intro k L; rw [Lf, ih]; simp only [getD_replicate_false, cond_false]
  rw [h1, h2]
  exact s.world (Fr.drew W)

theorem Wp.dQ {rid : Nat} {l : List Oper} {ds : List (Option Nat × List Nat × List Nat × List Nat)} (np : Nat) (hm : c.P.follows .mixedOrders = true) (hs : List Hd) (es : List Nat)
    (hh : HeadsDP c l.toArray Q hs E L np 0 l hs) (ht : ∀ hd, To c Q .normal (zipD (fun _ => true) hd E 0 hs) (Lf (fun _ => true) hd 0 hs L))
    (hds : dat hs = ds := by rfl) (hes : E.map (·.1) = es := by rfl) (hB : Gv.drawT l.toArray l.length ds es = true := by kernel_rfl) (hw : (ds.all fun d => d.2.2.2.all fun j => Nat.blt j np) = true := by kernel_rfl) : Wp c Q (.region rid l.toArray true) E L :=
  Wp.drawTP l.length hm hs ds es hds hes hB (wr_lt hds hw) (by rw [List.take_length]; exact hh) (fun hd => by rw [List.drop_length]; exact Sq.nil (ht hd))
theorem Wp.dD {rid : Nat} {l : List Oper} {ds : List (Option Nat × List Nat × List Nat × List Nat)} (hm : c.P.follows .mixedOrders = true) (hs : List Hd) (es : List Nat)
    (hh : HeadsD c l.toArray Q hs E L 0 l hs) (ht : ∀ hd, To c Q .normal (zipD (fun _ => true) hd E 0 hs) (Lf (fun _ => true) hd 0 hs L))
    (hds : dat hs = ds := by rfl) (hes : E.map (·.1) = es := by rfl) (hB : Gv.drawT l.toArray l.length ds es = true := by kernel_rfl) : Wp c Q (.region rid l.toArray true) E L :=
  Wp.drawTP (np := L.length) l.length hm hs ds es hds hes hB (fun _ _ j _ => by omega) (by rw [List.take_length]; exact hh.toP) (fun hd => by rw [List.drop_length]; exact Sq.nil (ht hd))
/-- slots one behind the other -/
def rg : Nat → Nat → List (Option Nat)
  | _, 0 => []
  | a, n + 1 => some a :: rg (a + 1) n
/-- the operations from n on, where all ahead of them have come up -/
theorem AnyS.tail {l : List Oper} {f : Nat} {listed : Array Bool} (n : Nat) (hf : (l.drop n).length = f) (hs : Region.seqB .any l.toArray f n listed = true) (h : Sq c l.toArray Q (l.drop n) E L) : AnyS c l.toArray Q f listed E L := fun a W s => by
  subst hf
  exact wpAnyIn_of_seq (l.drop n) n listed a W (fun j => by simp) hs (h a W s)
/-- what a program that makes new blocks may leave, with what follows it -/
def Wm.share {β α : Type} (B : (β → Wm α) → Wm α) (k : β → Wm α) : Wm α := B k
theorem Wm.obf {α β : Type} {o : Option α} {k : α → Wm β} {R : β → Prop} {P : Prop} (h : Wm.bind (Wm.of o) k R) (g : ∀ y, o = some y → k y R → P) : P := (Wm.of_bind h).elim fun y h => g y h.1 h.2
theorem Wm.ex {α β : Type} {m : Wm α} {k : α → Wm β} {R : β → Prop} (h : Wm.bind m k R) : ∃ K : α → Prop, m K ∧ ∀ r, K r → k r R := ⟨_, h, fun _ h => h⟩
end
end Gv

namespace Gv
open Go
set_option linter.unusedVariables false

section
variable {c : Cx} {E : List (Nat × VP)} {L : List Ent} {ops : Array Oper} {Q : Exit → Act → World → Prop}

/-- what an operation leans on -/
def uE (fs : List (Option (Nat × VP))) (E : List (Nat × VP)) : List Nat → List (Nat × VP)
  | [] => E
  | i :: r => match fs[i]? with
    | some (some x) => x :: uE fs E r
    | _ => uE fs E r
def HeadsW (c : Cx) (E : List (Nat × VP)) (L : List Ent) {γ : Type} (K : γ → Prop) (L1 : γ → List Ent) (fs : List (Option (Nat × VP))) : List Oper → List (Option (Nat × VP)) → List (List Nat) → Prop
  | o :: os, some x :: r, u :: us => (HR c (uE fs E u) L o x.2 ∧ ∀ y, K y → HR c (uE fs E u) (L1 y) o x.2) ∧ HeadsW c E L K L1 fs os r us
  | _ :: os, none :: r, _ :: us => HeadsW c E L K L1 fs os r us
  | _, _, _ => True
theorem HeadsW.get {γ : Type} {K : γ → Prop} {L1 : γ → List Ent} {fs : List (Option (Nat × VP))} : ∀ {os : List Oper} {rs : List (Option (Nat × VP))} {us : List (List Nat)}, HeadsW c E L K L1 fs os rs us → ∀ {i : Nat} {o : Oper} {x : Nat × VP} {u : List Nat}, os[i]? = some o → rs[i]? = some (some x) → us[i]? = some u →
    HR c (uE fs E u) L o x.2 ∧ ∀ y, K y → HR c (uE fs E u) (L1 y) o x.2
  | o :: os, some x :: r, u :: us, h, 0, o', x', u', h1, h2, h3 => by
    have e1 : o = o' := by simpa using h1
    have e2 : x = x' := by simpa using h2
    have e3 : u = u' := by simpa using h3
    subst e1 e2 e3
    exact h.1
  | o :: os, some x :: r, u :: us, h, i + 1, o', x', u', h1, h2, h3 => HeadsW.get h.2 (i := i) (by simpa using h1) (by simpa using h2) (by simpa using h3)
  | o :: os, none :: r, u :: us, h, 0, o', x', u', h1, h2, h3 => by simp at h2
  | o :: os, none :: r, u :: us, h, i + 1, o', x', u', h1, h2, h3 => by
    have h : HeadsW c E L K L1 fs os r us := h
    exact HeadsW.get h (i := i) (by simpa using h1) (by simpa using h2) (by simpa using h3)
  | [], _, _, _, i, _, _, _, h1, _, _ => by simp at h1
  | _ :: _, [], _, _, i, _, _, _, _, h2, _ => by simp at h2
  | _ :: _, _ :: _, [], _, i, _, _, _, _, _, h3 => by simp at h3

end
end Gv

namespace Gv
open Go
set_option linter.unusedVariables false
set_option linter.unusedSimpArgs false

/-- the next of n places, whichever has not been met; none: all have been -/
def Nx (n : Nat) (vis : List Nat) : Option Nat → Prop
  | none => ∀ j, j < n → j ∈ vis
  | some j => j < n ∧ j ∉ vis
def Wm.next (n : Nat) (vis : List Nat) : Wm (Option Nat) := fun R => ∀ j, Nx n vis j → R j
structure Es (es : Array MapEntry) (clock n : Nat) : Prop where
  size : es.size = n
  born : ∀ x ∈ es.toList, x.born < clock
  nodup : (es.toList.map MapEntry.born).Nodup

/-- contents, and the very object -/
def CP.and (cp : CP) (o : Obj) : CP where
  holds A W x := cp.holds A W x ∧ x = o
  nilOk := cp.nilOk
  mono e h := ⟨cp.mono e h.1, h.2⟩
section
variable {c : Cx} {E : List (Nat × VP)} {L : List Ent} {ops : Array Oper} {Q : Exit → Act → World → Prop}
variable {d : Option Tmp} {ty : TypeId} {pos : String} {af : Array Edge} {g : Option (Nat × Bool)} {x y z : Operand} {t t2 : TypeId}
variable {κ : Type} [Cl κ] {hp : Pool κ} {loc : List Ent}

theorem St.swap {L' : List Ent} {a : Act} {W : World} (h : St c E L a W) (hk : ks L' = ks L) (ho : ∀ e ∈ L', e.ok (ks L ++ c.A0) W) : St c E L' a W :=
  { defers := h.defers
    size := h.size
    env := by rw [hk]; exact h.env
    fr := h.fr
    own := by rw [hk]; exact ho
    nodup := by rw [hk]; exact h.nodup
    lt := by rw [hk]; exact h.lt
    mine := by rw [hk]; exact h.mine
    old := by rw [hk]; exact h.old }
theorem Kvs.get {α β : Type} [Rp α] [Rp β] {A W} : ∀ {es : List MapEntry} {kv : List (α × β)}, Kvs A W es kv → ∀ {j : Nat} {x : α × β}, kv[j]? = some x → ∃ e, es[j]? = some e ∧ (VP.of x.1).holds A W e.key ∧ (VP.of x.2).holds A W e.val
  | _, _, .nil, j, x, h => by simp at h
  | _, _, .cons h1 h2 r, 0, x, h => by
    have h : some _ = some x := h
    cases h
    exact ⟨_, rfl, h1, h2⟩
  | _, _, .cons h1 h2 r, j + 1, x, h => by
    obtain ⟨e, g1, g2⟩ := r.get (j := j) (by simpa using h)
    exact ⟨e, by simpa using g1, g2⟩

end
end Gv

namespace Gv
open Go
set_option linter.unusedVariables false
set_option linter.unusedSimpArgs false

/-! ### Several operations that make new blocks, one behind another -/
theorem Wm.hd {α ρ : Type} {m : Wm α} {k : α → Wm ρ} {R : ρ → Prop} (h : Wm.bind m k R) : m (fun a => k a R) := h

/-! ### Pointers kept as data, to what nobody writes any more -/
structure Pt (α : Type) where
  p : Option α
  deriving DecidableEq, Inhabited
instance instRpPt {α : Type} [Rp α] : Rp (Pt α) where
  size := 1
  agg := false
  rep A W cs x := match x.p with
    | none => cs = [.pointer none]
    | some y => ∃ v, cs = [v] ∧ (VP.ptr y).holds A W v
  len {A W cs x} h := by
    rcases x with ⟨_ | y⟩
    · have h : cs = _ := h; rw [h]; rfl
    · obtain ⟨v, h, _⟩ := h; rw [h]; rfl
  one {A W cs x} h := by
    intro u hu
    rcases x with ⟨_ | y⟩
    · have h : cs = _ := h; rw [h] at hu; rw [List.mem_singleton.1 hu]; rfl
    · obtain ⟨v, h, b, off, cur, T, fz, rfl, _⟩ := h; rw [h] at hu; rw [List.mem_singleton.1 hu]; rfl
  flat _ := rfl
  mono {A W A' W' cs x} e h := by
    rcases x with ⟨_ | y⟩
    · exact h
    · obtain ⟨v, h, h2⟩ := h; exact ⟨v, h, VP.mono _ e h2⟩
instance {α : Type} [Rp α] : Zc (Pt α) := ⟨[.pointer none], fun _ _ => rfl⟩
/-! ### Functions kept as data -/
/-- a function value that is called: it does what MeetsO says of a function -/
structure MeetsU (P : Program) (τ : VP) (τs : List VP) (Lin : List Ent) {δ : Type} (ρ : δ → VP) (Lo : δ → List Ent) : Prop where
  go : ∀ (A : List Nat) (W : World) (u : Value) (vs : List Value), (∀ k ∈ A, k < W.heap.size ∧ k ∉ ks Lin) → (ks Lin).Nodup → (∀ k ∈ ks Lin, k < W.heap.size) → (∀ e ∈ Lin, e.ok (ks Lin ++ A) W) → HoldsAll (ks Lin ++ A) W (τ :: τs) (u :: vs) →
    ∃ (f : FuncId) (lb : List Value), u = .func (.func f) #[] lb.toArray ∧ En P f ∧ Calls P f (vs ++ lb).toArray W (PostO (ks Lin) A W ρ Lo)
theorem MeetsU.of {P : Program} {f : FuncId} {τ : VP} {τcs τs : List VP} {Lin : List Ent} {δ : Type} {ρ : δ → VP} {Lo : δ → List Ent} (en : En P f) (hτ : ∀ A W u, τ.holds A W u → (VP.clo f τcs).holds A W u)
    (h : MeetsO P f (τs ++ τcs) Lin ρ Lo) : MeetsU P τ τs Lin ρ Lo where
  go A W u vs h1 h2 h3 h4 h5 := by
    cases h5 with
    | cons h6 h7 =>
      obtain ⟨lb, rfl, h8⟩ := hτ _ _ _ h6
      exact ⟨f, lb, rfl, en, h A W (vs ++ lb) h1 h2 h3 h4 (h7.append h8)⟩

section
variable {c : Cx} {E : List (Nat × VP)} {L : List Ent} {ops : Array Oper} {Q : Exit → Act → World → Prop}
variable {d : Option Tmp} {ty : TypeId} {pos : String} {af : Array Edge} {g : Option (Nat × Bool)} {x y z : Operand} {t t2 : TypeId}

variable {κ : Type} [Cl κ] {hp : Pool κ}
/-! ### An object with a row, in the pool -/
theorem pmem1 {p n : Nat} {k : κ} {e : Ent} {es : List Ent} (hL : L.drop n = Ents hp) (h : pat hp p = some k) (hk : Cl.ents p k = e :: es) : e ∈ L := by
  obtain ⟨R, h1, _⟩ := pool_open h
  rw [hk] at h1
  have : e ∈ L.drop n := by rw [hL]; exact h1.mem_iff.2 (by simp)
  exact List.mem_of_mem_drop this
theorem r_loadMX {x : Operand} {t : TypeId} {p o : Nat} {β γ : Type} [Rp β] [Rp γ] {b : β} {os : List (Nat × Value)} (l : Lens β γ) {r : γ} (tt : Ty c.P t γ) (hx : Look c E L x (.eq (.pointer (some ⟨p, o, none⟩))))
    (hm : (⟨some p, .varX b os⟩ : Ent) ∈ L) (ho : o = l.off) (hr : l.get b = r) (ha : apartB os l.off (Rp.size γ) = true) : HR c E L ⟨d, .load t x, ty, pos, af, g⟩ (.of r) := by
  obtain ⟨i, hi⟩ := List.mem_iff_getElem?.1 hm
  exact r_loadX (i := i) l tt hx hi ho hr ha
end

/-! ### A scope without jumps -/
section
variable {P : Program} {b : Frame} {a : Act} {k : List Item} {cs : List Frame} {w : World} {Q : Exit → Act → World → Prop} {F : Fence} {n : Nat}
end
section
variable {c : Cx} {E : List (Nat × VP)} {L : List Ent} {Q : Exit → Act → World → Prop}
end

section
variable {c : Cx} {E : List (Nat × VP)} {L : List Ent}
end

/-! ### Shorter words -/

/-- a pointer to the beginning of a block -/
abbrev VP.pb (p : Nat) : VP := .eq (.pointer (some ⟨p, 0, none⟩))
/-- a variable -/
abbrev vr {α : Type} [Rp α] (p : Nat) (x : α) : Ent := ⟨some p, .var x⟩
/-- the first entries, spelled out -/
inductive NT : Nat → List Ent → List Ent → Prop
  | nil {L : List Ent} : NT 0 L []
  | cons {n : Nat} {e : Ent} {r s : List Ent} : NT n r s → NT (n + 1) (e :: r) (e :: s)
/-- the same entries, spelled out; behind them a pool -/
inductive NP : List Ent → List Ent → Prop
  | nil : NP [] []
  | ents {κ : Type} [Cl κ] {hp : Pool κ} : NP (Ents hp) (Ents hp)
  | rf {l : List Ent} : NP l l
  | cons {e e' : Ent} {r s : List Ent} : e = e' → NP r s → NP (e :: r) (e' :: s)
theorem NP.eq : ∀ {l m : List Ent}, NP l m → l = m
  | _, _, .nil => rfl
  | _, _, @NP.ents _ _ _ => rfl
  | _, _, .rf => rfl
  | _, _, .cons h1 h => by rw [h.eq, h1]
section
variable {c : Cx} {E : List (Nat × VP)} {L : List Ent} {ops : Array Oper} {Q : Exit → Act → World → Prop} {x : Operand}
theorem Sq.nL {l : List Oper} {L2 : List Ent} (k : Sq c ops Q l E L2) (h : NP L L2 := by repeat (first | exact NP.ents | exact NP.nil | (apply NP.cons; (first | (dsimp only; exact rfl) | exact rfl)) | exact NP.rf)) : Sq c ops Q l E L := .eqL h.eq k
theorem To.nL {z : Exit} {L2 : List Ent} (k : To c Q z E L2) (h : NP L L2 := by repeat (first | exact NP.ents | exact NP.nil | (apply NP.cons; (first | (dsimp only; exact rfl) | exact rfl)) | exact NP.rf)) : To c Q z E L := .eqL h.eq k
theorem AnyS.s1 {f : Nat} {listed : Array Bool} {o : Oper} (i : Nat) (h : Sq c ops (QK (wpAnyIn c.F 9 c.P .any ops Q f (listed.setIfInBounds i true)) Q) [o] E L) (ho : ops[i]? = some o := by rfl) (hr : Region.ready .any ops listed = [i] := by kernel_rfl) : AnyS c ops Q (f + 1) listed E L := .step [i] hr rfl ⟨⟨o, ho, h⟩, trivial⟩
theorem AnyS.s2 {f : Nat} {listed : Array Bool} {o o2 : Oper} (i j : Nat) (h : Sq c ops (QK (wpAnyIn c.F 9 c.P .any ops Q f (listed.setIfInBounds i true)) Q) [o] E L) (h2 : Sq c ops (QK (wpAnyIn c.F 9 c.P .any ops Q f (listed.setIfInBounds j true)) Q) [o2] E L)
    (ho : ops[i]? = some o := by rfl) (ho2 : ops[j]? = some o2 := by rfl) (hr : Region.ready .any ops listed = [i, j] := by kernel_rfl) : AnyS c ops Q (f + 1) listed E L := .step [i, j] hr rfl ⟨⟨o, ho, h⟩, ⟨o2, ho2, h2⟩, trivial⟩
theorem Qcw {α : Type} {b : Bool} {m n : Wm α} {R : α → Prop} {y z : Code} (h : cond b m n R) (ht : m R → Wp c Q y E L) (hf : n R → Wp c Q z E L) (hl : Look c E L x (.of b) := by first | exact look_t rfl | exact look_bool _) : Wp c Q (.cond x y z) E L :=
  .cond hl (fun hb => ht (wcond_t hb h)) (fun hb => hf (wcond_f hb h))
end
/-- an operation that only changes an entry -/
def Hs (up rd wr : List Nat) (e : (Nat → Hid) → Ent) : Hd := ⟨none, up, rd, wr, fun _ => .any, fun hd _ => e hd⟩
section
variable {c : Cx} {E : List (Nat × VP)} {L : List Ent} {ops : Array Oper} {Q : Exit → Act → World → Prop} {hs : List Hd} {i : Nat} {up rd : List Nat} {o : Oper} {dd : Nat}
theorem Du {τ : VP} (h : ∀ {hd : Nat → Hid} {E' : List (Nat × VP)} {L' : List Ent}, (∀ t τ, look (heD hd hs E up) t = some τ → look E' t = some τ) → (∀ j e, (Lf (fun _ => true) hd 0 (hs.take i) L)[j]? = some e → rd.contains j = true → L'[j]? = some e) → HR c E' L' o τ)
    (hg : o.guard = none := by rfl) (hd : o.dst = some dd := by rfl) (hn : Nat.blt dd c.n = true := by rfl) : HeadD c ops Q hs E L i o (Hp dd up rd τ) := Dv (fun _ _ _ a b => h a b) hg hd hn
theorem Hu {τ : VP} {hyp : List Ent → Prop} (h : ∀ {L'}, hyp L' → HR c E L' o τ) (hg : o.guard = none := by rfl) : ∀ L', hyp L' → HO c ops E L' o τ := fun L' hL => .v (h hL) hg
end
/-! ### Regions whose first operations only look -/

/-- heads that only look -/
def mkH : List (Option Nat) → List (List Nat) → List VP → List Hd
  | s :: ss, d :: ds, τ :: ts => ⟨s, d, [], [], fun _ => τ, fun _ _ => ⟨none, .dead⟩⟩ :: mkH ss ds ts
  | _, _, _ => []
def datV : List (Option Nat) → List (List Nat) → List (Option Nat × List Nat × List Nat × List Nat)
  | s :: ss, d :: ds => (s, d, [], []) :: datV ss ds
  | _, _ => []
def zipV (E : List (Nat × VP)) : List (Option Nat) → List (List Nat) → List VP → List (Nat × VP)
  | s :: ss, _ :: ds, τ :: ts => addE s τ (zipV E ss ds ts)
  | _, _, _ => E
def slB : List Oper → List (Option Nat) → Nat → Bool
  | [], [], _ => true
  | o :: os, some s :: ss, n => (match o.dst with | some t => Nat.beq t s | none => false) && Nat.blt s n && slB os ss n
  | _, _, _ => false
section
variable {c : Cx} {E : List (Nat × VP)} {L : List Ent} {ops : Array Oper} {Q : Exit → Act → World → Prop}
def HeadsV (c : Cx) (ops : Array Oper) (E : List (Nat × VP)) (L : List Ent) (hs : List Hd) : List Oper → List (Option Nat) → List (List Nat) → List VP → Prop
  | o :: os, _ :: ss, d :: ds, τ :: ts => (∀ L' : List Ent, (∀ (j : Nat) (e : Ent), L[j]? = some e → unsto (fun _ => false) j 0 [] = true → L'[j]? = some e) → HO c ops (heD (fun _ _ => none) hs E d) L' o τ) ∧ HeadsV c ops E L hs os ss ds ts
  | _, [], [], [] => True
  | _, _, _, _ => False
theorem mkH_mem {h : Hd} : ∀ {ss : List (Option Nat)} {ds : List (List Nat)} {ts : List VP}, h ∈ mkH ss ds ts → h.wr = [] ∧ ∀ g g', h.τ g = h.τ g'
  | _ :: ss, _ :: ds, _ :: ts, hm => by
    rcases List.mem_cons.1 hm with rfl | hm
    · exact ⟨rfl, fun _ _ => rfl⟩
    · exact mkH_mem hm
theorem heD_mk {hd : Nat → Hid} {hs : List Hd} (hc : ∀ h ∈ hs, ∀ g g', h.τ g = h.τ g') : ∀ {d : List Nat}, heD hd hs E d = heD (fun _ _ => none) hs E d
  | [] => rfl
  | j :: r => by
    unfold heD
    cases hj : hs[j]? with
    | none => exact heD_mk hc
    | some h =>
      cases hq : h.slot with
      | none => simp only [hq]; exact heD_mk hc
      | some s => simp only [hq]; rw [hc h (List.mem_of_getElem? hj) _ (msk h.up j (fun _ _ => none)), heD_mk hc]
theorem Lf_mk {hd : Nat → Hid} : ∀ {hs : List Hd} {k : Nat} {L : List Ent}, (∀ h ∈ hs, h.wr = []) → Lf (fun _ => true) hd k hs L = L
  | [], _, _, _ => rfl
  | h :: r, k, L, hw => by
    unfold Lf
    rw [hw h List.mem_cons_self]
    exact Lf_mk fun x hx => hw x (List.mem_cons_of_mem _ hx)
theorem zipD_mk {hd : Nat → Hid} : ∀ {ss : List (Option Nat)} {ds : List (List Nat)} {ts : List VP} {k : Nat}, zipD (fun _ => true) hd E k (mkH ss ds ts) = zipV E ss ds ts
  | some s :: ss, d :: ds, τ :: ts, k => by unfold mkH zipV zipD; simp only [addE]; rw [zipD_mk]
  | none :: ss, d :: ds, τ :: ts, k => by unfold mkH zipV zipD; simp only [addE]; rw [zipD_mk]
  | [], _, _, _ => by unfold mkH zipV zipD; rfl
  | _ :: _, [], _, _ => by unfold mkH zipV zipD; rfl
  | _ :: _, _ :: _, [], _ => by unfold mkH zipV zipD; rfl
theorem Sq.ho {o : Oper} {rest : List Oper} {d : Nat} {τ : VP} {E' : List (Nat × VP)} (h : HO c ops E' L o τ) (hE : ∀ t τ, look E' t = some τ → look E t = some τ) (hd : o.dst = some d) (hn : Nat.blt d c.n = true) (k : Sq c ops Q rest ((d, τ) :: E) L) : Sq c ops Q (o :: rest) E L := fun a W s => by
  obtain ⟨h1, h2⟩ := h a W (s.less fun t τ hl => ⟨τ, hE t τ hl, fun _ _ _ h => h⟩)
  unfold Cx.wpl wpListIn
  by_cases hw : Region.wanted o (yielded ops a.tmps) = true
  · rw [if_pos hw]
    refine ((h1 hw).wpIn fun v W' ⟨f, hv⟩ => ?_)
    rw [hd]
    exact k _ _ ((s.world f).put (by simpa using hn) hv)
  · rw [if_neg hw, hd]
    exact ⟨fun _ _ => trivial, k _ _ (s.put (by simpa using hn) (h2 (by simpa using hw)))⟩
theorem HeadsV.toP {hs : List Hd} (hc : ∀ h ∈ hs, ∀ g g', h.τ g = h.τ g') : ∀ {os : List Oper} {ss : List (Option Nat)} {ds : List (List Nat)} {ts : List VP} {k n : Nat}, HeadsV c ops E L hs os ss ds ts → slB (os.take n) ss c.n = true → HeadsDP c ops Q hs E L 0 k (os.take n) (mkH ss ds ts)
  | os, [], ds, ts, k, n, _, hb => by
    cases h : os.take n with
    | nil => cases ds <;> cases ts <;> trivial
    | cons o r => rw [h] at hb; cases hb
  | [], s :: ss, ds, ts, k, n, _, hb => by rw [List.take_nil] at hb; cases hb
  | o :: os, s :: ss, ds, ts, k, 0, _, hb => by cases hb
  | o :: os, s :: ss, [], ts, k, n + 1, h, _ => h.elim
  | o :: os, s :: ss, d :: ds, [], k, n + 1, h, _ => h.elim
  | o :: os, none :: ss, d :: ds, τ :: ts, k, n + 1, h, hb => by simp [slB] at hb
  | o :: os, some s :: ss, d :: ds, τ :: ts, k, n + 1, h, hb => by
    simp only [List.take_succ_cons, slB, Bool.and_eq_true] at hb
    refine ⟨fun hdd E' L' hE _ hP => ?_, HeadsV.toP hc h.2 hb.2⟩
    have e : L' = L := hP
    subst e
    have hds : o.dst = some s := by
      have := hb.1.1
      cases hd : o.dst with
      | none => rw [hd] at this; cases this
      | some t => rw [hd] at this; rw [look_beq.1 this]
    exact Sq.ho (h.1 _ fun j e he _ => he) (fun t τ hl => hE t τ (by rw [heD_mk hc]; exact hl)) hds hb.1.2 (Sq.nil (To.fin (fun _ => none) rfl rfl))
theorem Wp.dv {rid : Nat} {l : List Oper} {es : List Nat} (hm : c.P.follows .mixedOrders = true) (n : Nat) (slots : List (Option Nat)) (deps : List (List Nat)) (ts : List VP) (hh : HeadsV c l.toArray E L (mkH slots deps ts) l slots deps ts) (ht : Sq c l.toArray Q (l.drop n) (zipV E slots deps ts) L)
    (hds : dat (mkH slots deps ts) = datV slots deps := by rfl) (hes : E.map (·.1) = es := by rfl) (hB : Gv.drawT l.toArray n (datV slots deps) es = true := by kernel_rfl) (hs : slB (l.take n) slots c.n = true := by rfl) : Wp c Q (.region rid l.toArray true) E L :=
  have hc : ∀ h ∈ mkH slots deps ts, ∀ g g', h.τ g = h.τ g' := fun h hm => (mkH_mem hm).2
  Wp.drawTP n (np := 0) hm (mkH slots deps ts) (datV slots deps) es hds hes hB (fun h hm j hj => by rw [(mkH_mem hm).1] at hj; cases hj) (HeadsV.toP hc hh hs) (fun hd => by rw [zipD_mk, Lf_mk fun h hm => (mkH_mem hm).1]; exact ht)
end
/-! ### Loops and ways that meet, ahead of a pool -/
section
variable {c : Cx} {E E1 : List (Nat × VP)} {L L1 : List Ent} {Q : Exit → Act → World → Prop} {x : Operand}
end
/-- what is known, spelled out -/
inductive NE : List (Nat × VP) → List (Nat × VP) → Prop
  | nil : NE [] []
  | cons {x : Nat × VP} {r s : List (Nat × VP)} : NE r s → NE (x :: r) (x :: s)
theorem NE.eq : ∀ {l m : List (Nat × VP)}, NE l m → l = m
  | _, _, .nil => rfl
  | _, _, .cons h => by rw [h.eq]
section
variable {c : Cx} {E E1 : List (Nat × VP)} {L : List Ent} {ops : Array Oper} {Q : Exit → Act → World → Prop}
theorem Qte {z : Exit} (k : To c Q z E1 L) (h : NE E E1 := by repeat (first | exact NE.nil | apply NE.cons)) : To c Q z E L := by rw [h.eq]; exact k
theorem Wp.eD {rid : Nat} {l : List Oper} {ds : List (Option Nat × List Nat × List Nat × List Nat)} {es : List Nat} (hm : c.P.follows .mixedOrders = true) (hs : List Hd)
    (hh : HeadsD c l.toArray Q hs E L 0 l hs) (ht : ∀ hd, To c Q .normal (zipD (fun _ => true) hd E 0 hs) (Lf (fun _ => true) hd 0 hs L))
    (hds : dat hs = ds := by rfl) (hes : E.map (·.1) = es := by rfl) (hB : Gv.drawT l.toArray l.length ds es = true := by kernel_rfl) : Wp c Q (.region rid l.toArray true) E L := .dD hm hs es hh ht hds hes hB
end
end Gv

namespace Gv
open Go
set_option linter.unusedVariables false

def memN (n : Nat) : List Nat → Bool
  | [] => false
  | m :: r => bif Nat.beq m n then true else memN n r
theorem memN_iff {n : Nat} : ∀ {l : List Nat}, memN n l = true ↔ n ∈ l
  | [] => by simp [memN]
  | m :: r => by
    unfold memN
    cases h : Nat.beq m n with
    | true => have := Nat.eq_of_beq_eq_true h; subst this; simp
    | false =>
      have hne : n ≠ m := fun e => by subst e; rw [Nat.beq_refl] at h; cases h
      simp only [cond_false, memN_iff, List.mem_cons, hne, false_or]
/-- what is known of the slots that have been filled -/
def gE (ls : Nat → Bool) (E : List (Nat × VP)) : List (Nat × Nat × VP) → List (Nat × VP)
  | [] => E
  | x :: r => bif ls x.1 then x.2 :: gE ls E r else gE ls E r
def fndN (i : Nat) : List (Nat × Nat × VP) → Option VP
  | [] => none
  | x :: r => bif Nat.beq x.1 i then some x.2.2 else fndN i r
def fnd2 (i : Nat) : List (Nat × Nat × VP) → Option (Nat × VP)
  | [] => none
  | x :: r => bif Nat.beq x.1 i then some x.2 else fnd2 i r
def dpN : List Edge → List Nat
  | [] => []
  | e :: r => bif Region.binds .any e then e.on :: dpN r else dpN r
theorem dpN_mem {d : Nat} : ∀ {l : List Edge}, d ∈ dpN l ↔ ∃ e ∈ l, Region.binds .any e = true ∧ e.on = d
  | [] => by simp [dpN]
  | e :: r => by
    unfold dpN
    cases h : Region.binds .any e with
    | true =>
      simp only [cond_true, List.mem_cons, dpN_mem]
      constructor
      · rintro (rfl | ⟨e', h1, h2, h3⟩)
        · exact ⟨e, .inl rfl, h, rfl⟩
        · exact ⟨e', .inr h1, h2, h3⟩
      · rintro ⟨e', rfl | h1, h2, h3⟩
        · exact .inl h3.symm
        · exact .inr ⟨e', h1, h2, h3⟩
    | false =>
      simp only [cond_false, dpN_mem, List.mem_cons]
      constructor
      · rintro ⟨e', h1, h2⟩; exact ⟨e', .inr h1, h2⟩
      · rintro ⟨e', rfl | h1, h2, h3⟩
        · rw [h] at h2; cases h2
        · exact ⟨e', h1, h2, h3⟩
def depN (o : Oper) : List Nat := dpN o.after.toList
def ksN (fs : List (Nat × Nat × VP)) : List Nat := fs.map (·.2.1)
structure OkN (fs : List (Nat × Nat × VP)) (E : List (Nat × VP)) : Prop where
  nd : (ksN fs).Nodup
  out : ∀ t ∈ ksN fs, look E t = none
theorem OkN.app {fs gs : List (Nat × Nat × VP)} {M : List (Nat × VP)} (h : OkN (gs ++ fs) M) : OkN fs M := ⟨by have := h.nd; unfold ksN at this; rw [List.map_append] at this; exact (List.nodup_append.1 this).2.1, fun t ht => h.out t (by unfold ksN; rw [List.map_append]; exact List.mem_append.2 (.inr ht))⟩
theorem nd_inj {α β : Type} {f : α → β} : ∀ {l : List α}, (l.map f).Nodup → ∀ {x y : α}, x ∈ l → y ∈ l → f x = f y → x = y
  | z :: r, h, x, y, hx, hy, e => by
    obtain ⟨h1, h2⟩ := List.nodup_cons.1 h
    rcases List.mem_cons.1 hx with e1 | hx
    · rcases List.mem_cons.1 hy with e2 | hy
      · rw [e1, e2]
      · exact absurd (List.mem_map.2 ⟨y, hy, by rw [← e, e1]⟩) h1
    · rcases List.mem_cons.1 hy with e2 | hy
      · exact absurd (List.mem_map.2 ⟨x, hx, by rw [e, e2]⟩) h1
      · exact nd_inj h2 hx hy e
theorem gE_iff {ls : Nat → Bool} {E : List (Nat × VP)} {t : Nat} {τ : VP} : ∀ {fs : List (Nat × Nat × VP)}, OkN fs E → (look (gE ls E fs) t = some τ ↔ (∃ i, ls i = true ∧ (i, t, τ) ∈ fs) ∨ look E t = some τ)
  | [], _ => by simp [gE]
  | x :: r, ok => by
    have h1 := List.nodup_cons.1 ok.nd
    have ih := gE_iff (ls := ls) (t := t) (τ := τ) (fs := r) ⟨h1.2, fun t ht => ok.out t (List.mem_cons_of_mem _ ht)⟩
    have hE : look E t = some τ → x.2.1 ≠ t := fun h e => by rw [← e, ok.out _ List.mem_cons_self] at h; cases h
    have hr : ∀ i, (i, t, τ) ∈ r → x.2.1 ≠ t := fun i h e => h1.1 (by show x.2.1 ∈ _; rw [e]; exact List.mem_map.2 ⟨_, h, rfl⟩)
    unfold gE
    cases hl : ls x.1 with
    | false =>
      simp only [cond_false, ih]
      refine or_congr ⟨fun ⟨i, h1, h2⟩ => ⟨i, h1, List.mem_cons_of_mem _ h2⟩, fun ⟨i, h1, h2⟩ => ?_⟩ Iff.rfl
      rcases List.mem_cons.1 h2 with e | h2
      · rw [← e, h1] at hl; cases hl
      · exact ⟨i, h1, h2⟩
    | true =>
      simp only [cond_true, look]
      cases hb : Nat.beq x.2.1 t with
      | true =>
        have e := look_beq.1 hb
        simp only [cond_true, Option.some.injEq]
        constructor
        · intro h; exact .inl ⟨x.1, hl, by rw [← e, ← h]; exact List.mem_cons_self⟩
        · rintro (⟨i, _, h2⟩ | h)
          · rcases List.mem_cons.1 h2 with e2 | h2
            · rw [← e2]
            · exact absurd e (hr i h2)
          · exact absurd e (hE h)
      | false =>
        have e : x.2.1 ≠ t := fun e => by rw [e, Nat.beq_refl] at hb; cases hb
        simp only [cond_false, ih]
        refine or_congr ⟨fun ⟨i, h1, h2⟩ => ⟨i, h1, List.mem_cons_of_mem _ h2⟩, fun ⟨i, h1, h2⟩ => ?_⟩ Iff.rfl
        rcases List.mem_cons.1 h2 with e2 | h2
        · exact absurd (by rw [← e2]) e
        · exact ⟨i, h1, h2⟩
theorem gE_up {us ls : Nat → Bool} {E : List (Nat × VP)} {t : Nat} {τ : VP} {fs : List (Nat × Nat × VP)} (hu : ∀ i, us i = true → ls i = true) (ok : OkN fs E) (h : look (gE us E fs) t = some τ) : look (gE ls E fs) t = some τ :=
  (gE_iff ok).2 (((gE_iff ok).1 h).imp (fun ⟨i, h1, h2⟩ => ⟨i, hu i h1, h2⟩) id)
theorem gE_split {ls ls' : Nat → Bool} {E : List (Nat × VP)} {i t u : Nat} {τ σ : VP} {fs : List (Nat × Nat × VP)} (hls : ∀ j, ls' j = true → ls j = true ∨ j = i) (ok : OkN fs E) (hm : (i, t, τ) ∈ fs) (hnd : (fs.map (·.1)).Nodup) (h : look (gE ls' E fs) u = some σ) : look ((t, τ) :: gE ls E fs) u = some σ := by
  simp only [look]
  cases hb : Nat.beq t u with
  | true =>
    have e := look_beq.1 hb
    subst e
    rcases (gE_iff ok).1 h with ⟨j, _, h2⟩ | h2
    · have := nd_inj ok.nd hm h2 rfl
      cases this; rfl
    · rw [ok.out t (List.mem_map.2 ⟨_, hm, rfl⟩)] at h2; cases h2
  | false =>
    refine (gE_iff ok).2 (((gE_iff ok).1 h).imp (fun ⟨j, h1, h2⟩ => ⟨j, ?_, h2⟩) id)
    rcases hls j h1 with h3 | h3
    · exact h3
    · subst h3
      have := nd_inj hnd hm h2 rfl
      cases this
      rw [Nat.beq_refl] at hb; cases hb
theorem look_app {t : Nat} {B : List (Nat × VP)} : ∀ {A : List (Nat × VP)}, look (A ++ B) t = match look A t with | some τ => some τ | none => look B t
  | [] => rfl
  | x :: r => by
    simp only [List.cons_append, look]
    cases Nat.beq x.1 t with
    | true => rfl
    | false => exact look_app
theorem gE_app {ls : Nat → Bool} {E M : List (Nat × VP)} {t : Nat} {τ : VP} {fs : List (Nat × Nat × VP)} (ok : OkN fs (M ++ E)) (h : look (gE ls (M ++ E) fs) t = some τ) : look (M ++ gE ls E fs) t = some τ := by
  have out : ∀ t ∈ ksN fs, look M t = none ∧ look E t = none := fun t ht => by
    have h := ok.out t ht
    rw [look_app] at h
    cases hM : look M t with
    | some τ => rw [hM] at h; cases h
    | none => rw [hM] at h; exact ⟨rfl, h⟩
  have ok2 : OkN fs E := ⟨ok.nd, fun t ht => (out t ht).2⟩
  rw [look_app]
  rcases (gE_iff ok).1 h with ⟨i, h1, h2⟩ | h1
  · rw [(out t (List.mem_map.2 ⟨_, h2, rfl⟩)).1]
    exact (gE_iff ok2).2 (.inl ⟨i, h1, h2⟩)
  · rw [look_app] at h1
    cases hM : look M t with
    | some σ => rw [hM] at h1; exact h1
    | none => rw [hM] at h1; exact (gE_iff ok2).2 (.inr h1)
section
variable {c : Cx} {E : List (Nat × VP)} {L : List Ent} {l : List Oper} {Q : Exit → Act → World → Prop}

structure PI (l : List Oper) (eff pe : List Nat) (ls : Array Bool) : Prop where
  size : ls.size = l.length
  eq : ∀ i, i ∈ eff → ls.getD i false = memN i pe
  dn : ∀ i o, l[i]? = some o → ls.getD i false = true → ∀ d ∈ depN o, ls.getD d false = true
def unN (l : List Oper) (ls : Array Bool) : Nat := ((List.range l.length).filter fun j => !ls.getD j false).length
/-- the region goes on from here: of the operations that do more than look those of pe have come up, and no others -/
def AnyP (c : Cx) (l : List Oper) (Q : Exit → Act → World → Prop) (eff pe : List Nat) (fs : List (Nat × Nat × VP)) (E : List (Nat × VP)) (L : List Ent) : Prop :=
  (OkN fs E ∧ ∀ x ∈ fs, memN x.1 eff = false) ∧ ∀ m ls a W, PI l eff pe ls → unN l ls ≤ m → St c (gE (fun i => ls.getD i false) E fs) L a W → wpAnyIn c.F 9 c.P .any l.toArray Q m ls a W

/-- each of these only looks -/
def LP (c : Cx) (l : List Oper) (E : List (Nat × VP)) (L : List Ent) (fs : List (Nat × Nat × VP)) : List Nat → Prop
  | [] => True
  | i :: r => (match l[i]?, fndN i fs with | some o, some τ => HO c l.toArray (gE (fun j => memN j (depN o)) E fs) L o τ | _, _ => False) ∧ LP c l E L fs r
theorem LP.get {fs : List (Nat × Nat × VP)} : ∀ {nl : List Nat}, LP c l E L fs nl → ∀ {i : Nat}, i ∈ nl → ∃ o τ, l[i]? = some o ∧ fndN i fs = some τ ∧ HO c l.toArray (gE (fun j => memN j (depN o)) E fs) L o τ
  | j :: r, h, i, hi => by
    rcases List.mem_cons.1 hi with rfl | hi
    · have h1 := h.1
      cases h2 : l[i]? with
      | none => rw [h2] at h1; exact h1.elim
      | some o =>
        cases h3 : fndN i fs with
        | none => rw [h2, h3] at h1; exact h1.elim
        | some τ => rw [h2, h3] at h1; exact ⟨o, τ, rfl, rfl, h1⟩
    · exact LP.get h.2 hi
/-- what happens where operation k comes up now -/
def EO (c : Cx) (l : List Oper) (Q : Exit → Act → World → Prop) (eff pe : List Nat) (fs : List (Nat × Nat × VP)) (E : List (Nat × VP)) (L : List Ent) (k : Nat) : Prop :=
  OkN fs E → ∀ m ls o, l[k]? = some o → PI l eff pe ls → ls.getD k false = false → (∀ d ∈ depN o, ls.getD d false = true) → unN l (ls.setIfInBounds k true) ≤ m →
    Sq c l.toArray (QK (wpAnyIn c.F 9 c.P .any l.toArray Q m (ls.setIfInBounds k true)) Q) [o] (gE (fun i => ls.getD i false) E fs) L
def EP (c : Cx) (l : List Oper) (Q : Exit → Act → World → Prop) (eff pe : List Nat) (fs : List (Nat × Nat × VP)) (E : List (Nat × VP)) (L : List Ent) : List Nat → Prop
  | [] => True
  | k :: r => EO c l Q eff pe fs E L k ∧ EP c l Q eff pe fs E L r
theorem EP.get {eff pe : List Nat} {fs : List (Nat × Nat × VP)} : ∀ {el : List Nat}, EP c l Q eff pe fs E L el → ∀ {k : Nat}, k ∈ el → EO c l Q eff pe fs E L k
  | _ :: _, h, k, hk => by
    rcases List.mem_cons.1 hk with rfl | hk
    · exact h.1
    · exact EP.get h.2 hk
/-- these have come up, as something that waits for them has -/
def fcB (l : List Oper) : List Nat → List Nat → Bool
  | _, [] => true
  | acc, i :: r => (acc.any fun k => match l[k]? with | some o => memN i (depN o) | none => false) && fcB l (i :: acc) r
theorem fcB_listed {ls : Array Bool} (hd : ∀ i o, l[i]? = some o → ls.getD i false = true → ∀ d ∈ depN o, ls.getD d false = true) : ∀ {fc acc : List Nat}, fcB l acc fc = true → (∀ k ∈ acc, ls.getD k false = true) → ∀ i ∈ fc, ls.getD i false = true
  | i :: r, acc, h, ha, j, hj => by
    simp only [fcB, Bool.and_eq_true, List.any_eq_true] at h
    obtain ⟨⟨k, hk, h1⟩, h2⟩ := h
    have hi : ls.getD i false = true := by
      cases ho : l[k]? with
      | none => rw [ho] at h1; cases h1
      | some o => rw [ho] at h1; exact hd k o ho (ha k hk) i (memN_iff.1 h1)
    rcases List.mem_cons.1 hj with rfl | hj
    · exact hi
    · exact fcB_listed hd h2 (fun k hk => by rcases List.mem_cons.1 hk with rfl | hk; exact hi; exact ha k hk) j hj
/-- these have not come up, as what they wait for has not -/
def nwB (l : List Oper) : List Nat → List Nat → Bool
  | _, [] => true
  | acc, i :: r => (match l[i]? with | some o => acc.any fun k => memN k (depN o) | none => false) && nwB l (i :: acc) r
theorem nwB_not {ls : Array Bool} (hd : ∀ i o, l[i]? = some o → ls.getD i false = true → ∀ d ∈ depN o, ls.getD d false = true) : ∀ {nw acc : List Nat}, nwB l acc nw = true → (∀ k ∈ acc, ls.getD k false = false) → ∀ i ∈ nw, ls.getD i false = false
  | i :: r, acc, h, ha, j, hj => by
    simp only [nwB, Bool.and_eq_true] at h
    obtain ⟨h1, h2⟩ := h
    have hi : ls.getD i false = false := by
      cases ho : l[i]? with
      | none => rw [ho] at h1; cases h1
      | some o =>
        rw [ho, List.any_eq_true] at h1
        obtain ⟨k, hk, h3⟩ := h1
        cases hl : ls.getD i false with
        | false => rfl
        | true => have := hd i o ho hl k (memN_iff.1 h3); rw [ha k hk] at this; cases this
    rcases List.mem_cons.1 hj with rfl | hj
    · exact hi
    · exact nwB_not hd h2 (fun k hk => by rcases List.mem_cons.1 hk with rfl | hk; exact hi; exact ha k hk) j hj

/-- these can't have come up -/
def blkG (l : List Oper) (eff pe : List Nat) : List Nat → List Nat → List Nat
  | [], acc => acc
  | i :: r, acc => blkG l eff pe r (match l[i]? with | some o => (bif (memN i eff && !memN i pe) || (depN o).any (fun d => memN d acc) then i :: acc else acc) | none => acc)
theorem blkG_not {l : List Oper} {eff pe : List Nat} {ls : Array Bool} (he : ∀ i, i ∈ eff → ls.getD i false = memN i pe) (hd : ∀ i o, l[i]? = some o → ls.getD i false = true → ∀ d ∈ depN o, ls.getD d false = true) : ∀ {is acc : List Nat}, (∀ k ∈ acc, ls.getD k false = false) → ∀ k ∈ blkG l eff pe is acc, ls.getD k false = false
  | [], acc, ha, k, hk => ha k hk
  | i :: r, acc, ha, k, hk => by
    rw [blkG] at hk
    revert hk
    generalize hacc : (match l[i]? with | some o => (bif (memN i eff && !memN i pe) || (depN o).any (fun d => memN d acc) then i :: acc else acc) | none => acc) = acc2
    intro hk
    refine blkG_not he hd (fun j hj => ?_) k hk
    rw [← hacc] at hj
    cases ho : l[i]? with
    | none => rw [ho] at hj; exact ha j hj
    | some o =>
      rw [ho] at hj
      simp only at hj
      cases hc : (memN i eff && !memN i pe) || (depN o).any (fun d => memN d acc) with
      | false => rw [hc] at hj; exact ha j hj
      | true =>
        rw [hc] at hj
        rcases List.mem_cons.1 hj with rfl | hj
        · rcases Bool.or_eq_true_iff.1 hc with h | h
          · simp only [Bool.and_eq_true, Bool.not_eq_true'] at h
            rw [he j (memN_iff.1 h.1), h.2]
          · obtain ⟨d, hdo, hda⟩ := List.any_eq_true.1 h
            cases hj2 : ls.getD j false with
            | false => rfl
            | true => have := hd j o ho hj2 d hdo; rw [ha d (memN_iff.1 hda)] at this; cases this
        · exact ha j hj
/-- what is asked of a phase: n operations, those that do more than look, those of them that have come up, others that must have, those that look and may come up now, those that do more and may -/
def phB (l : List Oper) (cn : Nat) (eff pe fc nl el : List Nat) (ks : List (Nat × Nat)) (es : List Nat) : Bool :=
  (List.range l.length).all (fun i => match l[i]? with
    | none => false
    | some o => (depN o).all (fun d => Nat.blt d i) && (bif memN i eff then memN i pe || memN i el || (depN o).any (fun d => memN d (blkG l eff pe (List.range l.length) []))
      else memN i fc || (depN o).any (fun d => memN d (blkG l eff pe (List.range l.length) [])) || (memN i nl && ks.any fun x => Nat.beq x.1 i && (match o.dst with | some t => Nat.beq t x.2 | none => false)))) &&
  fcB l pe fc && eff.all (fun i => Nat.blt i l.length) && pe.all (fun i => memN i eff) && ks.all (fun x => Nat.blt x.1 l.length) && decide (ks.map (·.2)).Nodup && (ks.map (·.1)).all (fun i => !memN i eff) && ks.all (fun x => Nat.blt x.2 cn && !memN x.2 es) && decide (ks.map (·.1)).Nodup
theorem look_none {t : Nat} : ∀ {E : List (Nat × VP)}, memN t (E.map (·.1)) = false → look E t = none
  | [], _ => rfl
  | x :: r, h => by
    simp only [List.map_cons, memN] at h
    cases hb : Nat.beq x.1 t with
    | true => rw [hb] at h; cases h
    | false => rw [hb] at h; simp only [look, hb, cond_false]; exact look_none h
theorem fndN_mem {i : Nat} {τ : VP} : ∀ {fs : List (Nat × Nat × VP)}, fndN i fs = some τ → ∃ t, (i, t, τ) ∈ fs
  | x :: r, h => by
    unfold fndN at h
    cases hb : Nat.beq x.1 i with
    | true =>
      rw [hb] at h
      have e : x.2.2 = τ := by simpa using h
      have := look_beq.1 hb
      subst this e
      exact ⟨x.2.1, List.mem_cons_self⟩
    | false => rw [hb] at h; obtain ⟨t, ht⟩ := fndN_mem h; exact ⟨t, List.mem_cons_of_mem _ ht⟩

theorem St.subE {E' : List (Nat × VP)} {a : Act} {W : World} (s : St c E L a W) (h : ∀ t τ, look E' t = some τ → look E t = some τ) : St c E' L a W := s.less fun t τ hl => ⟨τ, h t τ hl, fun _ _ _ h => h⟩
/-- one step of a phase -/
theorem AnyP.core {cn : Nat} {eff pe : List Nat} {fs : List (Nat × Nat × VP)} {ks : List (Nat × Nat)} {es : List Nat} (fc nl el : List Nat) (hL : LP c l E L fs nl) (hE : EP c l Q eff pe fs E L el)
    (hend : (∀ k ∈ eff, k ∈ pe) → To c Q .normal (gE (fun _ => true) E fs) L) (hks : fs.map (fun x => (x.1, x.2.1)) = ks) (hes : E.map (·.1) = es) (hcn : c.n = cn) (hB : phB l cn eff pe fc nl el ks es = true) : AnyP c l Q eff pe fs E L := by
  subst hks hes hcn
  simp only [phB, Bool.and_eq_true, List.all_eq_true, decide_eq_true_eq, List.map_map] at hB
  obtain ⟨⟨⟨⟨⟨⟨⟨⟨hall, hfc⟩, hel⟩, hpe⟩, hkl⟩, hnd⟩, hne⟩, hsl⟩, hni⟩ := hB
  have ok : OkN fs E := ⟨by simpa [ksN, Function.comp_def] using hnd, fun t ht => by
    obtain ⟨x, hx, rfl⟩ := List.mem_map.1 ht
    have := hsl (x.1, x.2.1) (List.mem_map.2 ⟨x, hx, rfl⟩)
    exact look_none (by simpa using this.2)⟩
  have hni : (fs.map (·.1)).Nodup := by simpa [Function.comp_def] using hni
  have hop : ∀ i, i < l.length → ∃ o, l[i]? = some o ∧ (∀ d ∈ depN o, d < i) ∧ ((bif memN i eff then memN i pe || memN i el || (depN o).any (fun d => memN d (blkG l eff pe (List.range l.length) []))
      else memN i fc || (depN o).any (fun d => memN d (blkG l eff pe (List.range l.length) [])) || (memN i nl && (fs.map fun x => (x.1, x.2.1)).any fun x => Nat.beq x.1 i && (match o.dst with | some t => Nat.beq t x.2 | none => false))) = true) := fun i hi => by
    have h := hall i (List.mem_range.2 hi)
    cases ho : l[i]? with
    | none => rw [ho] at h; cases h
    | some o =>
      rw [ho] at h
      simp only [Bool.and_eq_true, List.all_eq_true] at h
      exact ⟨o, rfl, fun d hd => by simpa using h.1 d hd, h.2⟩
  have hno : ∀ (ls : Array Bool), PI l eff pe ls → ∀ (o : Oper), (∀ d ∈ depN o, ls.getD d false = true) → (depN o).any (fun d => memN d (blkG l eff pe (List.range l.length) [])) = false := fun ls inv o hd => by
    rw [List.any_eq_false]
    intro d hdo h
    have := blkG_not inv.eq inv.dn (by simp) d (memN_iff.1 h)
    rw [hd d hdo] at this; cases this
  have hlt : ∀ (ls : Array Bool), PI l eff pe ls → ∀ i, ls.getD i false = true → i < l.length := fun ls inv i h => by
    rw [← inv.size]
    rcases Nat.lt_or_ge i ls.size with h' | h'
    · exact h'
    · simp [Array.getElem?_eq_none h'] at h
  have hdone : ∀ (ls : Array Bool) (a : Act) (W : World), PI l eff pe ls → (∀ i, i < l.length → ls.getD i false = true) → St c (gE (fun i => ls.getD i false) E fs) L a W → Region.ready .any l.toArray ls = [] ∧ Q .normal a W := fun ls a W inv h st => by
    refine ⟨?_, hend (fun k hk => ?_) a W (st.subE fun t τ hl => (gE_iff ok).2 (((gE_iff ok).1 hl).imp (fun ⟨i, _, h2⟩ => ⟨i, ?_, h2⟩) id))⟩
    · rw [List.eq_nil_iff_forall_not_mem]
      intro j hj
      obtain ⟨h1, o, ho, _⟩ := mem_ready.1 hj
      have hjl : j < l.length := by simpa using (Array.getElem?_eq_some_iff.1 ho).1
      have := getD_both h1
      rw [h j hjl] at this; cases this
    · have := inv.eq k hk
      rw [h k (by simpa using hel k hk)] at this
      exact memN_iff.1 this.symm
    · have := hkl (i, t) (List.mem_map.2 ⟨_, h2, rfl⟩)
      exact h i (by simpa using this)
  have hall2 : ∀ (ls : Array Bool), PI l eff pe ls → (∀ i, i < l.length → ls.getD i false = true) ∨ ∃ i, i < l.length ∧ ls.getD i false = false := fun ls inv => by
    by_cases h : ∃ i, i < l.length ∧ ls.getD i false = false
    · exact .inr h
    · refine .inl fun i hi => ?_
      cases hl : ls.getD i false with
      | true => rfl
      | false => exact absurd ⟨i, hi, hl⟩ h
  refine ⟨⟨ok, fun x hx => ?_⟩, fun m => ?_⟩
  · have := hne x.1 (List.mem_map.2 ⟨x, hx, rfl⟩)
    simpa using this
  induction m with
  | zero =>
    intro ls a W inv hm st
    rcases hall2 ls inv with h | ⟨i, hi, h⟩
    · exact hdone ls a W inv h st
    · have : i ∈ (List.range l.length).filter fun j => !ls.getD j false := List.mem_filter.2 ⟨List.mem_range.2 hi, by rw [h]; rfl⟩
      unfold unN at hm
      rw [List.length_eq_zero_iff.1 (Nat.le_zero.1 hm)] at this; cases this
  | succ m ih =>
    intro ls a W inv hm st
    refine ⟨fun h0 => ?_, fun i hi => ?_⟩
    · rcases hall2 ls inv with h | ⟨i, hi, h⟩
      · exact (hdone ls a W inv h st).2
      · exfalso
        have key : ∀ d i, i ≤ d → i < l.length → ls.getD i false = true := by
          intro d
          induction d with
          | zero =>
            intro i hi0 hi
            cases hl : ls.getD i false with
            | true => rfl
            | false =>
              obtain ⟨o, ho, hd, _⟩ := hop i hi
              have : i ∈ Region.ready .any l.toArray ls := mem_ready.2 ⟨getD_in (by rw [inv.size]; exact hi) hl, o, by simpa using ho, fun e he hb => by
                have := hd e.on (dpN_mem.2 ⟨e, by simpa using he, hb, rfl⟩); omega⟩
              rw [h0] at this; cases this
          | succ d ihd =>
            intro i hi0 hi
            cases hl : ls.getD i false with
            | true => rfl
            | false =>
              obtain ⟨o, ho, hd, _⟩ := hop i hi
              have : i ∈ Region.ready .any l.toArray ls := mem_ready.2 ⟨getD_in (by rw [inv.size]; exact hi) hl, o, by simpa using ho, fun e he hb => by
                have h1 := hd e.on (dpN_mem.2 ⟨e, by simpa using he, hb, rfl⟩)
                exact ihd e.on (by omega) (by omega)⟩
              rw [h0] at this; cases this
        rw [key i i (Nat.le_refl _) hi] at h; cases h
    · obtain ⟨hun, o, ho, hlisted⟩ := mem_ready.1 hi
      have hun := getD_both hun
      have ho' : l[i]? = some o := by simpa using ho
      have hil : i < l.length := (List.getElem?_eq_some_iff.1 ho').1
      have hdl : ∀ d ∈ depN o, ls.getD d false = true := fun d hd => by
        obtain ⟨e, h1, h2, rfl⟩ := dpN_mem.1 hd
        exact hlisted e (by simpa using h1) h2
      have hset : ∀ j, (ls.setIfInBounds i true).getD j false = true → ls.getD j false = true ∨ j = i := fun j hj => by
        by_cases e : i = j
        · exact .inr e.symm
        · rw [getD_set_ne false e] at hj; exact .inl hj
      have hcnt : unN l (ls.setIfInBounds i true) ≤ m := by
        have : unN l (ls.setIfInBounds i true) < unN l ls := by
          refine cnt_lt (fun j => !ls.getD j false) (fun j => !(ls.setIfInBounds i true).getD j false) i (by simp only [hun]; rfl) (by simp [inv.size, hil]) (fun j hj => ?_) l.length hil
          cases hj2 : ls.getD j false with
          | false => rfl
          | true => simp only [getD_set_true hj2] at hj; cases hj
        omega
      obtain ⟨o2, ho2, _, hcase⟩ := hop i hil
      rw [ho'] at ho2; cases ho2
      cases hie : memN i eff with
      | true =>
        rw [hie] at hcase
        simp only [cond_true, Bool.or_eq_true] at hcase
        rcases hcase with (h1 | h1) | h1
        · have := inv.eq i (memN_iff.1 hie)
          rw [hun, h1] at this; cases this
        · exact wpOp_of_list ho (EP.get hE (memN_iff.1 h1) ok m ls o ho' inv hun hdl hcnt a W st)
        · rw [hno ls inv o hdl] at h1; cases h1
      | false =>
        rw [hie] at hcase
        simp only [cond_false, Bool.or_eq_true] at hcase
        rcases hcase with (h1 | h1) | h1
        · have := fcB_listed inv.dn hfc (fun k hk => by rw [inv.eq k (memN_iff.1 (hpe k hk))]; exact memN_iff.2 hk) i (memN_iff.1 h1)
          rw [hun] at this; cases this
        · rw [hno ls inv o hdl] at h1; cases h1
        · simp only [Bool.and_eq_true, List.any_eq_true] at h1
          obtain ⟨h1, ⟨x, hx, hx1, hx2⟩⟩ := h1
          obtain ⟨y, hy, rfl⟩ := List.mem_map.1 hx
          obtain ⟨o3, τ, ho3, hf, hH⟩ := LP.get hL (memN_iff.1 h1)
          rw [ho'] at ho3; cases ho3
          obtain ⟨t, ht⟩ := fndN_mem hf
          have hyi := look_beq.1 hx1
          have := nd_inj hni hy ht hyi
          subst this
          have hdst : o.dst = some t := by
            cases hd : o.dst with
            | none => rw [hd] at hx2; cases hx2
            | some z => rw [hd] at hx2; rw [look_beq.1 hx2]
          have hn : Nat.blt t c.n = true := by
            have := hsl (i, t) hx
            simp only [Bool.and_eq_true] at this; exact this.1
          have st2 : St c (gE (fun j => memN j (depN o)) E fs) L a W := st.subE fun u σ h => gE_up (fun j hj => hdl j (memN_iff.1 hj)) ok h
          have inv2 : PI l eff pe (ls.setIfInBounds i true) := ⟨by rw [Array.size_setIfInBounds]; exact inv.size, fun k hk => (by
              rw [getD_set_ne false (fun e => by subst e; rw [memN_iff.2 hk] at hie; cases hie)]; exact inv.eq k hk), fun k ok' hok hk d hd => (by
              rcases hset k hk with h | rfl
              · exact getD_set_true (inv.dn k ok' hok h d hd)
              · rw [ho'] at hok; cases hok; exact getD_set_true (hdl d hd))⟩
          have fin : ∀ v W', Fr [] W W' → τ.holds (ks L ++ c.A0) W' v → wpAnyIn c.F 9 c.P .any l.toArray Q m (ls.setIfInBounds i true) (a.put o.dst v) W' := fun v W' f hv => by
            refine ih _ _ _ inv2 hcnt ?_
            rw [hdst]
            exact ((st.world f).put (by simpa using hn) hv).subE fun u σ h => gE_split hset ok ht hni h
          have hHO := hH a W st2
          unfold wpOpIn
          simp only [ho]
          split
          · rename_i hw
            exact OpTo.wpIn (hHO.1 hw) fun v W' ⟨f, hv⟩ => fin v W' f hv
          · rename_i hw
            exact ⟨fun _ _ => trivial, fin undef W (.refl _ _) (hHO.2 (by simpa using hw))⟩
/-- an operation that leads into another phase -/
theorem EO.of {eff pe : List Nat} {fs : List (Nat × Nat × VP)} {k : Nat} {γ : Type} (nw : γ → List (Nat × VP)) (nf : γ → List (Nat × Nat × VP)) (L' : γ → List Ent) {ks : List Nat} (S : ∀ g, AnyP c l Q eff (k :: pe) (nf g ++ fs) (nw g ++ E) (L' g))
    (h : ∀ o, l[k]? = some o → ∀ (Q2 : Exit → Act → World → Prop) (E2 : List (Nat × VP)), (∀ {t τ}, look (gE (fun j => memN j (depN o)) E fs) t = some τ → look E2 t = some τ) → (∀ g, To c Q2 .normal (nw g ++ E2) (L' g)) → Sq c l.toArray Q2 [o] E2 L)
    (hk : memN k eff = true := by rfl) (hks : ∀ g, (nf g).map (·.1) = ks := by exact fun _ => rfl) (hB : nwB l [k] ks = true := by kernel_rfl) : EO c l Q eff pe fs E L k := fun ok m ls o ho inv hun hdl hcnt => by
  refine h o ho _ _ (fun h => gE_up (fun j hj => hdl j (memN_iff.1 hj)) ok h) fun g a W st => ?_
  obtain ⟨⟨okg, hng⟩, hS⟩ := S g
  have hkl : k < ls.size := by rw [inv.size]; exact (List.getElem?_eq_some_iff.1 ho).1
  have hset : ∀ j, (ls.setIfInBounds k true).getD j false = true → ls.getD j false = true ∨ j = k := fun j hj => by
    by_cases e : k = j
    · exact .inr e.symm
    · rw [getD_set_ne false e] at hj; exact .inl hj
  refine hS m _ a W ⟨by rw [Array.size_setIfInBounds]; exact inv.size, fun j hj => ?_, fun j oj hoj hj d hd => ?_⟩ hcnt (st.subE fun t τ hl => gE_app okg.app ((gE_iff okg.app).2 (((gE_iff okg).1 hl).imp (fun ⟨i, h1, h2⟩ => ?_) id)))
  · by_cases e : k = j
    · subst e
      simp [hkl, memN]
    · rw [getD_set_ne false e, inv.eq j hj]
      show _ = bif Nat.beq k j then true else memN j pe
      cases hb : Nat.beq k j with
      | false => rfl
      | true => exact absurd (look_beq.1 hb) e
  · rcases hset j hj with h | rfl
    · exact getD_set_true (inv.dn j oj hoj h d hd)
    · rw [ho] at hoj; cases hoj; exact getD_set_true (hdl d hd)
  · have hik : i ≠ k := fun e => by have := hng _ h2; rw [e, hk] at this; cases this
    have hli := (hset i h1).resolve_right hik
    rcases List.mem_append.1 h2 with h3 | h3
    · have := nwB_not inv.dn hB (fun j hj => by rw [List.mem_singleton.1 hj]; exact hun) i (by rw [← hks g]; exact List.mem_map.2 ⟨_, h3, rfl⟩)
      rw [hli] at this; cases this
    · exact ⟨i, hli, h3⟩
/-- facts that are known already, or of operations that could not come up before -/
inductive Fk (fs : List (Nat × Nat × VP)) (ks : List Nat) : List (Nat × Nat × VP) → Prop
  | nil : Fk fs ks []
  | new {i t : Nat} {τ : VP} {r : List (Nat × Nat × VP)} : memN i ks = true → Fk fs ks r → Fk fs ks ((i, t, τ) :: r)
  | old {i t : Nat} {τ : VP} {r : List (Nat × Nat × VP)} : fnd2 i fs = some (t, τ) → Fk fs ks r → Fk fs ks ((i, t, τ) :: r)
theorem fnd2_mem {i t : Nat} {τ : VP} : ∀ {fs : List (Nat × Nat × VP)}, fnd2 i fs = some (t, τ) → (i, t, τ) ∈ fs
  | x :: r, h => by
    unfold fnd2 at h
    cases hb : Nat.beq x.1 i with
    | true =>
      rw [hb] at h
      have e : x.2 = (t, τ) := by simpa using h
      have := look_beq.1 hb
      subst this
      rw [← e]; exact List.mem_cons_self
    | false => rw [hb] at h; exact List.mem_cons_of_mem _ (fnd2_mem h)
theorem Fk.mem {fs : List (Nat × Nat × VP)} {ks : List Nat} {i t : Nat} {τ : VP} : ∀ {gs : List (Nat × Nat × VP)}, Fk fs ks gs → (i, t, τ) ∈ gs → i ∈ ks ∨ (i, t, τ) ∈ fs
  | _, .new h1 h2, hm => by
    rcases List.mem_cons.1 hm with e | hm
    · cases e; exact .inl (memN_iff.1 h1)
    · exact h2.mem hm
  | _, .old h1 h2, hm => by
    rcases List.mem_cons.1 hm with e | hm
    · cases e; exact .inr (fnd2_mem h1)
    · exact h2.mem hm
/-- an operation that leads into a phase that has been named -/
theorem EO.to {eff pe pe2 : List Nat} {fs : List (Nat × Nat × VP)} {k : Nat} {γ : Type} {fs2 : γ → List (Nat × Nat × VP)} {E2 : γ → List (Nat × VP)} {L2 : γ → List Ent} (ks : List Nat) (nw : γ → List (Nat × VP)) (S : ∀ g, AnyP c l Q eff pe2 (fs2 g) (E2 g) (L2 g))
    (h : ∀ o, l[k]? = some o → ∀ (Q2 : Exit → Act → World → Prop) (E3 : List (Nat × VP)), (∀ {t τ}, look (gE (fun j => memN j (depN o)) E fs) t = some τ → look E3 t = some τ) → (∀ g, To c Q2 .normal (nw g ++ E3) (L2 g)) → Sq c l.toArray Q2 [o] E3 L)
    (hk : memN k eff = true := by rfl) (hpe : (eff.all fun i => memN i pe2 == memN i (k :: pe)) = true := by rfl) (hF : ∀ g, Fk fs ks (fs2 g) := by intro _; repeat (first | exact Fk.nil | refine Fk.old rfl ?_ | refine Fk.new rfl ?_)) (hE : ∀ g, Le (nw g ++ E) (E2 g) := by intro _; repeat (first | exact Le.nil | refine Le.same rfl ?_))
    (hd : ∀ g, ((fs2 g).all fun x => !memN x.2.1 ((nw g).map (·.1))) = true := by exact fun _ => rfl) (hB : nwB l [k] ks = true := by kernel_rfl) : EO c l Q eff pe fs E L k := fun ok m ls o ho inv hun hdl hcnt => by
  refine h o ho _ _ (fun h => gE_up (fun j hj => hdl j (memN_iff.1 hj)) ok h) fun g a W st => ?_
  obtain ⟨⟨okg, hng⟩, hS⟩ := S g
  have hkl : k < ls.size := by rw [inv.size]; exact (List.getElem?_eq_some_iff.1 ho).1
  have hset : ∀ j, (ls.setIfInBounds k true).getD j false = true → ls.getD j false = true ∨ j = k := fun j hj => by
    by_cases e : k = j
    · exact .inr e.symm
    · rw [getD_set_ne false e] at hj; exact .inl hj
  refine hS m _ a W ⟨by rw [Array.size_setIfInBounds]; exact inv.size, fun j hj => ?_, fun j oj hoj hj d hd => ?_⟩ hcnt (st.less fun t τ hl => ?_)
  · have h2 : memN j pe2 = memN j (k :: pe) := by simpa using List.all_eq_true.1 hpe j hj
    rw [h2]
    by_cases e : k = j
    · subst e
      simp [hkl, memN]
    · rw [getD_set_ne false e, inv.eq j hj]
      show _ = bif Nat.beq k j then true else memN j pe
      cases hb : Nat.beq k j with
      | false => rfl
      | true => exact absurd (look_beq.1 hb) e
  · rcases hset j hj with h | rfl
    · exact getD_set_true (inv.dn j oj hoj h d hd)
    · rw [ho] at hoj; cases hoj; exact getD_set_true (hdl d hd)
  · rcases (gE_iff okg).1 hl with ⟨i, h1, h2⟩ | h2
    · have hik : i ≠ k := fun e => by have := hng _ h2; rw [e, hk] at this; cases this
      have hli := (hset i h1).resolve_right hik
      have hnt : look (nw g) t = none := look_none (by simpa using List.all_eq_true.1 (hd g) _ h2)
      refine ⟨τ, ?_, fun _ _ _ h => h⟩
      rw [look_app, hnt]
      rcases (hF g).mem h2 with h3 | h3
      · have := nwB_not inv.dn hB (fun j hj => by rw [List.mem_singleton.1 hj]; exact hun) i h3
        rw [hli] at this; cases this
      · exact (gE_iff ok).2 (.inl ⟨i, hli, h3⟩)
    · obtain ⟨τ', h3, h4⟩ := (hE g).look t τ h2
      refine ⟨τ', ?_, h4⟩
      rw [look_app] at h3 ⊢
      cases hn : look (nw g) t with
      | some σ => rw [hn] at h3; exact h3
      | none => rw [hn] at h3; exact (gE_iff ok).2 (.inr h3)
/-- a phase that others follow -/
theorem AnyP.mid {cn : Nat} {eff pe : List Nat} {fs : List (Nat × Nat × VP)} {ks : List (Nat × Nat)} {es : List Nat} (fc nl el : List Nat) (hL : LP c l E L fs nl) (hE : EP c l Q eff pe fs E L el) (hn : eff.all (fun k => memN k pe) = false := by rfl)
    (hks : fs.map (fun x => (x.1, x.2.1)) = ks := by rfl) (hes : E.map (·.1) = es := by rfl) (hcn : c.n = cn := by rfl) (hB : phB l cn eff pe fc nl el ks es = true := by kernel_rfl) : AnyP c l Q eff pe fs E L :=
  .core fc nl el hL hE (fun h => absurd (show eff.all (fun k => memN k pe) = true from List.all_eq_true.2 fun k hk => memN_iff.2 (h k hk)) (by rw [hn]; simp)) hks hes hcn hB
/-! ### What follows in order behind operations that draw theirs -/
theorem uponIn_qk {F : Fence} {n : Nat} {P : Program} {o : Oper} {a : Act} {next : Act → World → Prop} {K : Act → World → Prop} {Q : Exit → Act → World → Prop} : ∀ {r : Result Next}, o.uponIn F n P a next Q r → o.uponIn F n P a next (QK K Q) r := fun {r} h => by
  cases r with
  | ok x w =>
    cases x <;> simp only [Oper.uponIn] at h ⊢ <;> first
      | exact h
      | exact ⟨h.1, CallsIn.mono h.2 (fun e w'' he => by cases e <;> exact he)⟩
      | exact ⟨h.1, RoundIn.mono h.2 (fun e w'' he => by cases e <;> exact he)⟩
  | halt x w => cases x <;> simp only [Oper.uponIn] at h ⊢ <;> exact h
theorem wpl_qk {F : Fence} {n : Nat} {P : Program} {ops : Array Oper} {Q : Exit → Act → World → Prop} {o : Oper} {rest : List Oper} {a : Act} {w : World} {K : Act → World → Prop} (hK : ∀ a w, wpListIn F n P ops Q rest a w → K a w) (h : wpListIn F n P ops Q (o :: rest) a w) : wpListIn F n P ops (QK K Q) [o] a w := by
  unfold wpListIn at h ⊢
  split
  · rename_i hw
    rw [if_pos hw] at h
    have h := Oper.wpIn_mono hK h
    exact ⟨h.1, uponIn_qk h.2⟩
  · rename_i hw
    rw [if_neg hw] at h
    exact ⟨h.1, hK _ _ h.2⟩
theorem anyIn_of_seq {F : Fence} {n : Nat} {P : Program} {md : Region.Mode} {ops : Array Oper} {Q' : Exit → Act → World → Prop} : ∀ (l : List Oper) (k m : Nat) (listed : Array Bool) (a : Act) (w : World), (∀ j, l[j]? = ops[k + j]?) →
    Region.seqB md ops l.length k listed = true → l.length ≤ m → wpListIn F n P ops Q' l a w → wpAnyIn F n P md ops Q' m listed a w
  | [], _, 0, _, _, _, _, hB, _, h => ⟨by simpa [Region.seqB] using hB, h⟩
  | [], _, m + 1, _, _, _, _, hB, _, h => ⟨fun _ => h, fun i hi => by rw [show Region.ready md ops _ = [] by simpa [Region.seqB] using hB] at hi; cases hi⟩
  | o :: l, k, m + 1, listed, a, w, hl, hB, hm, h => by
    have h0 : ops[k]? = some o := by simpa using (hl 0).symm
    simp only [List.length_cons, Region.seqB, Bool.and_eq_true, decide_eq_true_eq] at hB
    refine ⟨fun h1 => (by rw [hB.1] at h1; cases h1), fun i hi => ?_⟩
    rw [hB.1] at hi
    have hik : i = k := by simpa using hi
    subst hik
    have hw : wpOpIn F n P ops Q' i (wpListIn F n P ops Q' l) a w := by unfold wpOpIn; simp only [h0]; exact h
    exact wpOpIn_mono (fun a' w' h' => anyIn_of_seq l (i + 1) m _ a' w' (fun j => by have := hl (j + 1); simpa [Nat.add_assoc, Nat.add_comm 1 j] using this) hB.2 (by simpa using hm) h') hw
/-- the first k have come up, of n -/
def tlA (k n : Nat) : Array Bool := ((List.range n).map fun i => Nat.blt i k).toArray
theorem EO.tail {eff pe : List Nat} {fs : List (Nat × Nat × VP)} {k : Nat} (fc : List Nat) (h : Sq c l.toArray Q (l.drop k) (gE (fun _ => true) E fs) L) (hfk : (fs.all fun x => Nat.blt x.1 k) = true := by rfl)
    (hB : (fcB l [k] fc && (List.range k).all (fun i => memN i fc) && nwB l [k] ((List.range (l.length - (k + 1))).map (· + (k + 1)))) = true := by kernel_rfl) (hs : Region.seqB .any l.toArray (l.length - (k + 1)) (k + 1) (tlA (k + 1) l.length) = true := by kernel_rfl) : EO c l Q eff pe fs E L k := fun ok m ls o ho inv hun hdl hcnt => by
  simp only [Bool.and_eq_true, List.all_eq_true] at hB
  obtain ⟨⟨hfc, hall⟩, hnw⟩ := hB
  have hkl : k < l.length := (List.getElem?_eq_some_iff.1 ho).1
  have hdn : ∀ i o', l[i]? = some o' → (ls.setIfInBounds k true).getD i false = true → ∀ d ∈ depN o', (ls.setIfInBounds k true).getD d false = true := fun i o' hi hj d hd => by
    by_cases e : k = i
    · subst e
      rw [ho] at hi; cases hi
      exact getD_set_true (hdl d hd)
    · rw [getD_set_ne false e] at hj
      exact getD_set_true (inv.dn i o' hi hj d hd)
  have hlow : ∀ i, i < k → (ls.setIfInBounds k true).getD i false = true := fun i hi => fcB_listed hdn hfc (fun j hj => by rw [List.mem_singleton.1 hj]; simp [inv.size, hkl]) i (memN_iff.1 (hall i (List.mem_range.2 hi)))
  have hset : ls.setIfInBounds k true = tlA (k + 1) l.length := by
    apply Array.ext
    · simp [tlA, inv.size]
    · intro i h1 h2
      have hil : i < l.length := by simpa [tlA] using h2
      have hg : (ls.setIfInBounds k true)[i] = (ls.setIfInBounds k true).getD i false := by
        rw [Array.getD_eq_getD_getElem?, Array.getElem?_eq_getElem h1]; rfl
      rw [hg]
      simp only [tlA, List.getElem_toArray, List.getElem_map, List.getElem_range]
      rcases Nat.lt_trichotomy i k with hlt | rfl | hgt
      · rw [hlow i hlt]
        exact (Nat.ble_eq_true_of_le (by omega : i + 1 ≤ k + 1)).symm
      · have : Nat.blt i (i + 1) = true := Nat.ble_eq_true_of_le (Nat.le_refl _)
        rw [this]
        simp [inv.size, hil]
      · rw [getD_set_ne false (Nat.ne_of_lt hgt), nwB_not inv.dn hnw (fun j hj => by rw [List.mem_singleton.1 hj]; exact hun) i (List.mem_map.2 ⟨i - (k + 1), List.mem_range.2 (by omega), by omega⟩)]
        cases hb : Nat.blt i (k + 1) with
        | false => rfl
        | true => have := Nat.le_of_ble_eq_true hb; omega
  have hcnt2 : (l.drop (k + 1)).length ≤ m := by
    refine Nat.le_trans ?_ hcnt
    rw [hset]
    unfold unN
    have hr : List.range l.length = List.range (k + 1) ++ (List.range (l.length - (k + 1))).map ((k + 1) + ·) := by
      rw [← List.range_add]; congr 1; omega
    have hf : ((List.range (l.length - (k + 1))).map ((k + 1) + ·)).filter (fun j => !(tlA (k + 1) l.length).getD j false) = (List.range (l.length - (k + 1))).map ((k + 1) + ·) := by
      refine List.filter_eq_self.2 fun x hx => ?_
      obtain ⟨y, hy, rfl⟩ := List.mem_map.1 hx
      have hy := List.mem_range.1 hy
      rw [Array.getD_eq_getD_getElem?, Array.getElem?_eq_getElem (by simp [tlA]; omega)]
      simp only [tlA, List.getElem_toArray, List.getElem_map, List.getElem_range, Option.getD_some]
      cases hb : Nat.blt (k + 1 + y) (k + 1) with
      | false => rfl
      | true => have := Nat.le_of_ble_eq_true hb; omega
    rw [hr, List.filter_append, List.length_append, hf]
    simp
  have hd : l.drop k = o :: l.drop (k + 1) := by rw [List.drop_eq_getElem_cons hkl]; congr 1; exact (List.getElem?_eq_some_iff.1 ho).2
  rw [hd] at h
  intro a W st
  refine wpl_qk (fun a' W' h' => ?_) (show c.wpl l.toArray Q (o :: l.drop (k + 1)) a W from h a W (st.subE fun t τ hl => (gE_iff ok).2 (((gE_iff ok).1 hl).imp (fun ⟨i, _, h2⟩ => ⟨i, ?_, h2⟩) id)))
  · rw [hset]
    exact anyIn_of_seq (l.drop (k + 1)) (k + 1) m _ a' W' (fun j => by simp) (by simpa using hs) hcnt2 h'
  · have hik : i < k := by have := List.all_eq_true.1 hfk _ h2; exact Nat.le_of_ble_eq_true this
    have := hlow i hik
    rw [getD_set_ne false (by omega)] at this
    exact this
end
end Gv

