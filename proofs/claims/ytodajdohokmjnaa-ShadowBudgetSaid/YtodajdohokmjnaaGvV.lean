/-
  The library of the decompiler, part V: a region that draws its order, head by head: each operation is shown once, for whatever has come up beside what it waits for. Conditions: none; it is about whatever program.
-/
import Derived.Test.YtodajdohokmjnaaGvU
namespace Gv
open Go
set_option linter.unusedVariables false
set_option linter.unusedSimpArgs false

/-- what is hidden of an operation's effect: addresses, capacities -/
abbrev Hid := Nat → Option Nat
def gm (l : List (Option Nat)) : Hid := fun i => (l[i]?).getD none

/-- an operation of the region: the slot it fills, the operations that have come up ahead of it, the entries it leans on and those it leaves, its value -/
structure Hd where
  slot : Option Nat
  up : List Nat
  rd : List Nat
  wr : List Nat
  τ : (Nat → Hid) → VP
  ent : (Nat → Hid) → Nat → Ent

/-- what operation i knows of what is hidden: its own, and what those have left that came up ahead of it -/
def msk (up : List Nat) (i : Nat) (hd : Nat → Hid) : Nat → Hid := fun j => bif Nat.beq j i || up.any (fun k => Nat.beq k j) then hd j else fun _ => none
def upd (hd : Nat → Hid) (i : Nat) (x : Hid) : Nat → Hid := fun j => bif Nat.beq j i then x else hd j
theorem msk_congr {up : List Nat} {i : Nat} {hd hd' : Nat → Hid} (h : hd i = hd' i) (h' : ∀ k ∈ up, hd k = hd' k) : msk up i hd = msk up i hd' := by
  funext j
  unfold msk
  cases h1 : Nat.beq j i
  · cases h2 : up.any (fun k => Nat.beq k j)
    · rfl
    · obtain ⟨k, hk, he⟩ := List.any_eq_true.1 h2
      have := look_beq.1 he
      subst this
      simp only [Bool.false_or, cond_true]
      exact h' k hk
  · have := look_beq.1 h1
    subst this
    simp only [Bool.true_or, cond_true]
    exact h

def setE : List Ent → (Nat → Ent) → List Nat → List Ent
  | L, _, [] => L
  | L, f, j :: r => setE (L.set j (f j)) f r
theorem setE_length : ∀ {L : List Ent} {f : Nat → Ent} {js : List Nat}, (setE L f js).length = L.length
  | _, _, [] => rfl
  | L, f, j :: r => by rw [setE, setE_length, List.length_set]
theorem setE_get : ∀ {L : List Ent} {f : Nat → Ent} {js : List Nat} (i : Nat), (setE L f js)[i]? = if js.contains i = true then L[i]?.map (fun _ => f i) else L[i]?
  | _, _, [], i => by simp [setE]
  | L, f, j :: r, i => by
    rw [setE, setE_get i]
    by_cases h : j = i
    · subst h
      simp only [List.contains_cons, BEq.rfl, Bool.true_or, if_true, List.getElem?_set]
      by_cases hl : j < L.length
      · simp [hl]
      · simp [hl]
    · have hb : (i == j) = false := by simp; exact fun e => h e.symm
      rw [List.contains_cons, hb, Bool.false_or, List.getElem?_set_ne h]

/-- the entries, once these operations have come up -/
def Lf (ls : Nat → Bool) (hd : Nat → Hid) : Nat → List Hd → List Ent → List Ent
  | _, [], L => L
  | k, h :: r, L => Lf ls hd (k + 1) r (bif ls k then setE L (h.ent (msk h.up k hd)) h.wr else L)
/-- the slots -/
def zipD (ls : Nat → Bool) (hd : Nat → Hid) (E : List (Nat × VP)) : Nat → List Hd → List (Nat × VP)
  | _, [] => E
  | k, h :: r => match ls k, h.slot with
    | true, some s => (s, h.τ (msk h.up k hd)) :: zipD ls hd E (k + 1) r
    | _, _ => zipD ls hd E (k + 1) r

theorem Lf_length {ls : Nat → Bool} {hd : Nat → Hid} : ∀ {k : Nat} {hs : List Hd} {L : List Ent}, (Lf ls hd k hs L).length = L.length
  | _, [], _ => rfl
  | k, h :: r, L => by
    rw [Lf, Lf_length]
    cases ls k
    · rfl
    · exact setE_length

/-- entry j -/
def valD (ls : Nat → Bool) (hd : Nat → Hid) (j : Nat) : Nat → List Hd → Option Ent → Option Ent
  | _, [], v => v
  | k, h :: r, v => valD ls hd j (k + 1) r (bif ls k && h.wr.contains j then v.map (fun _ => h.ent (msk h.up k hd) j) else v)
theorem Lf_get {ls : Nat → Bool} {hd : Nat → Hid} (j : Nat) : ∀ {k : Nat} {hs : List Hd} {L : List Ent}, (Lf ls hd k hs L)[j]? = valD ls hd j k hs L[j]?
  | _, [], _ => rfl
  | k, h :: r, L => by
    rw [Lf, valD, Lf_get j]
    congr 1
    cases ls k
    · rfl
    · simp only [cond_true, Bool.true_and]
      rw [setE_get]
      cases h.wr.contains j <;> rfl
theorem valD_none {ls : Nat → Bool} {hd : Nat → Hid} {j : Nat} : ∀ {k : Nat} {hs : List Hd} {v : Option Ent}, (∀ m h, hs[m]? = some h → h.wr.contains j = true → ls (k + m) = false) → valD ls hd j k hs v = v
  | _, [], _, _ => rfl
  | k, h :: r, v, hn => by
    rw [valD, valD_none fun m x hm hx => by have := hn (m + 1) x (by simpa using hm) hx; rw [← this]; congr 1; omega]
    cases hw : h.wr.contains j
    · simp
    · have := hn 0 h rfl hw
      simp only [Nat.add_zero] at this
      rw [this]; rfl
theorem valD_append {ls : Nat → Bool} {hd : Nat → Hid} {j : Nat} : ∀ {k : Nat} {hs rs : List Hd} {v : Option Ent}, valD ls hd j k (hs ++ rs) v = valD ls hd j (k + hs.length) rs (valD ls hd j k hs v)
  | _, [], _, _ => rfl
  | k, h :: r, rs, v => by
    rw [List.cons_append, valD, valD_append, valD, List.length_cons]
    congr 1; omega
theorem valD_congr {ls ls' : Nat → Bool} {hd hd' : Nat → Hid} {j : Nat} : ∀ {k : Nat} {hs : List Hd} {v : Option Ent}, (∀ m h, hs[m]? = some h → h.wr.contains j = true → ls (k + m) = ls' (k + m) ∧ (ls (k + m) = true → msk h.up (k + m) hd = msk h.up (k + m) hd')) → valD ls hd j k hs v = valD ls' hd' j k hs v
  | _, [], _, _ => rfl
  | k, h :: r, v, hn => by
    have ih := valD_congr (ls := ls) (ls' := ls') (hd := hd) (hd' := hd') (j := j) (k := k + 1) (hs := r) (v := bif ls k && h.wr.contains j then v.map (fun _ => h.ent (msk h.up k hd) j) else v) fun m x hm hx => by
      have := hn (m + 1) x (by simpa using hm) hx
      rw [show k + 1 + m = k + (m + 1) by omega]; exact this
    rw [valD, valD, ih]
    congr 1
    cases hw : h.wr.contains j
    · simp
    · have := hn 0 h rfl hw
      simp only [Nat.add_zero] at this
      rw [← this.1]
      cases hl : ls k
      · rfl
      · rw [this.2 hl]

theorem zipD_base {ls : Nat → Bool} {hd : Nat → Hid} {E : List (Nat × VP)} {t : Nat} : ∀ {k : Nat} {hs : List Hd}, (∀ (m : Nat) (h : Hd), hs[m]? = some h → h.slot ≠ some t) → look (zipD ls hd E k hs) t = look E t
  | _, [], _ => rfl
  | k, h :: r, hn => by
    have ih := zipD_base (ls := ls) (hd := hd) (E := E) (t := t) (k := k + 1) (hs := r) fun m x hm => hn (m + 1) x (by simpa using hm)
    unfold zipD
    split
    · rename_i s h1 h2
      have hne : Nat.beq s t = false := by
        cases hb : Nat.beq s t
        · rfl
        · have := look_beq.1 hb; subst this; exact absurd h2 (hn 0 h rfl)
      simp only [look, hne, cond_false]
      exact ih
    · exact ih
theorem zipD_get {ls : Nat → Bool} {hd : Nat → Hid} {E : List (Nat × VP)} {s : Nat} : ∀ {k : Nat} {hs : List Hd} {j : Nat} {h : Hd}, hs[j]? = some h → ls (k + j) = true → h.slot = some s → (∀ m x, hs[m]? = some x → x.slot = some s → m = j) → look (zipD ls hd E k hs) s = some (h.τ (msk h.up (k + j) hd))
  | _, [], _, _, h, _, _, _ => by simp at h
  | k, x :: r, 0, h, hj, hl, hs, _ => by
    simp only [List.getElem?_cons_zero, Option.some.injEq] at hj
    subst hj
    simp only [Nat.add_zero] at hl
    unfold zipD
    rw [hl, hs]
    simp [look, Nat.beq_refl]
  | k, x :: r, j + 1, h, hj, hl, hs, hu => by
    have ih := zipD_get (ls := ls) (hd := hd) (E := E) (s := s) (k := k + 1) (hs := r) (j := j) (h := h) (by simpa using hj) (by rw [← hl]; congr 1; omega) hs fun m y hm hy => by
      have := hu (m + 1) y (by simpa using hm) hy; omega
    rw [show k + 1 + j = k + (j + 1) by omega] at ih
    unfold zipD
    split
    · rename_i s' h1 h2
      have hne : Nat.beq s' s = false := by
        cases hb : Nat.beq s' s
        · rfl
        · have := look_beq.1 hb; subst this
          have := hu 0 x rfl h2; omega
      simp only [look, hne, cond_false]
      exact ih
    · exact ih
theorem zipD_inv {ls : Nat → Bool} {hd : Nat → Hid} {E : List (Nat × VP)} {t : Nat} {τ : VP} : ∀ {k : Nat} {hs : List Hd}, look (zipD ls hd E k hs) t = some τ → (∃ (j : Nat) (h : Hd), hs[j]? = some h ∧ ls (k + j) = true ∧ h.slot = some t ∧ τ = h.τ (msk h.up (k + j) hd)) ∨ look E t = some τ
  | _, [], h => .inr h
  | k, x :: r, h => by
    unfold zipD at h
    have go : look (zipD ls hd E (k + 1) r) t = some τ → (∃ (j : Nat) (h : Hd), (x :: r)[j]? = some h ∧ ls (k + j) = true ∧ h.slot = some t ∧ τ = h.τ (msk h.up (k + j) hd)) ∨ look E t = some τ := fun h => by
      rcases zipD_inv h with ⟨j, y, h1, h2, h3, h4⟩ | h1
      · exact .inl ⟨j + 1, y, by simpa using h1, by rw [← h2]; congr 1; omega, h3, by rw [h4]; congr 2; omega⟩
      · exact .inr h1
    split at h
    · rename_i s h1 h2
      simp only [look] at h
      by_cases e : Nat.beq s t = true
      · rw [e] at h
        simp only [cond_true, Option.some.injEq] at h
        have := look_beq.1 e
        subst this
        exact .inl ⟨0, x, rfl, h1, h2, h.symm⟩
      · simp only [Bool.not_eq_true] at e
        rw [e] at h
        exact go h
    · exact go h

/-- the slots that an operation may look at -/
def heD (hd : Nat → Hid) (hs : List Hd) (E : List (Nat × VP)) : List Nat → List (Nat × VP)
  | [] => E
  | j :: r => match hs[j]? with
    | some h => match h.slot with
      | some s => (s, h.τ (msk h.up j hd)) :: heD hd hs E r
      | none => heD hd hs E r
    | none => heD hd hs E r
theorem heD_inv {hd : Nat → Hid} {hs : List Hd} {E : List (Nat × VP)} {t : Nat} {τ : VP} : ∀ {ds : List Nat}, look (heD hd hs E ds) t = some τ → (∃ j ∈ ds, ∃ h : Hd, hs[j]? = some h ∧ h.slot = some t ∧ τ = h.τ (msk h.up j hd)) ∨ look E t = some τ
  | [], h => .inr h
  | j :: r, h => by
    have go : look (heD hd hs E r) t = some τ → (∃ i ∈ j :: r, ∃ h : Hd, hs[i]? = some h ∧ h.slot = some t ∧ τ = h.τ (msk h.up i hd)) ∨ look E t = some τ := fun h => by
      rcases heD_inv h with ⟨i, h1, h2⟩ | h1
      · exact .inl ⟨i, by simp [h1], h2⟩
      · exact .inr h1
    unfold heD at h
    split at h
    · rename_i x hx
      split at h
      · rename_i s hsl
        simp only [look] at h
        by_cases e : Nat.beq s t = true
        · rw [e] at h
          simp only [cond_true, Option.some.injEq] at h
          have := look_beq.1 e
          subst this
          exact .inl ⟨j, by simp, x, hx, hsl, h.symm⟩
        · simp only [Bool.not_eq_true] at e
          rw [e] at h
          exact go h
      · exact go h
    · exact go h

/-- these slots hold this very value -/
def AllEq (E : List (Nat × VP)) (v : Value) : List Nat → Prop
  | [] => True
  | s :: r => look E s = some (.eq v) ∧ AllEq E v r
theorem AllEq.get {E : List (Nat × VP)} {v : Value} : ∀ {ss : List Nat}, AllEq E v ss → ∀ s ∈ ss, look E s = some (.eq v)
  | _ :: _, h, s, hs => by
    rcases List.mem_cons.1 hs with rfl | hs
    · exact h.1
    · exact AllEq.get h.2 s hs
def asE (τ : VP) (E : List (Nat × VP)) : List Nat → List (Nat × VP)
  | [] => E
  | s :: r => (s, τ) :: asE τ E r
theorem look_asE {τ : VP} {E : List (Nat × VP)} {t : Nat} {σ : VP} : ∀ {ss : List Nat}, look (asE τ E ss) t = some σ → (t ∈ ss ∧ σ = τ) ∨ look E t = some σ
  | [], h => .inr h
  | s :: r, h => by
    simp only [asE, look] at h
    by_cases e : Nat.beq s t = true
    · rw [e] at h
      simp only [cond_true, Option.some.injEq] at h
      have := look_beq.1 e
      subst this
      exact .inl ⟨by simp, h.symm⟩
    · simp only [Bool.not_eq_true] at e
      rw [e] at h
      rcases look_asE h with ⟨h1, h2⟩ | h1
      · exact .inl ⟨by simp [h1], h2⟩
      · exact .inr h1

def umin {w : Nat} (a b : BitVec w) : BitVec w := if a ≤ b then a else b
def addE : Option Nat → VP → List (Nat × VP) → List (Nat × VP)
  | some s, τ, E => (s, τ) :: E
  | none, _, E => E

section
variable {c : Cx} {E : List (Nat × VP)} {L : List Ent} {ops : Array Oper} {Q : Exit → Act → World → Prop}

/-- a slice of the call's own is let go, and each slot that holds it reads as a list -/
theorem St.freezeL {a : Act} {W : World} {α : Type} [Rp α] {i cap T : Nat} {ss : List Nat} {key : Option Nat} {xs : List α} (h : St c E L a W) (hl : AllEq E (slv key xs.length cap) ss) (hL : L[i]? = some ⟨key, .row T xs cap⟩) :
    St c (asE (.of xs) E ss) (L.set i ⟨none, .dead⟩) a W := by
  have hk := h.kill i
  refine { hk with env := fun t τ hlk => ?_ }
  rcases look_asE hlk with ⟨hm, rfl⟩ | h1
  · obtain ⟨v, h1, h2⟩ := h.env t _ (hl.get t hm)
    refine ⟨v, h1, of_list.2 ?_⟩
    have h2' : v = slv key xs.length cap := h2
    subst h2'
    have ho := h.own _ (List.mem_of_getElem? hL)
    cases key with
    | none => exact .inl ⟨rfl, ho.1⟩
    | some p =>
      obtain ⟨o, hob, cs, rfl, hsz, hn, hcm, hr⟩ := ho
      obtain ⟨h3, h4⟩ := reps_prefix hsz hn hr
      refine .inr ⟨p, 0, cap, cs, T, (0, 0), rfl, h.not_left hL, hob, hn, by omega, h3, ?_⟩
      have hsub := ks_set_none_sub (L := L) (i := i) (cp := .dead)
      exact h4.mono (.drop fun k hm => by
        rcases List.mem_append.1 hm with hm | hm
        · exact List.mem_append.2 (.inl (hsub.subset hm))
        · exact List.mem_append.2 (.inr hm))
  · exact hk.env t τ h1
theorem Sq.freezeL {l : List Oper} {α : Type} [Rp α] {key : Option Nat} {xs : List α} {cap T : Nat} (i : Nat) (ss : List Nat) (hl : AllEq E (slv key xs.length cap) ss) (hL : L[i]? = some ⟨key, .row T xs cap⟩)
    (k : Sq c ops Q l (asE (.of xs) E ss) (L.set i ⟨none, .dead⟩)) : Sq c ops Q l E L := fun a W st => k a W (st.freezeL hl hL)
theorem To.freezeL {x : Exit} {α : Type} [Rp α] {key : Option Nat} {xs : List α} {cap T : Nat} (i : Nat) (ss : List Nat) (hl : AllEq E (slv key xs.length cap) ss) (hL : L[i]? = some ⟨key, .row T xs cap⟩)
    (k : To c Q x (asE (.of xs) E ss) (L.set i ⟨none, .dead⟩)) : To c Q x E L := fun a W st => k a W (st.freezeL hl hL)
theorem Wp.freezeL {code : Code} {α : Type} [Rp α] {key : Option Nat} {xs : List α} {cap T : Nat} (i : Nat) (ss : List Nat) (hl : AllEq E (slv key xs.length cap) ss) (hL : L[i]? = some ⟨key, .row T xs cap⟩)
    (k : Wp c Q code (asE (.of xs) E ss) (L.set i ⟨none, .dead⟩)) : Wp c Q code E L := fun a W st => k a W (st.freezeL hl hL)

/-- operation number i, whatever has come up beside what it waits for -/
def HeadD (c : Cx) (ops : Array Oper) (Q : Exit → Act → World → Prop) (hs : List Hd) (E : List (Nat × VP)) (L : List Ent) (i : Nat) (o : Oper) (h : Hd) : Prop :=
  ∀ (hd : Nat → Hid) (E' : List (Nat × VP)) (L' : List Ent), (∀ t τ, look (heD hd hs E h.up) t = some τ → look E' t = some τ) →
    (∀ j e, (Lf (fun _ => true) hd 0 (hs.take i) L)[j]? = some e → h.rd.contains j = true → L'[j]? = some e) →
    Sq c ops (QK (fun a W => ∃ x, St c (addE h.slot (h.τ (msk h.up i (upd hd i x))) E') (setE L' (h.ent (msk h.up i (upd hd i x))) h.wr) a W) Q) [o] E' L'

def HeadsD (c : Cx) (ops : Array Oper) (Q : Exit → Act → World → Prop) (hs : List Hd) (E : List (Nat × VP)) (L : List Ent) : Nat → List Oper → List Hd → Prop
  | _, [], [] => True
  | i, o :: os, h :: r => HeadD c ops Q hs E L i o h ∧ HeadsD c ops Q hs E L (i + 1) os r
  | _, _, _ => False
theorem HeadsD.get {hs : List Hd} : ∀ {k : Nat} {os : List Oper} {rs : List Hd}, HeadsD c ops Q hs E L k os rs → ∀ i h o, rs[i]? = some h → os[i]? = some o → HeadD c ops Q hs E L (k + i) o h
  | k, [], [], _, i, h, o, hi, _ => by simp at hi
  | k, o0 :: os, h0 :: r, hh, i, h, o, hi, ho => by
    cases i with
    | zero =>
      simp only [List.getElem?_cons_zero, Option.some.injEq] at hi ho
      subst hi; subst ho; exact hh.1
    | succ i =>
      have := HeadsD.get hh.2 i h o (by simpa using hi) (by simpa using ho)
      rw [show k + 1 + i = k + (i + 1) by omega] at this
      exact this
  | k, [], _ :: _, hh, _, _, _, _, _ => hh.elim
  | k, _ :: _, [], hh, _, _, _, _, _ => hh.elim

/-- what is asked of the edges: whoever is said to have come up has; entries are read and left in order; no slot is filled twice -/
def drawD (ops : Array Oper) (hs : List (Option Nat × List Nat × List Nat × List Nat)) (E : List Nat) : Bool :=
  decide (hs.length = ops.size) && decide (hs.filterMap (·.1)).Nodup && ((hs.filterMap (·.1)).all fun s => !E.contains s) &&
  ((List.range ops.size).all fun i => match hs[i]? with
    | none => false
    | some (_, up, rd, wr) =>
      (((ops[i]?).map fun o => (o.dst == (hs[i]?).bind (·.1)) && o.after.all fun e => !Region.binds .any e || decide (e.on < i)).getD false) &&
      (up.all fun k => Region.waitsFor .any ops i k || (List.range i).any fun m => Region.waitsFor .any ops i m && ((hs[m]?).map fun h => h.2.1.contains k).getD false) &&
      ((List.range ops.size).all fun k => match hs[k]? with
        | none => true
        | some (_, upk, _, wrk) =>
          (!(decide (k < i) && wrk.any rd.contains) || up.contains k) && (!(decide (i < k) && wrk.any fun j => rd.contains j || wr.contains j) || upk.contains i)))

theorem zipD_congr {ls ls' : Nat → Bool} {hd : Nat → Hid} : ∀ {k : Nat} {hs : List Hd}, (∀ m, m < hs.length → ls (k + m) = ls' (k + m)) → zipD ls hd E k hs = zipD ls' hd E k hs
  | _, [], _ => rfl
  | k, h :: r, hn => by
    have ih := zipD_congr (ls := ls) (ls' := ls') (hd := hd) (k := k + 1) (hs := r) fun m hm => by
      have := hn (m + 1) (by simp; omega)
      rw [show k + 1 + m = k + (m + 1) by omega]; exact this
    have h0 := hn 0 (by simp)
    simp only [Nat.add_zero] at h0
    unfold zipD
    rw [h0, ih]
theorem Lf_congr {ls ls' : Nat → Bool} {hd : Nat → Hid} : ∀ {k : Nat} {hs : List Hd} {L : List Ent}, (∀ m, m < hs.length → ls (k + m) = ls' (k + m)) → Lf ls hd k hs L = Lf ls' hd k hs L
  | _, [], _, _ => rfl
  | k, h :: r, L, hn => by
    have h0 := hn 0 (by simp)
    simp only [Nat.add_zero] at h0
    rw [Lf, Lf, h0]
    exact Lf_congr fun m hm => by
      have := hn (m + 1) (by simp; omega)
      rw [show k + 1 + m = k + (m + 1) by omega]; exact this

def dat (hs : List Hd) : List (Option Nat × List Nat × List Nat × List Nat) := hs.map fun h => (h.slot, h.up, h.rd, h.wr)
theorem dat_get {hs : List Hd} {i : Nat} {h : Hd} (hi : hs[i]? = some h) : (dat hs)[i]? = some (h.slot, h.up, h.rd, h.wr) := by simp [dat, hi]

theorem drawD_core {hs : List Hd} (hB : drawD ops (dat hs) (E.map (·.1)) = true) (hh : HeadsD c ops Q hs E L 0 ops.toList hs)
    (ht : ∀ hd, To c Q .normal (zipD (fun _ => true) hd E 0 hs) (Lf (fun _ => true) hd 0 hs L)) :
    ∀ m (listed : Array Bool) (hd : Nat → Hid) (a : Act) (W : World), ((List.range ops.size).filter fun i => !listed.getD i true).length ≤ m → HeadInv .any ops ops.size listed →
      St c (zipD (fun i => listed.getD i false) hd E 0 hs) (Lf (fun i => listed.getD i false) hd 0 hs L) a W → wpAnyIn c.F 9 c.P .any ops Q m listed a W := by
  simp only [drawD, Bool.and_eq_true, decide_eq_true_eq] at hB
  obtain ⟨⟨⟨hlen0, hnd⟩, hdis⟩, hall⟩ := hB
  have hlen : hs.length = ops.size := by simpa [dat] using hlen0
  have hget : ∀ i, i < ops.size → ∃ h o, hs[i]? = some h ∧ ops[i]? = some o := fun i hi => ⟨hs[i]'(by omega), ops[i], by simp, by simp⟩
  -- what is asked of operation i
  have hcond : ∀ (i : Nat) (h : Hd) (o : Oper), hs[i]? = some h → ops[i]? = some o →
      o.dst = h.slot ∧ (∀ e ∈ o.after, Region.binds .any e = true → e.on < i) ∧
      (∀ k ∈ h.up, Region.waitsFor .any ops i k = true ∨ ∃ m, m < i ∧ Region.waitsFor .any ops i m = true ∧ ∃ x, hs[m]? = some x ∧ k ∈ x.up) ∧
      (∀ (k : Nat) (x : Hd), hs[k]? = some x → (k < i → (∃ j ∈ x.wr, h.rd.contains j = true) → k ∈ h.up) ∧ (i < k → (∃ j ∈ x.wr, h.rd.contains j = true ∨ h.wr.contains j = true) → i ∈ x.up)) := by
    intro i h o hi ho
    have hlt : i < ops.size := (Array.getElem?_eq_some_iff.1 ho).1
    have h1 := List.all_eq_true.1 hall i (List.mem_range.2 hlt)
    rw [dat_get hi] at h1
    simp only [Bool.and_eq_true] at h1
    obtain ⟨⟨h2, h3⟩, h4⟩ := h1
    simp only [ho, Option.map_some, Option.getD_some, Bool.and_eq_true, Option.bind_some, beq_iff_eq] at h2
    refine ⟨h2.1, fun e he hb => ?_, fun k hk => ?_, fun k x hx => ?_⟩
    · have := Array.all_eq_true_iff_forall_mem.1 h2.2 e he
      simp [hb] at this
      exact this
    · have := List.all_eq_true.1 h3 k hk
      simp only [Bool.or_eq_true, List.any_eq_true, Bool.and_eq_true, List.mem_range] at this
      rcases this with h5 | ⟨m, h5, h6, h7⟩
      · exact .inl h5
      · have hm : m < hs.length := by omega
        rw [dat_get (List.getElem?_eq_getElem hm)] at h7
        exact .inr ⟨m, h5, h6, hs[m], List.getElem?_eq_getElem hm, by simpa using h7⟩
    · have hkl : k < ops.size := by have := (List.getElem?_eq_some_iff.1 hx).1; omega
      have := List.all_eq_true.1 h4 k (List.mem_range.2 hkl)
      rw [dat_get hx] at this
      simp only [Bool.and_eq_true, Bool.or_eq_true, Bool.not_eq_true', Bool.and_eq_false_iff, decide_eq_false_iff_not, List.contains_iff_mem] at this
      refine ⟨fun hki ⟨j, hj, hr⟩ => ?_, fun hik ⟨j, hj, hr⟩ => ?_⟩
      · rcases this.1 with (h5 | h5) | h5
        · exact absurd hki h5
        · have := List.any_eq_false.1 h5 j hj
          exact absurd hr this
        · exact h5
      · rcases this.2 with (h5 | h5) | h5
        · exact absurd hik h5
        · have := List.any_eq_false.1 h5 j hj
          simp only [Bool.or_eq_true] at this
          exact absurd hr this
        · exact h5
  have huniq : ∀ (i j s : Nat) (x y : Hd), hs[i]? = some x → hs[j]? = some y → x.slot = some s → y.slot = some s → i = j := by
    have key : ∀ (l : List Hd), ((dat l).filterMap (·.1)).Nodup → ∀ (i j s : Nat) (x y : Hd), l[i]? = some x → l[j]? = some y → x.slot = some s → y.slot = some s → i = j := by
      intro l
      induction l with
      | nil => intro _ i j s x y h; simp at h
      | cons z r ih =>
        intro hnd i j s x y hi hj hx hy
        have hr : ((dat r).filterMap (·.1)).Nodup := by
          cases hz : z.slot with
          | none => simpa [dat, hz] using hnd
          | some w =>
            simp only [dat, List.map_cons, List.filterMap_cons, hz] at hnd
            exact (List.nodup_cons.1 hnd).2
        have hout : z.slot = some s → ∀ (q : Nat) (v : Hd), r[q]? = some v → v.slot ≠ some s := fun hz q v hq hv => by
          simp only [dat, List.map_cons, List.filterMap_cons, hz] at hnd
          exact (List.nodup_cons.1 hnd).1 (List.mem_filterMap.2 ⟨_, List.mem_map.2 ⟨v, List.mem_of_getElem? hq, rfl⟩, hv⟩)
        cases i with
        | zero =>
          simp only [List.getElem?_cons_zero, Option.some.injEq] at hi
          subst hi
          cases j with
          | zero => rfl
          | succ j => simp only [List.getElem?_cons_succ] at hj; exact absurd hy (hout hx j y hj)
        | succ i =>
          simp only [List.getElem?_cons_succ] at hi
          cases j with
          | zero =>
            simp only [List.getElem?_cons_zero, Option.some.injEq] at hj
            subst hj
            exact absurd hx (hout hy i x hi)
          | succ j => simp only [List.getElem?_cons_succ] at hj; rw [ih hr i j s x y hi hj hx hy]
    exact key hs hnd
  have hbase : ∀ (t : Nat) (τ : VP), look E t = some τ → ∀ (m : Nat) (h : Hd), hs[m]? = some h → h.slot ≠ some t := by
    intro t τ hl m h hm hs'
    have h1 := List.all_eq_true.1 hdis t (List.mem_filterMap.2 ⟨_, List.mem_map.2 ⟨h, List.mem_of_getElem? hm, rfl⟩, hs'⟩)
    have hmem : t ∈ E.map (·.1) := by
      clear hdis h1 hh ht
      induction E with
      | nil => simp [look] at hl
      | cons x r ih =>
        obtain ⟨s, σ⟩ := x
        simp only [look] at hl
        by_cases e : Nat.beq s t = true
        · have := look_beq.1 e; subst this; simp
        · simp only [Bool.not_eq_true] at e
          rw [e] at hl
          simp only [List.map_cons, List.mem_cons]
          exact .inr (ih hl)
    simp [hmem] at h1
  have hup : ∀ (listed : Array Bool), HeadInv .any ops ops.size listed → ∀ (d i : Nat), i ≤ d → ∀ (h : Hd) (o : Oper), hs[i]? = some h → ops[i]? = some o → (∀ e ∈ o.after, Region.binds .any e = true → listed.getD e.on false = true) → ∀ k ∈ h.up, listed.getD k false = true := by
    intro listed inv d
    induction d with
    | zero =>
      intro i hi h o hhi hoi hw k hk
      rcases (hcond i h o hhi hoi).2.2.1 k hk with h1 | ⟨m, hm, _⟩
      · obtain ⟨oj, hoj, e, he, hb, hon⟩ := Region.waitsFor_spec h1
        rw [hoi] at hoj; cases hoj
        rw [← hon]; exact hw e he hb
      · omega
    | succ d ih =>
      intro i hi h o hhi hoi hw k hk
      rcases (hcond i h o hhi hoi).2.2.1 k hk with h1 | ⟨m, hm, h1, x, hx, hkx⟩
      · obtain ⟨oj, hoj, e, he, hb, hon⟩ := Region.waitsFor_spec h1
        rw [hoi] at hoj; cases hoj
        rw [← hon]; exact hw e he hb
      · obtain ⟨oj, hoj, e, he, hb, hon⟩ := Region.waitsFor_spec h1
        rw [hoi] at hoj; cases hoj
        have hml := hw e he hb
        rw [hon] at hml
        obtain ⟨x2, om, hx2, hom⟩ := hget m (by have := (Array.getElem?_eq_some_iff.1 hoi).1; omega)
        exact ih m (by omega) x om hx hom (fun e he hb => inv.closed m om hom hml e he hb) k hkx
  have hdone : ∀ (listed : Array Bool) (hd : Nat → Hid) (a : Act) (W : World), (∀ i, i < ops.size → listed.getD i true = true) → HeadInv .any ops ops.size listed →
      St c (zipD (fun i => listed.getD i false) hd E 0 hs) (Lf (fun i => listed.getD i false) hd 0 hs L) a W → Region.ready .any ops listed = [] ∧ Q .normal a W := by
    intro listed hd a W hall2 inv st
    refine ⟨?_, ?_⟩
    · refine List.eq_nil_iff_forall_not_mem.2 fun i hi => ?_
      obtain ⟨h1, o, ho, _⟩ := mem_ready.1 hi
      rw [hall2 i (Array.getElem?_eq_some_iff.1 ho).1] at h1
      cases h1
    · have hl : ∀ m, m < hs.length → listed.getD (0 + m) false = true := fun m hm => by
        have h1 := hall2 m (by omega)
        have h2 : m < listed.size := by rw [inv.size]; omega
        simpa [h2] using h1
      rw [zipD_congr (ls' := fun _ => true) hl, Lf_congr (ls' := fun _ => true) hl] at st
      exact ht hd a W st
  intro m
  induction m with
  | zero =>
    intro listed hd a W hm inv st
    refine hdone listed hd a W (fun i hi => ?_) inv st
    cases h : listed.getD i true with
    | true => rfl
    | false =>
      have : i ∈ (List.range ops.size).filter fun i => !listed.getD i true := List.mem_filter.2 ⟨List.mem_range.2 hi, by rw [h]; rfl⟩
      rw [List.length_eq_zero_iff.1 (Nat.le_zero.1 hm)] at this
      cases this
  | succ m ih =>
    intro listed hd a W hm inv st
    refine ⟨fun h0 => ?_, fun i hi => ?_⟩
    · refine (hdone listed hd a W (fun i hi => ?_) inv st).2
      -- the least that has not come up would be ready
      have key : ∀ d i, i ≤ d → i < ops.size → listed.getD i true = true := by
        intro d
        induction d with
        | zero =>
          intro i hi0 hi
          cases hl : listed.getD i true with
          | true => rfl
          | false =>
            obtain ⟨h, o, hhi, ho⟩ := hget i hi
            have : i ∈ Region.ready .any ops listed := mem_ready.2 ⟨hl, o, ho, fun e he hb => by have := (hcond i h o hhi ho).2.1 e he hb; omega⟩
            rw [h0] at this; cases this
        | succ d ihd =>
          intro i hi0 hi
          cases hl : listed.getD i true with
          | true => rfl
          | false =>
            obtain ⟨h, o, hhi, ho⟩ := hget i hi
            have : i ∈ Region.ready .any ops listed := mem_ready.2 ⟨hl, o, ho, fun e he hb => by
              have h1 := (hcond i h o hhi ho).2.1 e he hb
              have h2 := ihd e.on (by omega) (by omega)
              have h3 : e.on < listed.size := by rw [inv.size]; omega
              simpa [h3] using h2⟩
            rw [h0] at this; cases this
      exact key i i (Nat.le_refl _) hi
    · obtain ⟨hun, o, ho, hlisted⟩ := mem_ready.1 hi
      have hin : i < ops.size := (Array.getElem?_eq_some_iff.1 ho).1
      obtain ⟨h, _, hhi, _⟩ := hget i hin
      have hunf : listed.getD i false = false := getD_both hun
      have hilt : i < listed.size := by rw [inv.size]; omega
      have hcnt : ((List.range ops.size).filter fun j => !(listed.setIfInBounds i true).getD j true).length ≤ m := by
        have : ((List.range ops.size).filter fun j => !(listed.setIfInBounds i true).getD j true).length < ((List.range ops.size).filter fun j => !listed.getD j true).length := by
          refine cnt_lt (fun j => !listed.getD j true) (fun j => !(listed.setIfInBounds i true).getD j true) i (by simp only [hun]; rfl) ?_ (fun j hj => ?_) ops.size hin
          · simp [hilt]
          · by_cases e : i = j
            · subst e; simp only [hun]; rfl
            · rw [getD_set_ne true e] at hj; exact hj
        omega
      have inv' := inv.set hi hin
      obtain ⟨hdst, hedges, hclos, hent⟩ := hcond i h o hhi ho
      have hupl := hup listed inv i i (Nat.le_refl _) h o hhi ho hlisted
      -- whoever comes later and leaves an entry of i's has not come up
      have hlater : ∀ (k : Nat) (x : Hd), hs[k]? = some x → i < k → (∃ j ∈ x.wr, h.rd.contains j = true ∨ h.wr.contains j = true) → listed.getD k false = false := fun k x hx hik hj => by
        have h1 := (hent k x hx).2 hik hj
        cases hk : listed.getD k false with
        | false => rfl
        | true =>
          obtain ⟨_, ok, _, hok⟩ := hget k (by have := (List.getElem?_eq_some_iff.1 hx).1; omega)
          have := hup listed inv k k (Nat.le_refl _) x ok hx hok (fun e he hb => inv.closed k ok hok hk e he hb) i h1
          rw [hunf] at this; cases this
      have hsplit : hs = hs.take i ++ h :: hs.drop (i + 1) := by
        have hil : i < hs.length := by omega
        rw [List.getElem?_eq_getElem hil] at hhi
        cases hhi
        rw [List.getElem_cons_drop]
        exact (List.take_append_drop i hs).symm
      have htl : (hs.take i).length = i := by rw [List.length_take]; omega
      have hspec := (HeadsD.get hh i h o hhi (by rw [Array.getElem?_toList]; exact ho)) 
      rw [Nat.zero_add] at hspec
      have hsq := hspec hd (zipD (fun i => listed.getD i false) hd E 0 hs) (Lf (fun i => listed.getD i false) hd 0 hs L) (fun t τ hl => ?_) (fun j e hj hr => ?_)
      · have hw := wpOp_of_list (K := fun a W => ∃ x, St c (addE h.slot (h.τ (msk h.up i (upd hd i x))) (zipD (fun i => listed.getD i false) hd E 0 hs)) (setE (Lf (fun i => listed.getD i false) hd 0 hs L) (h.ent (msk h.up i (upd hd i x))) h.wr) a W) ho (hsq a W st)
        refine wpOpIn_mono (fun a' W' ⟨x, st'⟩ => ?_) hw
        have hdo : ∀ j, j ≠ i → upd hd i x j = hd j := fun j hj => by
          have : Nat.beq j i = false := by
            cases hb : Nat.beq j i
            · rfl
            · exact absurd (look_beq.1 hb) hj
          simp only [upd, this, cond_false]
        -- those that have come up do not know of i
        have hmo : ∀ (j : Nat) (y : Hd), hs[j]? = some y → listed.getD j false = true → msk y.up j (upd hd i x) = msk y.up j hd := fun j y hy hj => by
          obtain ⟨_, oj, _, hoj⟩ := hget j (by have := (List.getElem?_eq_some_iff.1 hy).1; omega)
          refine msk_congr (hdo j fun e => by subst e; rw [hunf] at hj; cases hj) fun k hk => hdo k fun e => ?_
          have := hup listed inv j j (Nat.le_refl _) y oj hy hoj (fun e he hb => inv.closed j oj hoj hj e he hb) k hk
          subst e
          rw [hunf] at this; cases this
        have hli : (listed.setIfInBounds i true).getD i false = true := by simp [hilt]
        have hlo : ∀ j, j ≠ i → (listed.setIfInBounds i true).getD j false = listed.getD j false := fun j hj => getD_set_ne false (fun e => hj e.symm)
        refine ih _ (upd hd i x) a' W' hcnt inv' ?_
        have hLeq : Lf (fun j => (listed.setIfInBounds i true).getD j false) (upd hd i x) 0 hs L = setE (Lf (fun i => listed.getD i false) hd 0 hs L) (h.ent (msk h.up i (upd hd i x))) h.wr := by
          apply List.ext_getElem?
          intro j
          rw [Lf_get, setE_get, Lf_get]
          by_cases hj : h.wr.contains j = true
          · rw [if_pos hj]
            have e1 : ∀ (ls : Nat → Bool) (g : Nat → Hid) (v : Option Ent), (∀ k x, hs[k]? = some x → i < k → x.wr.contains j = true → ls k = false) → valD ls g j 0 hs v = (bif ls i then (valD ls g j 0 (hs.take i) v).map (fun _ => h.ent (msk h.up i g) j) else valD ls g j 0 (hs.take i) v) := fun ls g v hls => by
              conv => lhs; rw [hsplit]
              rw [valD_append, htl, Nat.zero_add, valD, hj, Bool.and_true, valD_none]
              intro k x hx hw
              rw [List.getElem?_drop] at hx
              exact hls (i + 1 + k) x hx (by omega) hw
            have hno : ∀ k x, hs[k]? = some x → i < k → x.wr.contains j = true → listed.getD k false = false := fun k x hx hik hw => hlater k x hx hik ⟨j, by simpa using hw, .inr hj⟩
            rw [e1 (fun j => (listed.setIfInBounds i true).getD j false) (upd hd i x) _ (fun k x hx hik hw => by rw [hlo k (by omega)]; exact hno k x hx hik hw), e1 (fun j => listed.getD j false) hd _ hno]
            simp only [hli, hunf, cond_true, cond_false]
            rw [valD_congr (ls' := fun j => listed.getD j false) (hd' := hd) fun q x hx _ => by
              have hq : q < i := by have := (List.getElem?_eq_some_iff.1 hx).1; omega
              rw [List.getElem?_take, if_pos hq] at hx
              rw [Nat.zero_add]
              exact ⟨hlo q (by omega), fun hl => hmo q x hx (by rw [hlo q (by omega)] at hl; exact hl)⟩]
          · rw [if_neg hj]
            refine valD_congr fun q x hx hw => ?_
            rw [Nat.zero_add]
            have hq : q ≠ i := fun e => by subst e; rw [hhi] at hx; cases hx; exact hj hw
            exact ⟨hlo q hq, fun hl => hmo q x hx (by rw [hlo q hq] at hl; exact hl)⟩
        rw [hLeq]
        refine st'.less fun t τ hl => ?_
        rcases zipD_inv hl with ⟨j, y, h1, h2, h3, h4⟩ | h1
        · rw [Nat.zero_add] at h2 h4
          by_cases hji : j = i
          · subst hji
            rw [hhi] at h1
            cases h1
            exact ⟨τ, by rw [h3, h4]; simp [addE, look, Nat.beq_refl], fun _ _ _ h => h⟩
          · rw [hlo j hji] at h2
            rw [hmo j y h1 h2] at h4
            have h5 := zipD_get (ls := fun i => listed.getD i false) (hd := hd) (E := E) (k := 0) h1 (by rw [Nat.zero_add]; exact h2) h3 fun q z hq hz => huniq q j t z y hq h1 hz h3
            rw [Nat.zero_add, ← h4] at h5
            refine ⟨τ, ?_, fun _ _ _ h => h⟩
            cases hs2 : h.slot with
            | none => exact h5
            | some s =>
              have hne : Nat.beq s t = false := by
                cases hb : Nat.beq s t
                · rfl
                · have := look_beq.1 hb; subst this
                  exact absurd (huniq j i s y h h1 hhi h3 hs2) hji
              simp only [addE, look, hne, cond_false]
              exact h5
        · have hb := hbase t τ h1
          have h5 := zipD_base (ls := fun i => listed.getD i false) (hd := hd) (E := E) (k := 0) hb
          refine ⟨τ, ?_, fun _ _ _ h => h⟩
          cases hs2 : h.slot with
          | none => simp only [addE]; rw [h5]; exact h1
          | some s =>
            have hne : Nat.beq s t = false := by
              cases hb2 : Nat.beq s t
              · rfl
              · have := look_beq.1 hb2; subst this
                exact absurd hs2 (hb i h hhi)
            simp only [addE, look, hne, cond_false]
            rw [h5]; exact h1
      · rcases heD_inv hl with ⟨j, hj, y, h1, h2, h3⟩ | h1
        · have h5 := zipD_get (ls := fun i => listed.getD i false) (hd := hd) (E := E) (k := 0) h1 (by rw [Nat.zero_add]; exact hupl j hj) h2 fun q z hq hz => huniq q j t z y hq h1 hz h2
          rw [Nat.zero_add, ← h3] at h5
          exact h5
        · rw [zipD_base (hbase t τ h1)]; exact h1
      · rw [Lf_get] at hj ⊢
        rw [← hj]
        conv => lhs; rw [hsplit]
        rw [valD_append, valD_none]
        · refine valD_congr fun q x hx hw => ?_
          rw [Nat.zero_add]
          have hq : q < i := by have := (List.getElem?_eq_some_iff.1 hx).1; omega
          rw [List.getElem?_take, if_pos hq] at hx
          exact ⟨hupl q ((hent q x hx).1 hq ⟨j, by simpa using hw, hr⟩), fun _ => rfl⟩
        · intro q x hx hw
          rw [htl, Nat.zero_add]
          cases q with
          | zero => exact hunf
          | succ q =>
            simp only [List.getElem?_cons_succ] at hx
            rw [List.getElem?_drop] at hx
            exact hlater (i + (q + 1)) x (by rw [← hx]; congr 1; omega) (by omega) ⟨j, by simpa using hw, .inl hr⟩

theorem Wp.drawD {rid : Nat} {l : List Oper} (hm : c.P.follows .mixedOrders = true) (hs : List Hd) (ds : List (Option Nat × List Nat × List Nat × List Nat)) (es : List Nat) (hds : dat hs = ds) (hes : E.map (·.1) = es) (hB : Gv.drawD l.toArray ds es = true)
    (hh : HeadsD c l.toArray Q hs E L 0 l hs) (ht : ∀ hd, To c Q .normal (zipD (fun _ => true) hd E 0 hs) (Lf (fun _ => true) hd 0 hs L)) : Wp c Q (.region rid l.toArray true) E L := fun a W s => by
  subst hds hes
  refine wpIn_region_any hm ?_
  have inv0 : HeadInv .any l.toArray l.toArray.size (Array.replicate l.toArray.size false) :=
    { size := by simp
      closed := fun j oj _ hl => by rw [getD_replicate_false] at hl; cases hl
      tail := fun t h1 h2 => by omega }
  refine drawD_core (ops := l.toArray) (Q := Q) hB (by simpa using hh) ht l.toArray.size (Array.replicate l.toArray.size false) (fun _ _ => none) a W.drew (Nat.le_trans (List.length_filter_le _ _) (by simp)) inv0 ?_
  have h1 : ∀ (hs : List Hd) (k : Nat), zipD (fun i => (Array.replicate l.toArray.size false).getD i false) (fun _ _ => none) E k hs = E := by
    intro hs
    induction hs with
    | nil => intro k; rfl
    | cons h r ih =>
      intro k
      have h2 := ih (k + 1)
      simp only [getD_replicate_false] at h2
      unfold zipD
      simp only [getD_replicate_false]
      exact h2
  have h2 : ∀ (hs : List Hd) (k : Nat) (L : List Ent), Lf (fun i => (Array.replicate l.toArray.size false).getD i false) (fun _ _ => none) k hs L = L := by
    intro hs
    induction hs with
    | nil => intro k L; rfl
    | cons h r ih => intro k L; rw [Lf, ih]; simp only [getD_replicate_false, cond_false]
  rw [h1, h2]
  exact s.world (Fr.drew W)

/-- where a head ends -/
theorem To.fin {slot : Option Nat} {up wr : List Nat} {i : Nat} {hd : Nat → Hid} {τ : (Nat → Hid) → VP} {ent : (Nat → Hid) → Nat → Ent} {E' E2 : List (Nat × VP)} {L' L2 : List Ent} (x : Hid) (hE : E2 = addE slot (τ (msk up i (upd hd i x))) E') (hL : L2 = setE L' (ent (msk up i (upd hd i x))) wr) :
    To c (QK (fun a W => ∃ x, St c (addE slot (τ (msk up i (upd hd i x))) E') (setE L' (ent (msk up i (upd hd i x))) wr) a W) Q) .normal E2 L2 := fun a W s => by
  subst hE hL
  exact ⟨x, s⟩

/-- a new entry goes to a place that is kept for it -/
theorem To.place {z : Exit} {e : Ent} (j : Nat) (hj : L[j]? = some ⟨none, .dead⟩) (k : To c Q z E (L.set j e)) : To c Q z E (e :: L) := fun a W s => by
  refine k a W (s.sub (fun x hx => ?_) ?_)
  · rcases List.mem_or_eq_of_mem_set hx with h | h
    · exact List.mem_cons.2 (.inr h)
    · exact List.mem_cons.2 (.inl h)
  · have h1 := bring_perm hj
    have h2 : (L.set j e).Perm (e :: L.eraseIdx j) := by
      have h3 : (L.set j e)[j]? = some e := by rw [List.getElem?_set_self (List.getElem?_eq_some_iff.1 hj).1]
      have h4 := bring_perm h3
      rwa [List.eraseIdx_set_eq] at h4
    have h5 := ks_perm (h1.cons e)
    have h6 : ks (e :: ⟨none, .dead⟩ :: L.eraseIdx j) = ks (e :: L.eraseIdx j) := by cases hk : e.key <;> simp [ks, hk]
    rw [h6] at h5
    exact (ks_perm h2).nodup_iff.2 (h5.nodup_iff.1 s.nodup)
/-- an entry that was brought to the front goes back -/
theorem To.back {z : Exit} {e e0 : Ent} (j : Nat) (hj : L[j]? = some e0) (k : To c Q z E (L.set j e)) : To c Q z E (e :: L.eraseIdx j) := fun a W s => by
  have h3 : (L.set j e)[j]? = some e := by rw [List.getElem?_set_self (List.getElem?_eq_some_iff.1 hj).1]
  have h4 := bring_perm h3
  rw [List.eraseIdx_set_eq] at h4
  exact k a W (s.perm h4.symm)
/-- places are kept for entries to come -/
theorem Wp.keep {z : Code} (n : Nat) (k : Wp c Q z E (L ++ List.replicate n ⟨none, .dead⟩)) : Wp c Q z E L := fun a W s => by
  refine k a W ?_
  have hk : ks (L ++ List.replicate n ⟨none, .dead⟩) = ks L := by
    rw [ks_append]
    have : ∀ n, ks (List.replicate n (⟨none, .dead⟩ : Ent)) = [] := fun n => by
      induction n with
      | zero => rfl
      | succ n ih => rw [List.replicate_succ]; simp [ks, ih]
    rw [this, List.append_nil]
  exact
  { defers := s.defers
    size := s.size
    env := fun t τ hl => by rw [hk]; exact s.env t τ hl
    fr := s.fr
    own := fun e he => by
      rw [hk]
      rcases List.mem_append.1 he with he | he
      · exact s.own e he
      · rw [(List.mem_replicate.1 he).2]; trivial
    nodup := by rw [hk]; exact s.nodup
    lt := by rw [hk]; exact s.lt
    mine := by rw [hk]; exact s.mine
    old := by rw [hk]; exact s.old }
theorem To.eqL {z : Exit} {L2 : List Ent} (h : L = L2) (k : To c Q z E L2) : To c Q z E L := by subst h; exact k

theorem To.relen {z : Exit} {key : Option Nat} {n m cap : Nat} (sl : Nat) (hl : look E sl = some (.eq (slv key n cap))) (hn : n = m) (k : To c Q z ((sl, .eq (slv key m cap)) :: E) L) : To c Q z E L := fun a W s => by
  subst hn
  refine k a W (s.less fun t τ h => ?_)
  simp only [look] at h
  by_cases e : Nat.beq sl t = true
  · rw [e] at h
    simp only [cond_true] at h
    have := look_beq.1 e
    subst this
    exact ⟨τ, by rw [hl, h], fun _ _ _ h => h⟩
  · simp only [Bool.not_eq_true] at e
    rw [e] at h
    exact ⟨τ, h, fun _ _ _ h => h⟩

variable {hs : List Hd} {i d : Nat} {up rd : List Nat} {ent : (Nat → Hid) → Nat → Ent} {o : Oper}
/-- a head that yields a value and touches nothing -/
theorem hd_v {τ : VP} (hg : o.guard = none) (hd : o.dst = some d) (hn : Nat.blt d c.n = true)
    (h : ∀ (hd : Nat → Hid) (E' : List (Nat × VP)) (L' : List Ent), (∀ t τ, look (heD hd hs E up) t = some τ → look E' t = some τ) → (∀ j e, (Lf (fun _ => true) hd 0 (hs.take i) L)[j]? = some e → rd.contains j = true → L'[j]? = some e) → HR c E' L' o τ) :
    HeadD c ops Q hs E L i o ⟨some d, up, rd, [], fun _ => τ, ent⟩ := fun hdd E' L' hE hL =>
  Sq.v (h hdd E' L' hE hL) hg hd hn (Sq.nil (To.fin (fun _ => none) rfl rfl))
theorem hd_g {j g : Nat} {b want : Bool} {τ : VP} (hg : o.guard = some (j, want)) (hj : (ops[j]?).bind (·.dst) = some g) (hd : o.dst = some d) (hn : Nat.blt d c.n = true)
    (hl : ∀ hd, look (heD hd hs E up) g = some (.of b))
    (h : ∀ (hd : Nat → Hid) (E' : List (Nat × VP)) (L' : List Ent), (∀ t τ, look (heD hd hs E up) t = some τ → look E' t = some τ) → (∀ j e, (Lf (fun _ => true) hd 0 (hs.take i) L)[j]? = some e → rd.contains j = true → L'[j]? = some e) → b = want → HR c E' L' o τ) :
    HeadD c ops Q hs E L i o ⟨some d, up, rd, [], fun _ => .cond (b = want) τ, ent⟩ := fun hdd E' L' hE hL =>
  Sq.g (h hdd E' L' hE hL) hg hj (hE _ _ (hl hdd)) hd hn (Sq.nil (To.fin (fun _ => none) rfl rfl))
theorem hd_gg {j g : Nat} {p : Prop} {b want : Bool} {τ : VP} (hg : o.guard = some (j, want)) (hj : (ops[j]?).bind (·.dst) = some g) (hd : o.dst = some d) (hn : Nat.blt d c.n = true)
    (hl : ∀ hd, look (heD hd hs E up) g = some (.cond p (.of b)))
    (h : ∀ (hd : Nat → Hid) (E' : List (Nat × VP)) (L' : List Ent), (∀ t τ, look (heD hd hs E up) t = some τ → look E' t = some τ) → (∀ j e, (Lf (fun _ => true) hd 0 (hs.take i) L)[j]? = some e → rd.contains j = true → L'[j]? = some e) → p ∧ b = want → HR c E' L' o τ) :
    HeadD c ops Q hs E L i o ⟨some d, up, rd, [], fun _ => .cond (p ∧ b = want) τ, ent⟩ := fun hdd E' L' hE hL =>
  Sq.gg (h hdd E' L' hE hL) hg hj (hE _ _ (hl hdd)) hd hn (Sq.nil (To.fin (fun _ => none) rfl rfl))
variable {ty t : TypeId} {pos : String} {af : Array Edge}
theorem Sq.bslN {α : Type} [Rp α] {rest : List Oper} {dd e n : Nat} {z : α} {r0 r : List α} {ps : List (Nat × Operand)} (hu : c.P.underlying t = some (.slice e)) (te : Ty c.P e α) (zr : Zr c.P e z) (hs : Nat.beq (Rp.size α) 0 = false) (hn : Nat.ble (n * Rp.size α) 16777216 = true)
    (hf : FillsL c E L (List.replicate n z) ps r0) (hr : r0 = r) (hN : Nat.blt dd c.n = true) (k : ∀ p, Sq c ops Q rest ((dd, .eq (slv p r.length n)) :: E) (⟨p, .row e r n⟩ :: L)) :
    Sq c ops Q (⟨some dd, .buildSlice t n ps.toArray, ty, pos, af, none⟩ :: rest) E L := by subst hr; exact Sq.bslO hu te zr hs hn hf hN k
variable {g : Option (Nat × Bool)} {x y : Operand}
theorem r_minu64 {a b : BitVec 64} {dd : Option Tmp} {ats : Array TypeId} (hx : Look c E L x (.of a)) (hy : Look c E L y (.of b)) : HR c E L ⟨dd, .call ⟨.builtin .min, #[x, y], ats⟩, ty, pos, af, g⟩ (.of (umin a b)) := .pure fun A W s =>
  ⟨.int .u64 (umin a b).toNat, by
    simp [execOp, resolve, invoke, builtin, Builtin.min_, Builtin.min2, of_u64.1 (hx A W s), of_u64.1 (hy A W s)]
    unfold umin
    split <;> split <;> first | rfl | (rename_i h1 h2; simp only [BitVec.le_def] at *; omega), of_u64.2 rfl⟩
end
end Gv
