/-
  The library of the decompiler, part D: a region that draws its order. Its first operations (the heads) may come in any order that the edges allow: each is shown to yield what is said of it, out of what it waits for alone. The others (the tail) come behind all heads, one by one. Conditions: none; it is about whatever program.
-/
import Derived.Test.YtodajdohokmjnaaGvB
namespace Gv
open Go
set_option linter.unusedVariables false

section
variable {c : Cx} {E : List (Nat × VP)} {L : List Ent} {ops : Array Oper} {Q : Exit → Act → World → Prop}

def HO (c : Cx) (ops : Array Oper) (E : List (Nat × VP)) (L : List Ent) (o : Oper) (τ : VP) : Prop :=
  ∀ a W, St c E L a W →
    (Region.wanted o (yielded ops a.tmps) = true → OpTo c.P o a W fun v W' => Fr [] W W' ∧ τ.holds (ks L ++ c.A0) W' v) ∧
    (Region.wanted o (yielded ops a.tmps) = false → τ.holds (ks L ++ c.A0) W undef)

theorem HO.v {o : Oper} {τ : VP} (h : HR c E L o τ) (hg : o.guard = none) : HO c ops E L o τ := fun a W s =>
  ⟨fun _ => h a W s, fun hw => by simp [Region.wanted, hg] at hw⟩

theorem HO.g {o : Oper} {j g : Nat} {b want : Bool} {τ : VP} (h : b = want → HR c E L o τ) (hg : o.guard = some (j, want)) (hj : (ops[j]?).bind (·.dst) = some g) (hl : look E g = some (.of b)) :
    HO c ops E L o (.cond (b = want) τ) := fun a W s => by
  have hy := yielded_of hj hl s
  constructor
  · intro hw
    have hb : b = want := by simpa [Region.wanted, hg, hy] using hw
    refine OpTo.wp (h hb a W s) fun v W' ⟨f, hv⟩ => ⟨v, rfl, f, fun _ => hv, fun h => absurd hb h⟩
  · intro hw
    exact ⟨fun hb => by simp [Region.wanted, hg, hy, hb] at hw, fun _ => rfl⟩

theorem HO.gg {o : Oper} {j g : Nat} {p : Prop} {b want : Bool} {τ : VP} (h : p ∧ b = want → HR c E L o τ) (hg : o.guard = some (j, want)) (hj : (ops[j]?).bind (·.dst) = some g) (hl : look E g = some (.cond p (.of b))) :
    HO c ops E L o (.cond (p ∧ b = want) τ) := fun a W s => by
  have hy := yielded_cond hj hl s
  have hw1 : Region.wanted o (yielded ops a.tmps) = true → p ∧ b = want := by
    intro hw
    by_cases hp : p
    · exact ⟨hp, by simpa [Region.wanted, hg, hy.1 hp] using hw⟩
    · simp [Region.wanted, hg, hy.2 hp] at hw
  constructor
  · intro hw
    refine OpTo.wp (h (hw1 hw) a W s) fun v W' ⟨f, hv⟩ => ⟨v, rfl, f, fun _ => hv, fun h => absurd (hw1 hw) h⟩
  · intro hw
    exact ⟨fun hb => by simp [Region.wanted, hg, hy.1 hb.1, hb.2] at hw, fun _ => rfl⟩

/-- what an operation of the heads does: it yields a value, makes a new variable, writes entry i of the call's own blocks, writes the variable of head j -/
inductive Hk
  | val (τ : VP)
  | new (cp : CP)
  | sto (i : Nat) (cp : CP)
  | stn (j : Nat) (cp : CP)

def Hk.isSto : Hk → Bool
  | .sto _ _ | .stn _ _ => true
  | _ => false

def Hk.vp (p : Nat) : Hk → Option VP
  | .val τ => some τ
  | .new _ => some (.eq (.pointer (some ⟨p, 0, none⟩)))
  | _ => none

/-- what an operation may look at: what the heads that it waits for have yielded, and what was there -/
def he (ps : Nat → Nat) (slots : List (Option Nat)) (hs : List Hk) (E : List (Nat × VP)) : List Nat → List (Nat × VP)
  | [] => E
  | j :: r => match slots[j]?, hs[j]? with
    | some (some s), some h => match h.vp (ps j) with
      | some τ => (s, τ) :: he ps slots hs E r
      | none => he ps slots hs E r
    | _, _ => he ps slots hs E r

def setCp : List Ent → Nat → CP → List Ent
  | [], _, _ => []
  | e :: r, 0, cp => ⟨e.key, cp⟩ :: r
  | e :: r, i + 1, cp => e :: setCp r i cp

theorem ks_setCp {L : List Ent} {i : Nat} {cp : CP} : ks (setCp L i cp) = ks L := by
  induction L generalizing i with
  | nil => rfl
  | cons e r ih =>
    cases i with
    | zero => cases hk : e.key <;> simp [setCp, ks, hk]
    | succ i => cases hk : e.key <;> simp [setCp, ks, hk, ih]

theorem setCp_set {L : List Ent} {i : Nat} {e : Ent} {cp : CP} (h : L[i]? = some e) : setCp L i cp = L.set i ⟨e.key, cp⟩ := by
  induction L generalizing i with
  | nil => simp at h
  | cons x r ih =>
    cases i with
    | zero => simp only [List.getElem?_cons_zero, Option.some.injEq] at h; subst h; rfl
    | succ i => simp only [List.getElem?_cons_succ] at h; simp [setCp, ih h]

theorem setCp_length {L : List Ent} {i : Nat} {cp : CP} : (setCp L i cp).length = L.length := by
  induction L generalizing i with
  | nil => rfl
  | cons e r ih => cases i <;> simp [setCp, ih]

/-- the entries behind the stores of these heads -/
def Lat (L : List Ent) : List Hk → List Ent
  | [] => L
  | .sto i cp :: r => Lat (setCp L i cp) r
  | _ :: r => Lat L r

/-- what the new variable of head j holds behind the stores of these heads -/
def cpAt (j : Nat) (cp : CP) : List Hk → CP
  | [] => cp
  | .stn i cp' :: r => cpAt j (bif Nat.beq i j then cp' else cp) r
  | _ :: r => cpAt j cp r

theorem Lat_append (L : List Ent) (r : List Hk) (h : Hk) : Lat L (r ++ [h]) = Lat (Lat L r) [h] := by
  induction r generalizing L with
  | nil => rfl
  | cons x r ih => cases x <;> simp only [List.cons_append, Lat] <;> exact ih _

theorem cpAt_append (j : Nat) (cp : CP) (r : List Hk) (h : Hk) : cpAt j cp (r ++ [h]) = cpAt j (cpAt j cp r) [h] := by
  induction r generalizing cp with
  | nil => rfl
  | cons x r ih => cases x <;> simp only [List.cons_append, cpAt] <;> exact ih _

theorem Lat_plain {L : List Ent} : ∀ {r : List Hk}, (∀ h ∈ r, h.isSto = false) → Lat L r = L
  | [], _ => rfl
  | h :: r, hh => by
    have := hh h (by simp)
    have ih := Lat_plain (L := L) (r := r) (fun x hx => hh x (by simp [hx]))
    cases h <;> first | exact ih | cases this

theorem cpAt_plain {j : Nat} {cp : CP} : ∀ {r : List Hk}, (∀ h ∈ r, h.isSto = false) → cpAt j cp r = cp
  | [], _ => rfl
  | h :: r, hh => by
    have := hh h (by simp)
    have ih := cpAt_plain (j := j) (cp := cp) (r := r) (fun x hx => hh x (by simp [hx]))
    cases h <;> first | exact ih | cases this

theorem ks_Lat {L : List Ent} : ∀ {r : List Hk}, ks (Lat L r) = ks L
  | [] => rfl
  | .sto i cp :: r => by rw [Lat, ks_Lat, ks_setCp]
  | .val _ :: r => by rw [Lat, ks_Lat]; all_goals (intros; exact Hk.noConfusion ‹_›)
  | .new _ :: r => by rw [Lat, ks_Lat]; all_goals (intros; exact Hk.noConfusion ‹_›)
  | .stn _ _ :: r => by rw [Lat, ks_Lat]; all_goals (intros; exact Hk.noConfusion ‹_›)

theorem Lat_length {L : List Ent} : ∀ {r : List Hk}, (Lat L r).length = L.length
  | [] => rfl
  | .sto i cp :: r => by rw [Lat, Lat_length, setCp_length]
  | .val _ :: r => by rw [Lat, Lat_length]; all_goals (intros; exact Hk.noConfusion ‹_›)
  | .new _ :: r => by rw [Lat, Lat_length]; all_goals (intros; exact Hk.noConfusion ‹_›)
  | .stn _ _ :: r => by rw [Lat, Lat_length]; all_goals (intros; exact Hk.noConfusion ‹_›)

/-- entry i is written by none of these but those that wait ('w': their numbers) -/
def unsto (w : Nat → Bool) (i : Nat) : Nat → List Hk → Bool
  | _, [] => true
  | k, .sto j _ :: r => (!(Nat.beq j i) || w k) && unsto w i (k + 1) r
  | k, .val _ :: r => unsto w i (k + 1) r
  | k, .new _ :: r => unsto w i (k + 1) r
  | k, .stn _ _ :: r => unsto w i (k + 1) r

theorem setCp_other {L : List Ent} {i j : Nat} {cp : CP} (h : i ≠ j) : (setCp L i cp)[j]? = L[j]? := by
  induction L generalizing i j with
  | nil => rfl
  | cons e r ih =>
    cases i with
    | zero => cases j with
      | zero => exact absurd rfl h
      | succ j => rfl
    | succ i => cases j with
      | zero => rfl
      | succ j => simp only [setCp, List.getElem?_cons_succ]; exact ih (by omega)

theorem Lat_unsto {L : List Ent} {i : Nat} {w : Nat → Bool} : ∀ {r : List Hk} (b k : Nat), unsto w i k r = true → (∀ q, q < b → (∃ j cp, r[q]? = some (.sto j cp)) → w (k + q) = false) → (Lat L (r.take b))[i]? = L[i]?
  | [], b, _, _, _ => by simp [Lat]
  | h :: r, 0, _, _, _ => by simp [Lat]
  | .sto j cp :: r, b + 1, k, h, hw => by
    simp only [unsto, Bool.and_eq_true, Bool.or_eq_true, Bool.not_eq_true'] at h
    have hwk : w k = false := by simpa using hw 0 (by omega) ⟨j, cp, by simp⟩
    have hne : j ≠ i := fun e => by
      rw [e, Nat.beq_refl, hwk] at h
      rcases h.1 with h | h <;> cases h
    rw [List.take_succ_cons, Lat, Lat_unsto b (k + 1) h.2 (fun q hq hx => by have := hw (q + 1) (by omega) (by simpa using hx); rw [← this]; congr 1; omega), setCp_other hne]
  | .val _ :: r, b + 1, k, h, hw => by rw [List.take_succ_cons]; exact Lat_unsto (r := r) b (k + 1) h (fun q hq hx => by have := hw (q + 1) (by omega) (by simpa using hx); rw [← this]; congr 1; omega)
  | .new _ :: r, b + 1, k, h, hw => by rw [List.take_succ_cons]; exact Lat_unsto (r := r) b (k + 1) h (fun q hq hx => by have := hw (q + 1) (by omega) (by simpa using hx); rw [← this]; congr 1; omega)
  | .stn _ _ :: r, b + 1, k, h, hw => by rw [List.take_succ_cons]; exact Lat_unsto (r := r) b (k + 1) h (fun q hq hx => by have := hw (q + 1) (by omega) (by simpa using hx); rw [← this]; congr 1; omega)

/-- a head that makes a new variable -/
def AO (P : Program) (o : Oper) (cp : CP) : Prop :=
  o.guard = none ∧ ∃ ob, (∀ A W, cp.holds A W ob) ∧ ∀ (a : Act) W, (execOp a.eval o).run P W = .ok (.value (.pointer (some ⟨W.heap.size, 0, none⟩))) (W.alloc ob)

/-- a store into block p, which then holds what cp says -/
def SO (c : Cx) (E : List (Nat × VP)) (L : List Ent) (o : Oper) (p : Nat) (cp : CP) : Prop :=
  o.guard = none ∧ o.dst = none ∧ ∀ a W, St c E L a W → ∃ cs cs' T, W.heap[p]? = some (.cells cs T (0, 0)) ∧ (execOp a.eval o).run c.P W = .ok .skip (W.setRow p cs') ∧ cp.holds (ks L ++ c.A0) W (.cells cs' T (0, 0))

/-- operation by operation: 'i': its number; 'all': all heads -/
def Heads (c : Cx) (ops : Array Oper) (ps : Nat → Nat) (slots : List (Option Nat)) (all : List Hk) (E : List (Nat × VP)) (L : List Ent) : Nat → List Oper → List Hk → List (List Nat) → Prop
  | _, _, [], _ => True
  | i, o :: os, .val τ :: hs, d :: ds => (∀ L' : List Ent, (∀ (j : Nat) (e : Ent), L[j]? = some e → unsto (fun k => Region.waitsFor .any ops k i) j 0 all = true → L'[j]? = some e) → HO c ops (he ps slots all E d) L' o τ) ∧ Heads c ops ps slots all E L (i + 1) os hs ds
  | i, o :: os, .new cp :: hs, _ :: ds => AO c.P o cp ∧ Heads c ops ps slots all E L (i + 1) os hs ds
  | i, o :: os, .sto k cp :: hs, d :: ds => (∃ (p : Nat) (cp0 : CP), (Lat L (all.take i))[k]? = some ⟨some p, cp0⟩ ∧ ∀ L' : List Ent, (∀ (j : Nat) (e : Ent), (Lat L (all.take i))[j]? = some e → L'[j]? = some e) → SO c (he ps slots all E d) L' o p cp) ∧ Heads c ops ps slots all E L (i + 1) os hs ds
  | i, o :: os, .stn k cp :: hs, d :: ds => (d.contains k = true ∧ ∃ cp0 : CP, all[k]? = some (.new cp0) ∧ ∀ (L' : List Ent) (q : Nat), L'[q]? = some ⟨some (ps k), cpAt k cp0 (all.take i)⟩ → SO c (he ps slots all E d) L' o (ps k) cp) ∧ Heads c ops ps slots all E L (i + 1) os hs ds
  | _, _, _, _ => False

/-- the heads' slots, the edges that are used, the tail's order -/
def drawB (ops : Array Oper) (n : Nat) (slots : List (Option Nat)) (deps : List (List Nat)) (sts : List Bool) (cn : Nat) : Bool :=
  decide (slots.length = n) && decide (n ≤ ops.size) && (slots.filterMap id).all (Nat.blt · cn) && decide (slots.filterMap id).Nodup &&
  ((List.range n).all fun i => ((ops[i]?).map fun o => (some o.dst == slots[i]?) && (o.after.all fun e => !Region.binds .any e || decide (e.on < i))).getD false) &&
  ((List.range n).all fun i => (deps.getD i []).all fun j => decide (j < n) && Region.waitsFor .any ops i j) &&
  ((List.range n).all fun i => !(sts.getD i false) || ((List.range i).all fun j => !(sts.getD j false) || Region.waitsFor .any ops i j)) &&
  (decide (n = ops.size) || (Region.sinkB .any ops n && Region.chainB .any ops n)) &&
  Region.seqB .any ops (ops.size - n) n ((List.range n).foldl (fun l i => l.setIfInBounds i true) (Array.replicate ops.size false))

def disj (E : List (Nat × VP)) (slots : List Nat) : Bool := match E with
  | [] => true
  | e :: r => !(slots.contains e.1) && disj r slots

theorem disj_spec {slots : List Nat} : ∀ {E : List (Nat × VP)}, disj E slots = true → ∀ t τ, look E t = some τ → t ∉ slots
  | [], _, t, τ, h => by simp [look] at h
  | (s, σ) :: r, hd, t, τ, h => by
    simp only [disj, Bool.and_eq_true, Bool.not_eq_true'] at hd
    simp only [look] at h
    by_cases e : Nat.beq s t = true
    · have := look_beq.1 e
      subst this
      simpa using hd.1
    · simp only [Bool.not_eq_true] at e
      rw [e] at h
      exact disj_spec hd.2 t τ h

theorem cnt_lt (f g : Nat → Bool) (i : Nat) (hf : f i = true) (hg : g i = false) (h : ∀ j, g j = true → f j = true) : ∀ n, i < n → ((List.range n).filter g).length < ((List.range n).filter f).length := by
  have le : ∀ n, ((List.range n).filter g).length ≤ ((List.range n).filter f).length := by
    intro n
    induction n with
    | zero => simp
    | succ n ih =>
      rw [List.range_succ, List.filter_append, List.filter_append, List.length_append, List.length_append]
      have : ([n].filter g).length ≤ ([n].filter f).length := by
        cases hgn : g n with
        | false => simp [hgn]
        | true => simp [hgn, h n hgn]
      omega
  intro n
  induction n with
  | zero => omega
  | succ n ih =>
    intro hlt
    rw [List.range_succ, List.filter_append, List.filter_append, List.length_append, List.length_append]
    by_cases e : i = n
    · subst e
      have := le i
      simp [hf, hg]
      omega
    · have h1 := ih (by omega)
      have : ([n].filter g).length ≤ ([n].filter f).length := by
        cases hgn : g n with
        | false => simp [hgn]
        | true => simp [hgn, h n hgn]
      omega


theorem heads_get {ps : Nat → Nat} {slots : List (Option Nat)} {all : List Hk} : ∀ {k : Nat} {os : List Oper} {hs : List Hk} {ds : List (List Nat)}, Heads c ops ps slots all E L k os hs ds →
    ∀ (i : Nat) h, hs[i]? = some h → ∃ o, os[i]? = some o ∧ (match h with
      | .val τ => ∀ L' : List Ent, (∀ (j : Nat) (e : Ent), L[j]? = some e → unsto (fun q => Region.waitsFor .any ops q (k + i)) j 0 all = true → L'[j]? = some e) → HO c ops (he ps slots all E (ds.getD i [])) L' o τ
      | .new cp => AO c.P o cp
      | .sto q cp => ∃ (p : Nat) (cp0 : CP), (Lat L (all.take (k + i)))[q]? = some ⟨some p, cp0⟩ ∧ ∀ L' : List Ent, (∀ (j : Nat) (e : Ent), (Lat L (all.take (k + i)))[j]? = some e → L'[j]? = some e) → SO c (he ps slots all E (ds.getD i [])) L' o p cp
      | .stn q cp => (ds.getD i []).contains q = true ∧ ∃ cp0 : CP, all[q]? = some (.new cp0) ∧ ∀ (L' : List Ent) (r : Nat), L'[r]? = some ⟨some (ps q), cpAt q cp0 (all.take (k + i))⟩ → SO c (he ps slots all E (ds.getD i [])) L' o (ps q) cp)
  | k, os, [], ds, _, i, h, hi => by simp at hi
  | k, [], h :: hs, ds, hh, _, _, _ => by cases h <;> simp [Heads] at hh
  | k, o :: os, h :: hs, [], hh, _, _, _ => by cases h <;> simp [Heads] at hh
  | k, o :: os, h0 :: hs, d :: ds, hh, i, h, hi => by
    have hd : Heads c ops ps slots all E L (k + 1) os hs ds := by cases h0 <;> exact hh.2
    cases i with
    | zero =>
      simp only [List.getElem?_cons_zero, Option.some.injEq] at hi
      subst hi
      refine ⟨o, by simp, ?_⟩
      cases h0 <;> exact hh.1
    | succ i =>
      simp only [List.getElem?_cons_succ] at hi
      obtain ⟨o', h1, h2⟩ := heads_get hd i h hi
      refine ⟨o', by simpa using h1, ?_⟩
      rw [show k + (i + 1) = k + 1 + i by omega]
      cases h <;> exact h2

theorem look_he {ps : Nat → Nat} {slots : List (Option Nat)} {hs : List Hk} {t : Nat} {τ : VP} : ∀ {ds : List Nat}, look (he ps slots hs E ds) t = some τ → (∃ j ∈ ds, slots[j]? = some (some t) ∧ ∃ h, hs[j]? = some h ∧ h.vp (ps j) = some τ) ∨ look E t = some τ
  | [], h => .inr h
  | j :: r, h => by
    have rest : look (he ps slots hs E r) t = some τ → (∃ k ∈ j :: r, slots[k]? = some (some t) ∧ ∃ h, hs[k]? = some h ∧ h.vp (ps k) = some τ) ∨ look E t = some τ := fun h => by
      rcases look_he h with ⟨k, hk, h1⟩ | h1
      · exact .inl ⟨k, List.mem_cons_of_mem _ hk, h1⟩
      · exact .inr h1
    simp only [he] at h
    split at h
    · rename_i s hk hs1 hs2
      split at h
      · rename_i σ hσ
        simp only [look] at h
        by_cases e : Nat.beq s t = true
        · rw [e] at h
          simp only [cond_true, Option.some.injEq] at h
          subst h
          exact .inl ⟨j, by simp, by rw [hs1, look_beq.1 e], hk, hs2, hσ⟩
        · simp only [Bool.not_eq_true] at e
          rw [e] at h
          exact rest h
      · exact rest h
    · exact rest h

/-- what the heads have left in their slots -/
def zipP (ps : Nat → Nat) (E : List (Nat × VP)) : Nat → List (Option Nat) → List Hk → List (Nat × VP)
  | i, some s :: ss, .val τ :: hs => (s, τ) :: zipP ps E (i + 1) ss hs
  | i, some s :: ss, .new _ :: hs => (s, .eq (.pointer (some ⟨ps i, 0, none⟩))) :: zipP ps E (i + 1) ss hs
  | i, _ :: ss, _ :: hs => zipP ps E (i + 1) ss hs
  | _, _, _ => E

/-- the new variables, as they are at the end -/
def entsP (ps : Nat → Nat) (all : List Hk) (L : List Ent) : Nat → List Hk → List Ent
  | i, .new cp :: hs => ⟨some (ps i), cpAt i cp all⟩ :: entsP ps all L (i + 1) hs
  | i, _ :: hs => entsP ps all L (i + 1) hs
  | _, [] => L

theorem look_zipP {ps : Nat → Nat} {t : Nat} {τ : VP} : ∀ {slots : List (Option Nat)} {hs : List Hk} (k : Nat), look (zipP ps E k slots hs) t = some τ →
    (∃ j : Nat, slots[j]? = some (some t) ∧ ∃ h, hs[j]? = some h ∧ h.vp (ps (k + j)) = some τ) ∨ look E t = some τ
  | [], hs, k, h => .inr (by cases hs <;> exact h)
  | s :: ss, [], k, h => .inr (by cases s <;> exact h)
  | s :: ss, x :: hs, k, h => by
    have rest : look (zipP ps E (k + 1) ss hs) t = some τ → (∃ j : Nat, (s :: ss)[j]? = some (some t) ∧ ∃ h, (x :: hs)[j]? = some h ∧ h.vp (ps (k + j)) = some τ) ∨ look E t = some τ := fun h => by
      rcases look_zipP (k + 1) h with ⟨j, h1, h2⟩ | h1
      · refine .inl ⟨j + 1, by simpa using h1, ?_⟩
        rw [show k + (j + 1) = k + 1 + j by omega]
        simpa using h2
      · exact .inr h1
    have one : ∀ (s' : Nat) (σ : VP), s = some s' → x.vp (ps k) = some σ → look ((s', σ) :: zipP ps E (k + 1) ss hs) t = some τ → (∃ j : Nat, (s :: ss)[j]? = some (some t) ∧ ∃ h, (x :: hs)[j]? = some h ∧ h.vp (ps (k + j)) = some τ) ∨ look E t = some τ := fun s' σ hs' hσ h => by
      simp only [look] at h
      by_cases e : Nat.beq s' t = true
      · rw [e] at h
        simp only [cond_true, Option.some.injEq] at h
        subst h
        exact .inl ⟨0, by simp [hs', look_beq.1 e], x, by simp, by simpa using hσ⟩
      · simp only [Bool.not_eq_true] at e
        rw [e] at h
        exact rest h
    cases s with
    | none => cases x <;> exact rest h
    | some s' =>
      cases x with
      | val σ => exact one s' σ rfl rfl h
      | new cp => exact one s' _ rfl rfl h
      | sto i cp => exact rest h
      | stn i cp => exact rest h

theorem listed_all {n : Nat} {listed : Array Bool} (inv : HeadInv .any ops n listed) (hn : n ≤ ops.size) (hall : ∀ i, i < n → listed.getD i true = true) :
    listed = (List.range n).foldl (fun l i => l.setIfInBounds i true) (Array.replicate ops.size false) := by
  have key : ∀ m, m ≤ ops.size → ((List.range m).foldl (fun l i => l.setIfInBounds i true) (Array.replicate ops.size false)).size = ops.size ∧
      ∀ j (d : Bool), j < ops.size → ((List.range m).foldl (fun l i => l.setIfInBounds i true) (Array.replicate ops.size false)).getD j d = decide (j < m) := by
    intro m
    induction m with
    | zero => intro _; exact ⟨by simp, fun j d hj => by simp [hj]⟩
    | succ m ih =>
      intro hm
      obtain ⟨h1, h2⟩ := ih (by omega)
      rw [List.range_succ, List.foldl_append]
      simp only [List.foldl_cons, List.foldl_nil]
      refine ⟨by simpa using h1, fun j d hj => ?_⟩
      by_cases e : m = j
      · subst e
        simp [h1, hj]
      · rw [getD_set_ne d e, h2 j d hj]
        by_cases h3 : j < m
        · simp [h3]; omega
        · simp [h3]; omega
  obtain ⟨h1, h2⟩ := key n hn
  apply Array.ext
  · rw [inv.size, h1]
  · intro i hi1 hi2
    have hi : i < ops.size := by rw [← inv.size]; exact hi1
    have h3 := h2 i true hi
    have e1 : listed.getD i true = listed[i] := by simp [hi1]
    have e2 : ((List.range n).foldl (fun l i => l.setIfInBounds i true) (Array.replicate ops.size false)).getD i true = ((List.range n).foldl (fun l i => l.setIfInBounds i true) (Array.replicate ops.size false))[i] := by
      simp [hi2]
    rw [← e2, h3, ← e1]
    by_cases h4 : i < n
    · rw [hall i h4]; simp [h4]
    · rw [inv.tail i (by omega) hi]; simp [h4]


theorem entsP_append (ps : Nat → Nat) (all : List Hk) (L : List Ent) : ∀ (hs : List Hk) (i : Nat), entsP ps all L i hs = entsP ps all [] i hs ++ L
  | [], _ => rfl
  | .new cp :: hs, i => by simp only [entsP]; rw [entsP_append ps all L hs (i + 1)]; rfl
  | .val _ :: hs, i => entsP_append ps all L hs (i + 1)
  | .sto _ _ :: hs, i => entsP_append ps all L hs (i + 1)
  | .stn _ _ :: hs, i => entsP_append ps all L hs (i + 1)

theorem mem_entsP {ps : Nat → Nat} {all : List Hk} {e : Ent} : ∀ {hs : List Hk} {i : Nat}, e ∈ entsP ps all [] i hs → ∃ (j : Nat) (cp : CP), hs[j]? = some (.new cp) ∧ e = ⟨some (ps (i + j)), cpAt (i + j) cp all⟩
  | [], _, h => by simp [entsP] at h
  | x :: hs, i, h => by
    have rest : e ∈ entsP ps all [] (i + 1) hs → ∃ (j : Nat) (cp : CP), (x :: hs)[j]? = some (.new cp) ∧ e = ⟨some (ps (i + j)), cpAt (i + j) cp all⟩ := fun h => by
      obtain ⟨j, cp, h1, h2⟩ := mem_entsP (hs := hs) (i := i + 1) h
      refine ⟨j + 1, cp, by simpa using h1, ?_⟩
      rw [show i + (j + 1) = i + 1 + j by omega]; exact h2
    cases x with
    | new cp =>
      rcases List.mem_cons.1 h with h | h
      · exact ⟨0, cp, by simp, by simpa using h⟩
      · exact rest h
    | val _ => exact rest h
    | sto _ _ => exact rest h
    | stn _ _ => exact rest h

theorem ks_entsP_nodup {ps : Nat → Nat} {all : List Hk} : ∀ (hs : List Hk) (i : Nat), (∀ (j k : Nat) (u v : CP), hs[j]? = some (.new u) → hs[k]? = some (.new v) → ps (i + j) = ps (i + k) → j = k) → (ks (entsP ps all [] i hs)).Nodup
  | [], _, _ => by simp [entsP, ks]
  | x :: hs, i, h => by
    have hr : (ks (entsP ps all [] (i + 1) hs)).Nodup := ks_entsP_nodup hs (i + 1) fun j k u v h1 h2 h3 => by
      have := h (j + 1) (k + 1) u v (by simpa using h1) (by simpa using h2) (by rw [show i + (j + 1) = i + 1 + j by omega, show i + (k + 1) = i + 1 + k by omega]; exact h3)
      omega
    cases x with
    | val _ => exact hr
    | sto _ _ => exact hr
    | stn _ _ => exact hr
    | new cp =>
      simp only [entsP, ks]
      refine List.nodup_cons.2 ⟨fun hm => ?_, hr⟩
      obtain ⟨e, he, hk⟩ := mem_ks.1 hm
      obtain ⟨j, u, h1, h2⟩ := mem_entsP he
      rw [h2] at hk
      simp only [Option.some.injEq] at hk
      have := h 0 (j + 1) cp u (by simp) (by simpa using h1) (by rw [show i + (j + 1) = i + 1 + j by omega]; simpa using hk.symm)
      omega

/-- the entries of the new variables that are there -/
def newL (ps : Nat → Nat) (all : List Hk) (b : Nat) (al : List Nat) : List Ent := al.map fun j => ⟨some (ps j), match all[j]? with | some (.new cp) => cpAt j cp (all.take b) | _ => .dead⟩

theorem ks_newL (ps : Nat → Nat) (all : List Hk) (b : Nat) : ∀ (al : List Nat), ks (newL ps all b al) = al.map ps
  | [] => rfl
  | j :: al => by
    have := ks_newL ps all b al
    simp only [newL, List.map_cons, ks] at this ⊢
    rw [this]

/-- in the middle of the heads: 'al': the heads that have made new variables; 'b': the stores ahead of number b have come up -/
structure Mid (c : Cx) (n : Nat) (slots : List (Option Nat)) (hs : List Hk) (E : List (Nat × VP)) (L : List Ent) (listed : Array Bool) (ps : Nat → Nat) (al : List Nat) (b : Nat) (a : Act) (W : World) : Prop where
  st : St c E (Lat L (hs.take b) ++ newL ps hs b al) a W
  done : ∀ (j : Nat) s h τ, j < n → listed.getD j false = true → slots[j]? = some (some s) → hs[j]? = some h → h.vp (ps j) = some τ → ∃ v, a.tmps[s]? = some v ∧ τ.holds (ks (Lat L (hs.take b) ++ newL ps hs b al) ++ c.A0) W v
  news : ∀ (j : Nat), j ∈ al ↔ (j < n ∧ listed.getD j false = true ∧ ∃ cp, hs[j]? = some (.new cp))
  stored : ∀ (j : Nat) h, hs[j]? = some h → h.isSto = true → (listed.getD j false = true ↔ j < b)
  ble : b ≤ n

theorem take_mid {hs : List Hk} {b i : Nat} {h : Hk} (hb : b ≤ i) (hi : hs[i]? = some h) (hn : ∀ (j : Nat) x, b ≤ j → j < i → hs[j]? = some x → x.isSto = false) :
    ∃ r, hs.take i = hs.take b ++ r ∧ ∀ x ∈ r, x.isSto = false := by
  refine ⟨(hs.drop b).take (i - b), ?_, fun x hx => ?_⟩
  · rw [← List.take_add]; congr 1; omega
  · obtain ⟨j, hj⟩ := List.mem_iff_getElem?.1 hx
    rw [List.getElem?_take] at hj
    split at hj
    · rw [List.getElem?_drop] at hj
      exact hn (b + j) x (by omega) (by omega) hj
    · cases hj

theorem Lat_app (L : List Ent) (r s : List Hk) : Lat L (r ++ s) = Lat (Lat L r) s := by
  induction r generalizing L with
  | nil => rfl
  | cons x r ih => cases x <;> simp only [List.cons_append, Lat] <;> exact ih _
theorem cpAt_app (j : Nat) (cp : CP) (r s : List Hk) : cpAt j cp (r ++ s) = cpAt j (cpAt j cp r) s := by
  induction r generalizing cp with
  | nil => rfl
  | cons x r ih => cases x <;> simp only [List.cons_append, cpAt] <;> exact ih _

theorem ks_perm {L R : List Ent} (h : L.Perm R) : (ks L).Perm (ks R) := by
  induction h with
  | nil => exact .nil
  | cons x _ ih => cases hk : x.key <;> simp only [ks, hk] <;> first | exact ih | exact ih.cons _
  | swap x y l =>
    cases hx : x.key <;> cases hy : y.key <;> simp only [ks, hx, hy]
    all_goals first | exact .refl _ | exact .swap _ _ _
  | trans _ _ h1 h2 => exact h1.trans h2

theorem St.perm {E L L' a W} (h : St c E L a W) (p : L.Perm L') : St c E L' a W :=
  h.sub (fun e he => p.mem_iff.2 he) ((ks_perm p).nodup_iff.1 h.nodup)

theorem cpAt_nostn {j : Nat} {cp : CP} : ∀ {r : List Hk}, (∀ q x, Hk.stn q x ∈ r → q ≠ j) → cpAt j cp r = cp
  | [], _ => rfl
  | .stn q x :: r, h => by
    have h1 := h q x (by simp)
    have e : Nat.beq q j = false := by
      cases hb : Nat.beq q j with
      | false => rfl
      | true => exact absurd (look_beq.1 hb) h1
    simp only [cpAt, e, cond_false]
    exact cpAt_nostn fun q x hm => h q x (by simp [hm])
  | .val _ :: r, h => cpAt_nostn (r := r) fun q x hm => h q x (by simp [hm])
  | .new _ :: r, h => cpAt_nostn (r := r) fun q x hm => h q x (by simp [hm])
  | .sto _ _ :: r, h => cpAt_nostn (r := r) fun q x hm => h q x (by simp [hm])

theorem nodup_of_map (f : Nat → Nat) : ∀ (l : List Nat), (l.map f).Nodup → l.Nodup
  | [], _ => by simp
  | x :: r, h => by
    simp only [List.map_cons] at h
    obtain ⟨h1, h2⟩ := List.nodup_cons.1 h
    exact List.nodup_cons.2 ⟨fun hm => h1 (List.mem_map.2 ⟨x, hm, rfl⟩), nodup_of_map f r h2⟩

theorem newL_ps {ps ps' : Nat → Nat} {all : List Hk} {b : Nat} {al : List Nat} (h : ∀ j ∈ al, ps' j = ps j) : newL ps' all b al = newL ps all b al := by
  unfold newL
  exact List.map_congr_left fun j hj => by rw [h j hj]

theorem draw_core {n : Nat} {slots : List (Option Nat)} {hs : List Hk} {deps : List (List Nat)} (hB : drawB ops n slots deps (hs.map Hk.isSto) c.n = true) (hE : disj E (slots.filterMap id) = true) (hlen : hs.length = n)
    (hh : ∀ ps, Heads c ops ps slots hs E L 0 ops.toList hs deps) (ht : ∀ ps, Sq c ops Q (ops.toList.drop n) (zipP ps E 0 slots hs) (entsP ps hs (Lat L hs) 0 hs)) :
    ∀ m (listed : Array Bool) (ps : Nat → Nat) (al : List Nat) (b : Nat) (a : Act) (W : World), ((List.range n).filter fun i => !listed.getD i true).length ≤ m → HeadInv .any ops n listed → Mid c n slots hs E L listed ps al b a W →
      wpAnyIn c.F 9 c.P .any ops Q (m + (ops.size - n)) listed a W := by
  simp only [drawB, Bool.and_eq_true, decide_eq_true_eq, Bool.or_eq_true] at hB
  obtain ⟨⟨⟨⟨⟨⟨⟨⟨hsl, hn⟩, hlt⟩, hnd⟩, hops⟩, hdeps⟩, hsts⟩, htail⟩, hseq⟩ := hB
  have hop : ∀ i, i < n → ∃ o, ops[i]? = some o ∧ slots[i]? = some o.dst ∧ ∀ e ∈ o.after, Region.binds .any e = true → e.on < i := by
    intro i hi
    have h1 := List.all_eq_true.1 hops i (List.mem_range.2 hi)
    cases ho : ops[i]? with
    | none => simp [ho] at h1
    | some o =>
      simp only [ho, Option.map_some, Option.getD_some, Bool.and_eq_true, beq_iff_eq] at h1
      refine ⟨o, rfl, h1.1.symm, fun e he hb => ?_⟩
      have := Array.all_eq_true_iff_forall_mem.1 h1.2 e he
      simp [hb] at this
      exact this
  have hslt : ∀ (i s : Nat), slots[i]? = some (some s) → s < c.n := fun i s h => by
    have : s ∈ slots.filterMap id := List.mem_filterMap.2 ⟨some s, List.mem_of_getElem? h, rfl⟩
    have := List.all_eq_true.1 hlt s this
    simpa using this
  have hsne : ∀ (i j s : Nat), slots[i]? = some (some s) → slots[j]? = some (some s) → i = j := by
    have key : ∀ (l : List (Option Nat)), (l.filterMap id).Nodup → ∀ (i j s : Nat), l[i]? = some (some s) → l[j]? = some (some s) → i = j := by
      intro l
      induction l with
      | nil => intro _ i j s h; simp at h
      | cons x r ih =>
        intro hnd i j s hi hj
        have hr : (r.filterMap id).Nodup := by
          cases x with
          | none => simpa using hnd
          | some y => simp only [List.filterMap_cons_some (f := id) (a := some y) (b := y) rfl] at hnd; exact (List.nodup_cons.1 hnd).2
        have hout : x = some s → s ∉ r.filterMap id := fun e => by
          subst e
          simp only [List.filterMap_cons_some (f := id) (a := some s) (b := s) rfl] at hnd
          exact (List.nodup_cons.1 hnd).1
        cases i with
        | zero =>
          simp only [List.getElem?_cons_zero, Option.some.injEq] at hi
          cases j with
          | zero => rfl
          | succ j =>
            simp only [List.getElem?_cons_succ] at hj
            exact absurd (List.mem_filterMap.2 ⟨some s, List.mem_of_getElem? hj, rfl⟩ : s ∈ r.filterMap id) (hout hi)
        | succ i =>
          simp only [List.getElem?_cons_succ] at hi
          cases j with
          | zero =>
            simp only [List.getElem?_cons_zero, Option.some.injEq] at hj
            exact absurd (List.mem_filterMap.2 ⟨some s, List.mem_of_getElem? hi, rfl⟩ : s ∈ r.filterMap id) (hout hj)
          | succ j =>
            simp only [List.getElem?_cons_succ] at hj
            rw [ih hr i j s hi hj]
    exact key slots hnd
  intro m
  induction m with
  | zero =>
    intro listed ps al b a W hm inv mid
    have hall : ∀ i, i < n → listed.getD i true = true := by
      intro i hi
      cases h : listed.getD i true with
      | true => rfl
      | false =>
        have : i ∈ (List.range n).filter fun i => !listed.getD i true := List.mem_filter.2 ⟨List.mem_range.2 hi, by rw [h]; rfl⟩
        rw [List.length_eq_zero_iff.1 (Nat.le_zero.1 hm)] at this
        cases this
    have hl := listed_all inv hn hall
    rw [← hl] at hseq
    have hlen2 : (ops.toList.drop n).length = ops.size - n := by simp
    rw [Nat.zero_add, ← hlen2]
    rw [← hlen2] at hseq
    refine wpAnyIn_of_seq (ops.toList.drop n) n listed a W (fun j => by simp) hseq (ht ps a W ?_)
    have hlisted : ∀ j, j < n → listed.getD j false = true := fun j hjn => by
      have h3 := hall j hjn
      have h4 : j < listed.size := by rw [inv.size]; omega
      simpa [h4] using h3
    have hjn : ∀ (j : Nat) (h : Hk), hs[j]? = some h → j < n := fun j h hj => by have := (List.getElem?_eq_some_iff.1 hj).1; omega
    have hplain : ∀ x ∈ hs.drop b, x.isSto = false := fun x hx => by
      obtain ⟨j, hj⟩ := List.mem_iff_getElem?.1 hx
      rw [List.getElem?_drop] at hj
      cases hxs : x.isSto with
      | false => rfl
      | true =>
        have := (mid.stored (b + j) x hj hxs).1 (hlisted _ (hjn _ _ hj))
        omega
    have hLat : Lat L hs = Lat L (hs.take b) := by
      conv => lhs; rw [← List.take_append_drop b hs]
      rw [Lat_app, Lat_plain hplain]
    have hcp : ∀ (j : Nat) cp, cpAt j cp hs = cpAt j cp (hs.take b) := fun j cp => by
      conv => lhs; rw [← List.take_append_drop b hs]
      rw [cpAt_app, cpAt_plain hplain]
    have hnodA : (al.map ps).Nodup := by
      have := mid.st.nodup
      rw [ks_append, ks_newL] at this
      exact (List.nodup_append.1 this).2.1
    have hinj : ∀ (j k : Nat), j ∈ al → k ∈ al → ps j = ps k → j = k := by
      have key : ∀ (l : List Nat), (l.map ps).Nodup → ∀ j k : Nat, j ∈ l → k ∈ l → ps j = ps k → j = k := by
        intro l
        induction l with
        | nil => intro _ j k h; cases h
        | cons x r ihl =>
          intro hn j k hj hk e
          simp only [List.map_cons] at hn
          obtain ⟨h1, h2⟩ := List.nodup_cons.1 hn
          rcases List.mem_cons.1 hj with h3 | hj
          · rcases List.mem_cons.1 hk with h4 | hk
            · rw [h3, h4]
            · exact absurd (List.mem_map.2 ⟨k, hk, by rw [← e, h3]⟩) h1
          · rcases List.mem_cons.1 hk with h4 | hk
            · exact absurd (List.mem_map.2 ⟨j, hj, by rw [e, h4]⟩) h1
            · exact ihl h2 j k hj hk e
      exact key al hnodA
    have hal : ∀ (j : Nat) cp, hs[j]? = some (.new cp) → j ∈ al := fun j cp hj => (mid.news j).2 ⟨hjn j _ hj, hlisted j (hjn j _ hj), cp, hj⟩
    have hment : ∀ e ∈ entsP ps hs [] 0 hs, e ∈ newL ps hs b al := fun e he => by
      obtain ⟨j, cp, h1, h2⟩ := mem_entsP he
      rw [Nat.zero_add] at h2
      refine List.mem_map.2 ⟨j, hal j cp h1, ?_⟩
      simp only [h1]
      rw [h2, hcp]
    have hs3 : St c E (entsP ps hs (Lat L hs) 0 hs) a W := by
      rw [entsP_append, hLat]
      refine mid.st.sub (fun e he => ?_) ?_
      · rcases List.mem_append.1 he with he | he
        · exact List.mem_append.2 (.inr (hment e he))
        · exact List.mem_append.2 (.inl he)
      · rw [ks_append]
        have hno := mid.st.nodup
        rw [ks_append, ks_newL] at hno
        obtain ⟨h1, h2, h3⟩ := List.nodup_append.1 hno
        refine List.nodup_append.2 ⟨ks_entsP_nodup hs 0 fun j k u v e1 e2 e3 => ?_, h1, fun x hx y hy e => ?_⟩
        · simp only [Nat.zero_add] at e3
          exact hinj j k (hal j u e1) (hal k v e2) e3
        · subst e
          obtain ⟨e, he, hek⟩ := mem_ks.1 hx
          have : x ∈ ks (newL ps hs b al) := mem_ks.2 ⟨e, hment e he, hek⟩
          rw [ks_newL] at this
          exact h3 x hy x this rfl
    have hsub : ∀ k ∈ ks (entsP ps hs (Lat L hs) 0 hs) ++ c.A0, k ∈ ks (Lat L (hs.take b) ++ newL ps hs b al) ++ c.A0 := fun k hk => by
      rw [entsP_append, ks_append, hLat] at hk
      rw [ks_append]
      simp only [List.mem_append] at hk ⊢
      rcases hk with (hk | hk) | hk
      · obtain ⟨e, he, hek⟩ := mem_ks.1 hk
        exact .inl (.inr (mem_ks.2 ⟨e, hment e he, hek⟩))
      · exact .inl (.inl hk)
      · exact .inr hk
    refine { hs3 with env := fun t τ hlk => ?_ }
    rcases look_zipP 0 hlk with ⟨j, h1, h, h2, h3⟩ | h1
    · rw [Nat.zero_add] at h3
      obtain ⟨v, h4, h5⟩ := mid.done j t h τ (hjn j h h2) (hlisted j (hjn j h h2)) h1 h2 h3
      exact ⟨v, h4, τ.mono (.drop hsub) h5⟩
    · exact hs3.env t τ h1
  | succ m ih =>
    intro listed ps al b a W hm inv mid
    by_cases hall : ∀ i, i < n → listed.getD i true = true
    · have h0 : ((List.range n).filter fun i => !listed.getD i true).length ≤ m := by
        have : ((List.range n).filter fun i => !listed.getD i true) = [] := List.filter_eq_nil_iff.2 fun i hi => by simp [hall i (List.mem_range.1 hi)]
        rw [this]; simp
      have h1 := ih listed ps al b a W h0 inv mid
      have more : ∀ f (listed : Array Bool) a W, wpAnyIn c.F 9 c.P .any ops Q f listed a W → wpAnyIn c.F 9 c.P .any ops Q (f + 1) listed a W := by
        intro f
        induction f with
        | zero => intro listed a W h; exact ⟨fun _ => h.2, fun i hi => by rw [h.1] at hi; cases hi⟩
        | succ f ihf => intro listed a W h; exact ⟨h.1, fun i hi => wpOpIn_mono (fun a' w' h' => ihf _ a' w' h') (h.2 i hi)⟩
      rw [show m + 1 + (ops.size - n) = (m + (ops.size - n)) + 1 by omega]
      exact more _ _ _ _ h1
    · rw [show m + 1 + (ops.size - n) = (m + (ops.size - n)) + 1 by omega]
      have hex : ∃ i, i < n ∧ listed.getD i true = false := by
        have h1 : ¬ ∀ i, i < n → listed.getD i true = true := hall
        false_or_by_contra
        rename_i h2
        exact h1 fun i hi => by
          cases h : listed.getD i true with
          | true => rfl
          | false => exact absurd ⟨i, hi, h⟩ h2
      have hready : ∀ t ∈ Region.ready .any ops listed, t < n := by
        intro t htm
        rcases Nat.lt_or_ge t n with h | h
        · exact h
        · obtain ⟨i, hi, hun⟩ := hex
          rcases htail with h1 | h1
          · obtain ⟨_, o, ho, _⟩ := mem_ready.1 htm
            have := (Array.getElem?_eq_some_iff.1 ho).1
            omega
          · have hnlt : n < ops.size := by
              obtain ⟨_, o, ho, _⟩ := mem_ready.1 htm
              have := (Array.getElem?_eq_some_iff.1 ho).1
              omega
            exact absurd htm (tail_waits h1.1 h1.2 hnlt inv _ i rfl hi hun t h)
      refine ⟨fun h0 => ?_, fun i hi => ?_⟩
      · exfalso
        have hleast : ∀ k, ∀ i, i ≤ k → i < n → listed.getD i true = false → ∃ i, i < n ∧ listed.getD i true = false ∧ ∀ j, j < i → listed.getD j true = true := by
          intro k
          induction k with
          | zero => intro i hik hi hu; exact ⟨i, hi, hu, fun j hj => by omega⟩
          | succ k ihk =>
            intro i hik hi hu
            by_cases hq : ∀ j, j < i → listed.getD j true = true
            · exact ⟨i, hi, hu, hq⟩
            · have : ∃ j, j < i ∧ listed.getD j true = false := by
                false_or_by_contra
                rename_i h2
                exact hq fun j hj => by
                  cases h : listed.getD j true with
                  | true => rfl
                  | false => exact absurd ⟨j, hj, h⟩ h2
              obtain ⟨j, hj, hju⟩ := this
              exact ihk j (by omega) (by omega) hju
        obtain ⟨i0, hi0, hu0⟩ := hex
        obtain ⟨i, hi, hu, hmin⟩ := hleast i0 i0 (Nat.le_refl _) hi0 hu0
        obtain ⟨o, ho, _, hedges⟩ := hop i hi
        have : i ∈ Region.ready .any ops listed := mem_ready.2 ⟨hu, o, ho, fun e he hb => by
          have h1 := hmin e.on (hedges e he hb)
          have h2 : e.on < listed.size := by rw [inv.size]; have := hedges e he hb; omega
          simpa [h2] using h1⟩
        rw [h0] at this
        cases this
      · have hin := hready i hi
        obtain ⟨o, ho, hslot, hedges⟩ := hop i hin
        obtain ⟨hun, o', ho', hlisted⟩ := mem_ready.1 hi
        have hoo : o' = o := Option.some.inj (ho'.symm.trans ho)
        subst hoo
        obtain ⟨h, hhi⟩ : ∃ h, hs[i]? = some h := ⟨hs[i]'(by omega), by simp⟩
        obtain ⟨o2, ho2, hH⟩ := heads_get (hh ps) i h hhi
        have hoo2 : o2 = o' := by
          rw [Array.getElem?_toList] at ho2
          exact Option.some.inj (ho2.symm.trans ho)
        subst hoo2
        have hcnt : ((List.range n).filter fun j => !(listed.setIfInBounds i true).getD j true).length ≤ m := by
          have : ((List.range n).filter fun j => !(listed.setIfInBounds i true).getD j true).length < ((List.range n).filter fun j => !listed.getD j true).length := by
            refine cnt_lt (fun j => !listed.getD j true) (fun j => !(listed.setIfInBounds i true).getD j true) i (by simp only [hun]; rfl) ?_ (fun j hj => ?_) n hin
            · have : i < listed.size := by rw [inv.size]; omega
              simp [this]
            · by_cases e : i = j
              · subst e; simp only [hun]; rfl
              · rw [getD_set_ne true e] at hj; exact hj
          omega
        have inv' := inv.set hi hin
        have hilt : i < listed.size := by rw [inv.size]; omega
        have hself : (listed.setIfInBounds i true).getD i false = true := by simp [hilt]
        have hunf : listed.getD i false = false := getD_both hun
        have hnal : i ∉ al := fun hm => by have := ((mid.news i).1 hm).2.1; rw [hunf] at this; cases this
        have hdep : ∀ j ∈ deps.getD i [], j < n ∧ listed.getD j false = true := fun j hj => by
          have h3 := List.all_eq_true.1 (List.all_eq_true.1 hdeps i (List.mem_range.2 hin)) j hj
          simp only [Bool.and_eq_true, decide_eq_true_eq] at h3
          obtain ⟨oj, hoj, e, he, hb, hon⟩ := Region.waitsFor_spec h3.2
          have : oj = o2 := Option.some.inj (hoj.symm.trans ho)
          subst this
          have h4 := hlisted e he hb
          rw [hon] at h4
          exact ⟨h3.1, h4⟩
        have hst : St c (he ps slots hs E (deps.getD i [])) (Lat L (hs.take b) ++ newL ps hs b al) a W := by
          refine { mid.st with env := fun t σ hlk => ?_ }
          rcases look_he hlk with ⟨j, hj, h1, x, h2, h3⟩ | h1
          · exact mid.done j t x σ (hdep j hj).1 (hdep j hj).2 h1 h2 h3
          · exact mid.st.env t σ h1
        -- the stores ahead of a store have come up
        have hstores : h.isSto = true → b ≤ i ∧ ∃ r, hs.take i = hs.take b ++ r ∧ ∀ x ∈ r, x.isSto = false := fun hsto => by
          have hbi : b ≤ i := by
            rcases Nat.lt_or_ge i b with h1 | h1
            · have := (mid.stored i h hhi hsto).2 h1
              rw [hunf] at this; cases this
            · exact h1
          refine ⟨hbi, take_mid hbi hhi fun j x hj1 hj2 hx => ?_⟩
          cases hxs : x.isSto with
          | false => rfl
          | true =>
            have h3 := List.all_eq_true.1 hsts i (List.mem_range.2 hin)
            have e1 : (hs.map Hk.isSto).getD i false = true := by simp [hhi, hsto]
            simp only [e1, Bool.not_true, Bool.false_or] at h3
            have h4 := List.all_eq_true.1 h3 j (List.mem_range.2 hj2)
            have e2 : (hs.map Hk.isSto).getD j false = true := by simp [hx, hxs]
            simp only [e2, Bool.not_true, Bool.false_or] at h4
            obtain ⟨oj, hoj, e, he, hb, hon⟩ := Region.waitsFor_spec h4
            have : oj = o2 := Option.some.inj (hoj.symm.trans ho)
            subst this
            have h5 := hlisted e he hb
            rw [hon] at h5
            have := (mid.stored j x hx hxs).1 h5
            omega
        unfold wpOpIn
        simp only [ho]
        cases h with
        | val τ =>
          simp only at hH
          have hHO := hH (Lat L (hs.take b) ++ newL ps hs b al) (fun j e hj hu => by
            have h1 : (Lat L (hs.take b))[j]? = some e := by
              rw [Lat_unsto b 0 hu (fun q hq ⟨j', cp', hx⟩ => by
                have hql := (mid.stored q _ hx rfl).2 hq
                cases hw : Region.waitsFor .any ops (0 + q) (0 + i) with
                | false => rfl
                | true =>
                  obtain ⟨oj', hoj', e', he', hb', hon'⟩ := Region.waitsFor_spec hw
                  rw [Nat.zero_add] at hoj' hon'
                  have := inv.closed q oj' hoj' hql e' he' hb'
                  rw [hon', hunf] at this
                  cases this)]
              exact hj
            rw [List.getElem?_append_left (List.getElem?_eq_some_iff.1 h1).1]; exact h1)
          obtain ⟨h1, h2⟩ := hHO a W hst
          have hnext : ∀ v W', Fr [] W W' → τ.holds (ks (Lat L (hs.take b) ++ newL ps hs b al) ++ c.A0) W' v → Mid c n slots hs E L (listed.setIfInBounds i true) ps al b (a.put o2.dst v) W' := by
            intro v W' f hv
            have hs0 := mid.st.world f
            refine ⟨?_, fun j s' x σ hj hl hs' hx hσ => ?_, fun j => ?_, fun j x hx hxs => ?_, mid.ble⟩
            · cases hd : o2.dst with
              | none => exact hs0
              | some s =>
                rw [hd] at hslot
                refine { (hs0.put (d := s) (hslt i s hslot) hv) with env := fun t σ hlk => ?_ }
                have hne : s ≠ t := fun e => disj_spec hE t σ hlk (by rw [← e]; exact List.mem_filterMap.2 ⟨some s, List.mem_of_getElem? hslot, rfl⟩)
                obtain ⟨u, h5, h6⟩ := hs0.env t σ hlk
                exact ⟨u, by simp only [Act.put]; rw [Array.getElem?_setIfInBounds_ne hne]; exact h5, h6⟩
            · by_cases e : i = j
              · subst e
                rw [hslot] at hs'
                rw [hhi] at hx
                cases hx
                simp only [Hk.vp, Option.some.injEq] at hσ
                subst hσ
                simp only [Option.some.injEq] at hs'
                rw [hs']
                exact ⟨v, by rw [hs'] at hslot; simp [Act.put, hs0.size, hslt i s' hslot], hv⟩
              · rw [getD_set_ne false e] at hl
                obtain ⟨u, h5, h6⟩ := mid.done j s' x σ hj hl hs' hx hσ
                refine ⟨u, ?_, σ.mono (.fr f) h6⟩
                cases hd : o2.dst with
                | none => exact h5
                | some s =>
                  rw [hd] at hslot
                  have hne : s ≠ s' := fun e2 => e (hsne i j s hslot (by rw [e2]; exact hs'))
                  simp only [Act.put]; rw [Array.getElem?_setIfInBounds_ne hne]; exact h5
            · rw [mid.news j]
              by_cases e : i = j
              · subst e
                constructor
                · rintro ⟨_, h5, _⟩; rw [hunf] at h5; cases h5
                · rintro ⟨_, _, cp, h5⟩; rw [hhi] at h5; cases h5
              · rw [getD_set_ne false e]
            · have e : i ≠ j := fun e => by subst e; rw [hhi] at hx; cases hx; cases hxs
              rw [getD_set_ne false e]
              exact mid.stored j x hx hxs
          split
          · rename_i hw
            exact (h1 hw).wpIn fun v W' ⟨f, hv⟩ => ih _ ps al b _ _ hcnt inv' (hnext v W' f hv)
          · rename_i hw
            have hw' : Region.wanted o2 (yielded ops a.tmps) = false := by simpa using hw
            exact ⟨fun _ _ => trivial, ih _ ps al b _ _ hcnt inv' (hnext undef W (.refl _ _) (h2 hw'))⟩
        | new cp =>
          simp only at hH
          obtain ⟨hgd, ob, hob, hrun⟩ := hH
          have hnost : ∀ q x, Hk.stn q x ∈ hs.take b → q ≠ i := fun q x hm e => by
            subst e
            obtain ⟨j, hj⟩ := List.mem_iff_getElem?.1 hm
            rw [List.getElem?_take] at hj
            split at hj
            · rename_i hjb
              have hjl := (mid.stored j _ hj rfl).2 hjb
              have hjn : j < n := by have := (List.getElem?_eq_some_iff.1 hj).1; omega
              obtain ⟨oj, hoj, hHj⟩ := heads_get (hh ps) j _ hj
              simp only at hHj
              have h3 := List.all_eq_true.1 (List.all_eq_true.1 hdeps j (List.mem_range.2 hjn)) q (by simpa using hHj.1)
              simp only [Bool.and_eq_true, decide_eq_true_eq] at h3
              obtain ⟨oj', hoj', e, he, hb, hon⟩ := Region.waitsFor_spec h3.2
              have := inv.closed j oj' hoj' hjl e he hb
              rw [hon, hunf] at this
              cases this
            · cases hj
          have hcpi : cpAt i cp (hs.take b) = cp := cpAt_nostn hnost
          let ps' : Nat → Nat := fun j => if j = i then W.heap.size else ps j
          have hps : ∀ j, j ∈ al → ps' j = ps j := fun j hj => if_neg (fun e => hnal (by rw [← e]; exact hj))
          have hpi : ps' i = W.heap.size := if_pos rfl
          have hL' : Lat L (hs.take b) ++ newL ps' hs b (i :: al) = Lat L (hs.take b) ++ (⟨some W.heap.size, cp⟩ :: newL ps hs b al) := by
            have : newL ps' hs b (i :: al) = ⟨some W.heap.size, cp⟩ :: newL ps' hs b al := by simp only [newL, List.map_cons, hhi, hpi, hcpi]
            rw [this, newL_ps hps]
          have hmid : Mid c n slots hs E L (listed.setIfInBounds i true) ps' (i :: al) b (a.put o2.dst (.pointer (some ⟨W.heap.size, 0, none⟩))) (W.alloc ob) := by
            have hs0 : St c E (Lat L (hs.take b) ++ newL ps' hs b (i :: al)) a (W.alloc ob) := by
              rw [hL']
              exact (mid.st.alloc (hob _ _)).perm List.perm_middle.symm
            have hext : Ext (ks (Lat L (hs.take b) ++ newL ps hs b al) ++ c.A0) W (ks (Lat L (hs.take b) ++ newL ps' hs b (i :: al)) ++ c.A0) (W.alloc ob) := by
              refine ⟨by simp, fun k hk _ => ha_old W ob k hk, fun k hk hlt => ?_⟩
              rw [hL'] at hk
              simp only [ks_append, ks, List.mem_append, List.mem_cons] at hk ⊢
              rcases hk with (h | h | h) | h
              · exact .inl (.inl h)
              · omega
              · exact .inl (.inr h)
              · exact .inr h
            refine ⟨?_, fun j s' x σ hj hl hs' hx hσ => ?_, fun j => ?_, fun j x hx hxs => ?_, mid.ble⟩
            · cases hd : o2.dst with
              | none => exact hs0
              | some s =>
                rw [hd] at hslot
                refine { (hs0.put (d := s) (τ := .any) (hslt i s hslot) trivial) with env := fun t σ hlk => ?_ }
                have hne : s ≠ t := fun e => disj_spec hE t σ hlk (by rw [← e]; exact List.mem_filterMap.2 ⟨some s, List.mem_of_getElem? hslot, rfl⟩)
                obtain ⟨u, h5, h6⟩ := hs0.env t σ hlk
                exact ⟨u, by simp only [Act.put]; rw [Array.getElem?_setIfInBounds_ne hne]; exact h5, h6⟩
            · by_cases e : i = j
              · subst e
                rw [hslot] at hs'
                rw [hhi] at hx
                cases hx
                simp only [Hk.vp, Option.some.injEq] at hσ
                subst hσ
                simp only [Option.some.injEq] at hs'
                rw [hs']
                exact ⟨.pointer (some ⟨W.heap.size, 0, none⟩), by rw [hs'] at hslot; simp [Act.put, hs0.size, hslt i s' hslot], by rw [hpi]; rfl⟩
              · rw [getD_set_ne false e] at hl
                have hpj : ps' j = ps j := if_neg (fun e' => e e'.symm)
                rw [hpj] at hσ
                obtain ⟨u, h5, h6⟩ := mid.done j s' x σ hj hl hs' hx hσ
                refine ⟨u, ?_, σ.mono hext h6⟩
                cases hd : o2.dst with
                | none => exact h5
                | some s =>
                  rw [hd] at hslot
                  have hne : s ≠ s' := fun e2 => e (hsne i j s hslot (by rw [e2]; exact hs'))
                  simp only [Act.put]; rw [Array.getElem?_setIfInBounds_ne hne]; exact h5
            · rw [List.mem_cons, mid.news j]
              by_cases e : i = j
              · subst e
                exact ⟨fun _ => ⟨hin, hself, cp, hhi⟩, fun _ => .inl rfl⟩
              · rw [getD_set_ne false e]
                exact ⟨fun h => h.resolve_left (fun e' => e e'.symm), .inr⟩
            · have e : i ≠ j := fun e => by subst e; rw [hhi] at hx; cases hx; cases hxs
              rw [getD_set_ne false e]
              exact mid.stored j x hx hxs
          rw [if_pos (by simp [Region.wanted, hgd])]
          refine wpIn_of_value (hrun a W) ?_
          exact ih _ ps' (i :: al) b _ _ hcnt inv' hmid
        | sto q cp =>
          simp only at hH
          obtain ⟨hbi, r, htk, hrp⟩ := hstores rfl
          have hLi : Lat L (hs.take i) = Lat L (hs.take b) := by rw [htk, Lat_app, Lat_plain hrp]
          rw [Nat.zero_add, hLi] at hH
          obtain ⟨p, cp0, hq, hSO⟩ := hH
          have hq' : (Lat L (hs.take b) ++ newL ps hs b al)[q]? = some ⟨some p, cp0⟩ := by
            rw [List.getElem?_append_left (List.getElem?_eq_some_iff.1 hq).1]; exact hq
          obtain ⟨hgd, hdst, hSO⟩ := hSO (Lat L (hs.take b) ++ newL ps hs b al) (fun j e hj => by
            rw [List.getElem?_append_left (List.getElem?_eq_some_iff.1 hj).1]; exact hj)
          obtain ⟨cs, cs', T, h1, h2, h3⟩ := hSO a W hst
          have hs1 := mid.st.store hq' h1 h3
          have htk1 : hs.take (i + 1) = hs.take i ++ [.sto q cp] := by rw [List.take_add_one, hhi]; rfl
          have hL1 : Lat L (hs.take (i + 1)) = (Lat L (hs.take b)).set q ⟨some p, cp⟩ := by
            rw [htk1, Lat_append, hLi]
            simp only [Lat]
            exact setCp_set hq
          have hN1 : newL ps hs (i + 1) al = newL ps hs b al := by
            unfold newL
            refine List.map_congr_left fun j _ => ?_
            congr 1
            split
            · rw [htk1, cpAt_append, htk, cpAt_app, cpAt_plain hrp]; rfl
            · rfl
          have hLL : Lat L (hs.take (i + 1)) ++ newL ps hs (i + 1) al = (Lat L (hs.take b) ++ newL ps hs b al).set q ⟨some p, cp⟩ := by
            rw [hL1, hN1, List.set_append_left _ _ (List.getElem?_eq_some_iff.1 hq).1]
          have hkk : ks (Lat L (hs.take (i + 1)) ++ newL ps hs (i + 1) al) = ks (Lat L (hs.take b) ++ newL ps hs b al) := by rw [hLL]; exact ks_set (cp := cp) hq'
          have hpm : p ∈ ks (Lat L (hs.take b) ++ newL ps hs b al) := mem_ks.2 ⟨_, List.mem_of_getElem? hq', rfl⟩
          have hext : Ext (ks (Lat L (hs.take b) ++ newL ps hs b al) ++ c.A0) W (ks (Lat L (hs.take b) ++ newL ps hs b al) ++ c.A0) (W.setRow p cs') :=
            ⟨by simp, fun k _ ha => setRow_other W p k cs' (fun e => ha (e ▸ List.mem_append.2 (.inl hpm))), fun _ h _ => h⟩
          have hmid : Mid c n slots hs E L (listed.setIfInBounds i true) ps al (i + 1) (a.put o2.dst undef) (W.setRow p cs') := by
            rw [hdst]
            refine ⟨by rw [hLL]; exact hs1, fun j s' x σ hj hl hs' hx hσ => ?_, fun j => ?_, fun j x hx hxs => ?_, hin⟩
            · rw [hkk]
              by_cases e : i = j
              · subst e; rw [hhi] at hx; cases hx; cases hσ
              · rw [getD_set_ne false e] at hl
                obtain ⟨u, h5, h6⟩ := mid.done j s' x σ hj hl hs' hx hσ
                exact ⟨u, h5, σ.mono hext h6⟩
            · rw [mid.news j]
              by_cases e : i = j
              · subst e
                constructor
                · rintro ⟨_, h5, _⟩; rw [hunf] at h5; cases h5
                · rintro ⟨_, _, cp, h5⟩; rw [hhi] at h5; cases h5
              · rw [getD_set_ne false e]
            · by_cases e : i = j
              · subst e; exact ⟨fun _ => by omega, fun _ => hself⟩
              · rw [getD_set_ne false e, mid.stored j x hx hxs]
                constructor
                · intro _; omega
                · intro hj
                  rcases Nat.lt_or_ge j b with h5 | h5
                  · exact h5
                  · have : x ∈ r := by
                      have h6 : (hs.take i)[j]? = some x := by rw [List.getElem?_take, if_pos (by omega)]; exact hx
                      rw [htk, List.getElem?_append_right (by rw [List.length_take]; omega)] at h6
                      exact List.mem_of_getElem? h6
                    have := hrp x this
                    rw [hxs] at this; cases this
          rw [if_pos (by simp [Region.wanted, hgd])]
          refine wpIn_of_skip h2 ?_
          exact ih _ ps al (i + 1) _ _ hcnt inv' hmid
        | stn q cp =>
          simp only at hH
          obtain ⟨hbi, r, htk, hrp⟩ := hstores rfl
          obtain ⟨hcon, cp0, hq0, hSO⟩ := hH
          rw [Nat.zero_add] at hSO
          have hcpi : ∀ (j : Nat) x, cpAt j x (hs.take i) = cpAt j x (hs.take b) := fun j x => by rw [htk, cpAt_app, cpAt_plain hrp]
          have hqal : q ∈ al := (mid.news q).2 ⟨(hdep q (by simpa using hcon)).1, (hdep q (by simpa using hcon)).2, cp0, hq0⟩
          obtain ⟨k, hk⟩ := List.mem_iff_getElem?.1 hqal
          have hent : (newL ps hs b al)[k]? = some ⟨some (ps q), cpAt q cp0 (hs.take i)⟩ := by
            simp only [newL, List.getElem?_map, hk, Option.map_some, hq0, hcpi]
          have hq' : (Lat L (hs.take b) ++ newL ps hs b al)[(Lat L (hs.take b)).length + k]? = some ⟨some (ps q), cpAt q cp0 (hs.take i)⟩ := by
            rw [List.getElem?_append_right (by omega), Nat.add_sub_cancel_left]; exact hent
          obtain ⟨hgd, hdst, hSO⟩ := hSO (Lat L (hs.take b) ++ newL ps hs b al) _ hq'
          obtain ⟨cs, cs', T, h1, h2, h3⟩ := hSO a W hst
          have hs1 := mid.st.store hq' h1 h3
          have htk1 : hs.take (i + 1) = hs.take i ++ [.stn q cp] := by rw [List.take_add_one, hhi]; rfl
          have hL1 : Lat L (hs.take (i + 1)) = Lat L (hs.take b) := by
            rw [htk1, Lat_append]
            simp only [Lat]
            rw [htk, Lat_app, Lat_plain hrp]
          have hnodA : al.Nodup := by
            have := mid.st.nodup
            rw [ks_append, ks_newL] at this
            exact nodup_of_map ps al (List.nodup_append.1 this).2.1
          have hN1 : newL ps hs (i + 1) al = (newL ps hs b al).set k ⟨some (ps q), cp⟩ := by
            apply List.ext_getElem?
            intro j
            rw [List.getElem?_set]
            by_cases e : k = j
            · subst e
              have hkl : k < (newL ps hs b al).length := (List.getElem?_eq_some_iff.1 hent).1
              rw [if_pos rfl, if_pos hkl]
              simp only [newL, List.getElem?_map, hk, Option.map_some, hq0]
              rw [htk1, cpAt_append]
              simp [cpAt]
            · rw [if_neg e]
              simp only [newL, List.getElem?_map]
              cases hj : al[j]? with
              | none => rfl
              | some x =>
                have hxq : x ≠ q := fun e2 => by
                  subst e2
                  obtain ⟨a1, a2⟩ := List.getElem?_eq_some_iff.1 hj
                  obtain ⟨b1, b2⟩ := List.getElem?_eq_some_iff.1 hk
                  exact e ((List.getElem_inj hnodA).1 (b2.trans a2.symm))
                simp only [Option.map_some]
                congr 2
                split
                · rw [htk1, cpAt_append, hcpi]
                  have : Nat.beq q x = false := by
                    cases hb : Nat.beq q x with
                    | false => rfl
                    | true => exact absurd (look_beq.1 hb).symm hxq
                  simp [cpAt, this]
                · rfl
          have hLL : Lat L (hs.take (i + 1)) ++ newL ps hs (i + 1) al = (Lat L (hs.take b) ++ newL ps hs b al).set ((Lat L (hs.take b)).length + k) ⟨some (ps q), cp⟩ := by
            rw [hL1, hN1, List.set_append_right _ _ (by omega), Nat.add_sub_cancel_left]
          have hkk : ks (Lat L (hs.take (i + 1)) ++ newL ps hs (i + 1) al) = ks (Lat L (hs.take b) ++ newL ps hs b al) := by rw [hLL]; exact ks_set (cp := cp) hq'
          have hpm : ps q ∈ ks (Lat L (hs.take b) ++ newL ps hs b al) := mem_ks.2 ⟨_, List.mem_of_getElem? hq', rfl⟩
          have hext : Ext (ks (Lat L (hs.take b) ++ newL ps hs b al) ++ c.A0) W (ks (Lat L (hs.take b) ++ newL ps hs b al) ++ c.A0) (W.setRow (ps q) cs') :=
            ⟨by simp, fun k _ ha => setRow_other W (ps q) k cs' (fun e => ha (e ▸ List.mem_append.2 (.inl hpm))), fun _ h _ => h⟩
          have hmid : Mid c n slots hs E L (listed.setIfInBounds i true) ps al (i + 1) (a.put o2.dst undef) (W.setRow (ps q) cs') := by
            rw [hdst]
            refine ⟨by rw [hLL]; exact hs1, fun j s' x σ hj hl hs' hx hσ => ?_, fun j => ?_, fun j x hx hxs => ?_, hin⟩
            · rw [hkk]
              by_cases e : i = j
              · subst e; rw [hhi] at hx; cases hx; cases hσ
              · rw [getD_set_ne false e] at hl
                obtain ⟨u, h5, h6⟩ := mid.done j s' x σ hj hl hs' hx hσ
                exact ⟨u, h5, σ.mono hext h6⟩
            · rw [mid.news j]
              by_cases e : i = j
              · subst e
                constructor
                · rintro ⟨_, h5, _⟩; rw [hunf] at h5; cases h5
                · rintro ⟨_, _, cp, h5⟩; rw [hhi] at h5; cases h5
              · rw [getD_set_ne false e]
            · by_cases e : i = j
              · subst e; exact ⟨fun _ => by omega, fun _ => hself⟩
              · rw [getD_set_ne false e, mid.stored j x hx hxs]
                constructor
                · intro _; omega
                · intro hj
                  rcases Nat.lt_or_ge j b with h5 | h5
                  · exact h5
                  · have : x ∈ r := by
                      have h6 : (hs.take i)[j]? = some x := by rw [List.getElem?_take, if_pos (by omega)]; exact hx
                      rw [htk, List.getElem?_append_right (by rw [List.length_take]; omega)] at h6
                      exact List.mem_of_getElem? h6
                    have := hrp x this
                    rw [hxs] at this; cases this
          rw [if_pos (by simp [Region.wanted, hgd])]
          refine wpIn_of_skip h2 ?_
          exact ih _ ps al (i + 1) _ _ hcnt inv' hmid

theorem Wp.draw {rid : Nat} {l : List Oper} (hm : c.P.follows .mixedOrders = true) (n : Nat) (slots : List (Option Nat)) (deps : List (List Nat)) (hs : List Hk) (sts : List Bool) (hB : drawB l.toArray n slots deps sts c.n = true) (hS : hs.map Hk.isSto = sts) (hE : disj E (slots.filterMap id) = true)
    (hlen : Nat.beq hs.length n = true) (hh : ∀ ps, Heads c l.toArray ps slots hs E L 0 l hs deps)
    (ht : ∀ ps : Nat → Nat, Sq c l.toArray Q (l.drop n) (zipP ps E 0 slots hs) (entsP ps hs (Lat L hs) 0 hs)) : Wp c Q (.region rid l.toArray true) E L := fun a W s => by
  subst hS
  refine wpIn_region_any hm ?_
  have hn : n ≤ l.toArray.size := by
    simp only [drawB, Bool.and_eq_true, decide_eq_true_eq] at hB
    exact hB.1.1.1.1.1.1.1.2
  have inv0 : HeadInv .any l.toArray n (Array.replicate l.toArray.size false) :=
    { size := by simp
      closed := fun j oj _ hl => by rw [getD_replicate_false] at hl; cases hl
      tail := fun t _ ht => by simp at ht; simp [ht] }
  have mid0 : Mid c n slots hs E L (Array.replicate l.toArray.size false) (fun _ => 0) [] 0 a W.drew :=
    { st := by simpa [Lat, newL] using s.world (Fr.drew W)
      done := fun j s h τ _ hl => by rw [getD_replicate_false] at hl; cases hl
      news := fun j => by
        constructor
        · intro h; cases h
        · rintro ⟨_, h, _⟩; rw [getD_replicate_false] at h; cases h
      stored := fun j h _ _ => by
        rw [getD_replicate_false]
        constructor
        · intro h; cases h
        · intro h; omega
      ble := Nat.zero_le _ }
  have h := draw_core (ops := l.toArray) (Q := Q) hB hE (look_beq.1 hlen) (by simpa using hh) (by simpa using ht) n (Array.replicate l.toArray.size false) (fun _ => 0) [] 0 a W.drew
    (Nat.le_trans (List.length_filter_le _ _) (by simp)) inv0 mid0
  rw [show n + (l.toArray.size - n) = l.toArray.size by omega] at h
  exact h

end
end Gv
