/-
  The library of the decompiler, as far as it is needed here. Conditions: none.
-/
import Derived.Test.YtodajdohokmjnaaMl1
namespace Gv
open Go
set_option linter.unusedVariables false
set_option linter.unusedSimpArgs false

theorem flat_tup2 {τ σ : VP} (h : τ.Flat) (k : σ.Flat) : (VP.tup [τ, σ]).Flat := fun A W A' W' v ⟨vs, h1, h2⟩ => by
  refine ⟨vs, h1, ?_⟩
  generalize vs.toList = l at h2
  cases h2 with
  | cons a r => cases r with
    | cons b r => cases r; exact .cons (h _ _ _ _ _ a) (.cons (k _ _ _ _ _ b) .nil)
section
variable {c : Cx} {E : List (Nat × VP)} {L : List Ent} {ops : Array Oper} {Q : Exit → Act → World → Prop}
variable {d : Option Tmp} {ty : TypeId} {pos : String} {af : Array Edge} {g : Option (Nat × Bool)} {x y : Operand} {t t2 : TypeId}

theorem HR.via {o : Oper} {τ : VP} {E' : List (Nat × VP)} {L' : List Ent} (hf : τ.Flat) (hs : ∀ a W, St c E L a W → St c E' L' a W) (h : HR c E' L' o τ) : HR c E L o τ := fun a W st => by
  have := h a W (hs a W st)
  unfold OpTo at this ⊢
  exact Oper.wp_mono (fun a' W' ⟨v, h1, h2, h3⟩ => ⟨v, h1, h2, hf _ _ _ _ _ h3⟩) this

/-- more is known of a slot -/
theorem St.tell {a : Act} {W : World} (s : St c E L a W) {sl : Nat} {σ τ : VP} (hl : look E sl = some σ) (h : ∀ v, σ.holds (ks L ++ c.A0) W v → τ.holds (ks L ++ c.A0) W v) : St c ((sl, τ) :: E) L a W := by
  refine { s with env := fun t τ' hlk => ?_ }
  simp only [look] at hlk
  by_cases e : Nat.beq sl t = true
  · rw [e] at hlk
    simp only [cond_true, Option.some.injEq] at hlk
    subst hlk
    have := look_beq.1 e
    subst this
    obtain ⟨v, h1, h2⟩ := s.env sl _ hl
    exact ⟨v, h1, h v h2⟩
  · simp only [Bool.not_eq_true] at e
    rw [e] at hlk
    exact s.env t τ' hlk

/-- the variable of entry i is written no more: its block is one that others may look at -/
theorem St.ptrAt {a : Act} {W : World} (s : St c E L a W) {i p : Nat} {α : Type} [Rp α] {z : α} (hL : L[i]? = some ⟨some p, .var z⟩) :
    (VP.ptr z).holds (ks (L.set i ⟨none, .dead⟩) ++ c.A0) W (.pointer (some ⟨p, 0, none⟩)) := by
  obtain ⟨o, hob, cs, T, rfl, hr⟩ := s.own _ (List.mem_of_getElem? hL)
  have hlen : cs.toList.length = Rp.size α := Rp.len hr
  refine ⟨p, 0, cs, T, (0, 0), rfl, s.not_left hL, hob, by simp at hlen; omega, ?_⟩
  rw [List.drop_zero, ← hlen, List.take_length]
  have hsub := ks_set_none_sub (L := L) (i := i) (cp := .dead)
  exact Rp.mono (.drop fun k hm => by
    rcases List.mem_append.1 hm with hm | hm
    · exact List.mem_append.2 (.inl (hsub.subset hm))
    · exact List.mem_append.2 (.inr hm)) hr

/-- the method f bound to what p points at -/
abbrev bnd (f p : Nat) : Value := .func (.func f) #[.pointer (some ⟨p, 0, none⟩)] #[]

theorem r_mkB {f p : Nat} (hx : Look c E L x (.eq (.pointer (some ⟨p, 0, none⟩)))) : HR c E L ⟨d, .makeFunc (.func f) #[x] #[], ty, pos, af, g⟩ (.eq (bnd f p)) := .pure fun a W s => by
  have h := hx a W s
  refine ⟨_, ?_, rfl⟩
  have h' : a.eval x = .pointer (some ⟨p, 0, none⟩) := h
  simp [execOp, Instr.makeFunc, h', bnd]

theorem fn2_bnd {f p : Nat} {α β γ δ : Type} [Rp α] [Rp β] [Rp γ] [Rp δ] {z : δ} {F : α → β → Option γ} {P : Program} (en : En P f) (h : ∀ x y r, F x y = some r → Meets P f [.ptr z, .of x, .of y] (.of r)) {A : List Nat} {W : World}
    (hp : (VP.ptr z).holds A W (.pointer (some ⟨p, 0, none⟩))) : (VP.fn2 P F).holds A W (bnd f p) :=
  ⟨f, _, #[], rfl, en, fun A' W' e hA x y r vx vy hF hv hv2 => by simpa using h x y r hF A' W' [_, vx, vy] hA (.cons (VP.mono _ e hp) (.cons hv (.cons hv2 .nil)))⟩
/-! ### Lending: steps ahead of one operation -/

/-- an own variable -/
theorem HR.lendV {o : Oper} {τ σ : VP} {p : Nat} {α : Type} [Rp α] {z : α} (i sl : Nat) (hl : look E sl = some σ) (hv : ∀ A W v, σ.holds A W v → v = .pointer (some ⟨p, 0, none⟩)) (hL : L[i]? = some ⟨some p, .var z⟩) (hf : τ.Flat)
    (h : HR c ((sl, .ptr z) :: E) (L.set i ⟨none, .dead⟩) o τ) : HR c E L o τ :=
  .via hf (fun a W s => (s.kill i).tell (σ := σ) hl (fun v hh => by rw [hv _ _ _ hh]; exact s.ptrAt hL)) h
/-- .. to a method that is bound to it -/
theorem HR.lendB2 {o : Oper} {τ : VP} {p f : Nat} {α β γ δ : Type} [Rp α] [Rp β] [Rp γ] [Rp δ] {z : δ} {F : α → β → Option γ} (i sl : Nat) (hl : look E sl = some (.eq (bnd f p))) (hL : L[i]? = some ⟨some p, .var z⟩) (en : En c.P f)
    (hF : ∀ x y r, F x y = some r → Meets c.P f [.ptr z, .of x, .of y] (.of r)) (hf : τ.Flat) (h : HR c ((sl, .fn2 c.P F) :: E) (L.set i ⟨none, .dead⟩) o τ) : HR c E L o τ :=
  .via hf (fun a W s => (s.kill i).tell hl (fun v hh => by have hh' : v = bnd f p := hh; rw [hh']; exact fn2_bnd en hF (s.ptrAt hL))) h
/-- its own slices read as lists -/
theorem HR.lendT {o : Oper} {τ : VP} {p cap T : Nat} {key : Option Nat} {β γ : Type} [Rp β] [Rp γ] {b b' : β} {xs : List γ} {os os' : List (Nat × Value)} (l : Lens β (List γ)) (i j q : Nat) (hij : Nat.beq i j = false) (hL : L[i]? = some ⟨some p, .varX b os⟩) (hJ : L[j]? = some ⟨key, .row T xs cap⟩)
    (hq : os[q]? = some (l.off, slv key xs.length cap)) (hb : l.set b xs = b') (hos : delHole os l.off = os') (hf : τ.Flat) (h : HR c E ((L.set j ⟨none, .dead⟩).set i ⟨some p, .varX b' os'⟩) o τ) : HR c E L o τ :=
  .via hf (fun a W s => s.thaw l (fun e => by rw [e, Nat.beq_refl] at hij; cases hij) hL hJ q hq hb hos) h
theorem HR.lendTS {o : Oper} {τ : VP} {p cap T : Nat} {key : Option Nat} {β γ : Type} [Rp β] [Rp γ] {b b' : β} {xs : List γ} {os os' : List (Nat × Value)} (l : Lens β (List γ)) (i j q sl : Nat) (hij : Nat.beq i j = false) (hL : L[i]? = some ⟨some p, .varX b os⟩) (hJ : L[j]? = some ⟨key, .row T xs cap⟩)
    (hq : os[q]? = some (l.off, slv key xs.length cap)) (hb : l.set b xs = b') (hos : delHole os l.off = os') (hsl : look E sl = some (.eq (slv key xs.length cap))) (hf : τ.Flat) (h : HR c ((sl, .of xs) :: E) ((L.set j ⟨none, .dead⟩).set i ⟨some p, .varX b' os'⟩) o τ) : HR c E L o τ :=
  .via hf (fun a W s => s.thawS l (fun e => by rw [e, Nat.beq_refl] at hij; cases hij) hL hJ q hq hb hos hsl) h
theorem HR.lend0 {o : Oper} {τ : VP} {p : Nat} {β : Type} [Rp β] {b : β} (i : Nat) (hL : L[i]? = some ⟨some p, .varX b []⟩) (hf : τ.Flat) (h : HR c E (L.set i ⟨some p, .var b⟩) o τ) : HR c E L o τ :=
  .via hf (fun a W s => s.retell (cp' := .var b) hL (fun o ⟨cs, T, h1, h2⟩ => ⟨cs, T, h1, h2.1⟩) id) h

/-! ### Pointers: nil or not, boxed -/

theorem run_ptr_eq {P : Program} {T : TypeId} {e : TypeId} (h : P.underlying T = some (.pointer e)) (p : Addr) (W : World) (n : Nat) : (Op.equalIn (n + 1) T (.pointer (some p)) (.pointer none)).run P W = .ok false W := by
  simp [Op.equalIn, run_underlying h]
/-- an own pointer is not nil -/
theorem r_pnil {p : Addr} {e : TypeId} (hu : c.P.underlying t = some (.pointer e)) (hx : Look c E L x (.eq (.pointer (some p)))) : HR c E L ⟨d, .binOp .eql t x (.const (.pointer none)) t2, ty, pos, af, g⟩ (.of false) := .pure fun a W s => by
  have hn : a.eval (.const (.pointer none)) = .pointer none := rfl
  have h1 : a.eval x = .pointer (some p) := hx a W s
  refine ⟨.bool false, ?_, of_bool.2 rfl⟩
  simp only [execOp, eqGuard, binOp, h1, hn, Op.equal, Op.maxDepth]
  simp [run_ptr_eq hu p W 9999]
theorem r_pnilp {γ : Type} [Rp γ] {r : γ} {e : TypeId} (hu : c.P.underlying t = some (.pointer e)) (hx : Look c E L x (.ptr r)) : HR c E L ⟨d, .binOp .eql t x (.const (.pointer none)) t2, ty, pos, af, g⟩ (.of false) := .pure fun a W s => by
  have hn : a.eval (.const (.pointer none)) = .pointer none := rfl
  obtain ⟨b, off, cur, T, fz, h1, _⟩ := hx a W s
  refine ⟨.bool false, ?_, of_bool.2 rfl⟩
  simp only [execOp, eqGuard, binOp, h1, hn, Op.equal, Op.maxDepth]
  simp [run_ptr_eq hu _ W 9999]
theorem Wp.bring {code : Code} (i : Nat) {e : Ent} (h : L[i]? = Option.some e) (k : Wp c Q code E (e :: L.eraseIdx i)) : Wp c Q code E L := fun a W s => k a W (s.bring h)
theorem Wp.clr {z : Code} {p : Nat} {β γ : Type} [Rp β] [Rp γ] {b b' : β} {os : List (Nat × Value)} {u : Value} (l : Lens β (List γ)) (i q : Nat) (hL : L[i]? = Option.some ⟨Option.some p, .varX b os⟩) (hq : os[q]? = Option.some (l.off, u)) (hb : l.set b [] = b')
    (k : Wp c Q z E (L.set i ⟨Option.some p, .varX b' os⟩)) : Wp c Q z E L := fun a W s =>
  k a W (s.again (cp' := .varX b' os) hL (fun A W o ⟨cs, T, h1, h2⟩ => ⟨cs, T, h1, hb ▸ repH_clr l h2 (List.mem_of_getElem? hq)⟩) id)
theorem one_eqp {p : Option Addr} : ∀ A W v, (VP.eq (.pointer p)).holds A W v → v.oneCell' = true := fun A W v h => by
  have h' : v = .pointer p := h
  rw [h']; rfl

/-! ### Operations that leave the own blocks as they are, though they may be at work in them -/

def HS (c : Cx) (E : List (Nat × VP)) (L : List Ent) (o : Oper) (τ : VP) : Prop :=
  ∀ a W, St c E L a W → OpTo c.P o a W fun v W' => St c E L a W' ∧ τ.holds (ks L ++ c.A0) W' v

theorem Sq.vS {o : Oper} {rest : List Oper} {d : Nat} {τ : VP} (h : HS c E L o τ) (hg : o.guard = none) (hd : o.dst = some d) (hn : Nat.blt d c.n = true)
    (k : Sq c ops Q rest ((d, τ) :: E) L) : Sq c ops Q (o :: rest) E L := fun a W s =>
  wpList_op hg (h a W s) fun v W' ⟨f, hv⟩ => by
    rw [hd]
    exact k _ _ (f.put (by simpa using hn) hv)
theorem Sq.gS {o : Oper} {rest : List Oper} {d j g : Nat} {b want : Bool} {τ : VP} (h : b = want → HS c E L o τ) (hg : o.guard = some (j, want)) (hj : (ops[j]?).bind (·.dst) = some g)
    (hl : look E g = some (.of b)) (hd : o.dst = some d) (hn : Nat.blt d c.n = true)
    (k : Sq c ops Q rest ((d, .cond (b = want) τ) :: E) L) : Sq c ops Q (o :: rest) E L := fun a W s => by
  have hy := yielded_of hj hl s
  unfold Cx.wpl wpListIn
  by_cases hb : b = want
  · rw [if_pos (by simp [Region.wanted, hg, hy, hb])]
    refine ((h hb a W s).wpIn fun v W' ⟨f, hv⟩ => ?_)
    rw [hd]
    exact k _ _ (f.put (by simpa using hn) ⟨fun _ => hv, fun h => absurd hb h⟩)
  · rw [if_neg (by simp [Region.wanted, hg, hy, hb])]
    rw [hd]
    exact ⟨fun _ _ => trivial, k _ _ (s.put (by simpa using hn) ⟨fun h => absurd h hb, fun _ => rfl⟩)⟩
/-- the entries at these places -/
def Pick (L : List Ent) : List Nat → List Ent → Prop
  | [], [] => True
  | i :: is, e :: es => L[i]? = some e ∧ Pick L is es
  | _, _ => False
theorem eraseIdx_get {L : List Ent} {i j : Nat} (h : i ≠ j) : (L.eraseIdx i)[if j < i then j else j - 1]? = L[j]? := by
  rw [List.getElem?_eraseIdx]
  by_cases h1 : j < i
  · simp [h1]
  · have : ¬ (j - 1 < i) := by omega
    simp only [h1, if_false, this]
    congr 1; omega
theorem Pick.shift {L : List Ent} {i : Nat} : ∀ {is : List Nat} {es : List Ent}, Pick L is es → i ∉ is → Pick (L.eraseIdx i) (is.map fun j => if j < i then j else j - 1) es
  | [], [], _, _ => trivial
  | j :: is, e :: es, ⟨h1, h2⟩, hn => by
    simp only [List.mem_cons, not_or] at hn
    exact ⟨by rw [eraseIdx_get hn.1]; exact h1, Pick.shift h2 hn.2⟩
theorem nodup_shift {i : Nat} : ∀ {is : List Nat}, is.Nodup → i ∉ is → (is.map fun j => if j < i then j else j - 1).Nodup
  | [], _, _ => by simp
  | j :: is, h, hn => by
    simp only [List.mem_cons, not_or] at hn
    obtain ⟨h1, h2⟩ := List.nodup_cons.1 h
    refine List.nodup_cons.2 ⟨fun hm => ?_, nodup_shift h2 hn.2⟩
    obtain ⟨k, hk, he⟩ := List.mem_map.1 hm
    have hki : k ≠ i := fun e => hn.2 (e ▸ hk)
    have hkj : k ≠ j := fun e => h1 (e ▸ hk)
    have hji : j ≠ i := fun e => hn.1 e.symm
    have he' : (if k < i then k else k - 1) = (if j < i then j else j - 1) := he
    split at he' <;> split at he' <;> omega
theorem Pick.perm : ∀ {is : List Nat} {es L : List Ent}, Pick L is es → is.Nodup → ∃ R, L.Perm (es ++ R)
  | [], [], L, _, _ => ⟨L, List.Perm.refl _⟩
  | i :: is, e :: es, L, ⟨h1, h2⟩, hn => by
    obtain ⟨hn1, hn2⟩ := List.nodup_cons.1 hn
    obtain ⟨R, hR⟩ := (h2.shift hn1).perm (nodup_shift hn2 hn1)
    exact ⟨R, (bring_perm h1).trans (hR.cons e)⟩
  termination_by is => is.length
  decreasing_by simp

theorem HS.call {f : FuncId} {xs : List Operand} {ats : Array TypeId} {τs : List VP} {Lin : List Ent} {ρ : Unit → VP} {Lo : Unit → List Ent} (is : List Nat) (en : En c.P f) (h : MeetsO c.P f τs Lin ρ Lo)
    (hx : Looks c E L xs τs) (hn : decide is.Nodup = true) (hp : Pick L is Lin) (hl : Lo () = Lin) : HS c E L ⟨d, .call ⟨.value (.func f), xs.toArray, ats⟩, ty, pos, af, g⟩ (ρ ()) := fun a W s => by
  obtain ⟨R, hR⟩ := hp.perm (of_decide_eq_true hn)
  have s' := s.perm hR
  have hkp := ks_perm hR
  have hAs : ∀ k, k ∈ ks L ++ c.A0 ↔ k ∈ ks (Lin ++ R) ++ c.A0 := fun k => by
    simp only [List.mem_append]; rw [hkp.mem_iff]
  have hh : HoldsAll (ks (Lin ++ R) ++ c.A0) W τs (xs.map a.eval) := (hx.holdsO s).mono (.drop fun k hm => (hAs k).2 hm)
  have ho := opto_callO (d := d) (ty := ty) (pos := pos) (af := af) (g := g) (ats := ats) en h s' hh
  unfold OpTo at ho ⊢
  refine Oper.wp_mono (fun a' W' ⟨v, h1, dd, h2, h3⟩ => ⟨v, h1, ?_, ?_⟩) ho
  · cases dd; rw [hl] at h2; exact h2.perm hR.symm
  · cases dd
    rw [hl] at h3
    exact VP.mono _ (.drop fun k hm => (hAs k).1 hm) h3

theorem Pick.set {L : List Ent} {i j : Nat} {x y e1 e2 : Ent} (hij : i ≠ j) (hi : L[i]? = some e1) (hj : L[j]? = some e2) : ∃ R, L.Perm (e1 :: e2 :: R) ∧ ((L.set i x).set j y).Perm (x :: y :: R) := by
  have hpi : Pick L [i, j] [e1, e2] := ⟨hi, hj, trivial⟩
  have hle : ∀ M : List Ent, ∀ u v : Ent, M[i]? = some u → M[j]? = some v → M.Perm (u :: v :: (M.eraseIdx i).eraseIdx (if j < i then j else j - 1)) := fun M u v h1 h2 =>
    (bring_perm h1).trans ((bring_perm (by rw [eraseIdx_get hij]; exact h2)).cons u)
  refine ⟨_, hle L e1 e2 hi hj, ?_⟩
  have hi' := (List.getElem?_eq_some_iff.1 hi).1
  have hj' := (List.getElem?_eq_some_iff.1 hj).1
  have h1 := hle ((L.set i x).set j y) x y (by rw [List.getElem?_set_ne (Ne.symm hij), List.getElem?_set_self hi']) (by rw [List.getElem?_set_self (by simpa using hj')])
  have h2 : ((L.set i x).set j y).eraseIdx i = (L.eraseIdx i).set (if j < i then j else j - 1) y := by
    apply List.ext_getElem?
    intro k
    simp only [List.getElem?_eraseIdx, List.getElem?_set, List.length_set, List.length_eraseIdx, hi', if_true]
    by_cases hk : k < i <;> by_cases hji : j < i <;> simp only [hk, hji, if_true, if_false] <;> (repeat' split) <;> first | rfl | omega | skip
  rw [h2, List.eraseIdx_set_eq] at h1
  exact h1

/-- two own blocks go in, one comes out; the other is gone -/
theorem Sq.callO2 {rest : List Oper} {dd : Nat} {f : FuncId} {xs : List Operand} {ats : Array TypeId} {τs : List VP} {e1 e2 : Ent} {δ : Type} {ρ : δ → VP} {Lo : δ → List Ent} (lo : δ → Ent) (i j : Nat) (en : En c.P f) (h : MeetsO c.P f τs [e1, e2] ρ Lo)
    (hx : Looks c E L xs τs) (hij : Nat.beq i j = false) (hi : L[i]? = some e1) (hj : L[j]? = some e2) (hlo : ∀ q, Lo q = [lo q]) (hn : Nat.blt dd c.n = true) (k : ∀ q, Sq c ops Q rest ((dd, ρ q) :: E) ((L.set i (lo q)).set j ⟨none, .dead⟩)) :
    Sq c ops Q (⟨some dd, .call ⟨.value (.func f), xs.toArray, ats⟩, ty, pos, af, none⟩ :: rest) E L := fun a W s => by
  have hne : i ≠ j := fun e => by rw [e, Nat.beq_refl] at hij; cases hij
  obtain ⟨R, hR, _⟩ := Pick.set (x := e1) (y := e2) hne hi hj
  have s' := s.perm hR
  have hkp := ks_perm hR
  have hAs : ∀ k, k ∈ ks L ++ c.A0 ↔ k ∈ ks ([e1, e2] ++ R) ++ c.A0 := fun k => by
    simp only [List.mem_append]; rw [hkp.mem_iff]; simp [ks_append]
  have hh : HoldsAll (ks ([e1, e2] ++ R) ++ c.A0) W τs (xs.map a.eval) := (hx.holdsO s).mono (.drop fun k hm => (hAs k).2 hm)
  refine wpList_op rfl (opto_callO (Lin := [e1, e2]) en h s' hh) fun v W' ⟨q, h2, h3⟩ => ?_
  refine k q _ _ ?_
  obtain ⟨R', hR1, hR2⟩ := Pick.set (x := lo q) (y := ⟨none, .dead⟩) hne hi hj
  have hRR : (e1 :: e2 :: R).Perm (e1 :: e2 :: R') := hR.symm.trans hR1
  have hRR' : R.Perm R' := (hRR.cons_inv).cons_inv
  rw [hlo] at h2 h3
  have h4 : St c E (lo q :: ⟨none, .dead⟩ :: R) a W' := { h2 with
    own := fun e he => by
      simp only [List.mem_cons] at he
      rcases he with rfl | rfl | he
      · exact h2.own _ (by simp)
      · trivial
      · exact h2.own _ (by simp [he]) }
  have h5 : St c E ((L.set i (lo q)).set j ⟨none, .dead⟩) a W' := h4.perm (((hRR'.cons _).cons _).trans hR2.symm)
  have h6 : (ks ((L.set i (lo q)).set j ⟨none, .dead⟩)).Perm (ks (lo q :: R)) := by
    have := ks_perm (hR2.trans ((hRR'.symm.cons _).cons _))
    simpa [ks] using this
  refine h5.put (by simpa using hn) (VP.mono _ (.drop fun k hm => ?_) h3)
  rcases List.mem_append.1 hm with hm | hm
  · exact List.mem_append.2 (.inl (h6.mem_iff.1 hm))
  · exact List.mem_append.2 (.inr hm)

theorem gss {L : List Ent} {i : Nat} {x e : Ent} (h : L[i]? = some x) : (L.set i e)[i]? = some e := by
  rw [List.getElem?_set_self (List.getElem?_eq_some_iff.1 h).1]
theorem gso {L : List Ent} {i j : Nat} {r : Option Ent} {e : Ent} (hn : Nat.beq j i = false) (h : L[i]? = r) : (L.set j e)[i]? = r := by
  rw [List.getElem?_set_ne (fun e => by rw [e, Nat.beq_refl] at hn; cases hn)]; exact h

/-! ### slices.Delete -/

theorem src_none {p lo cap : Nat} {α : Type} [Rp α] (hy : Look c E L y (.eq (vslv (some p) lo 0 cap (Rp.size α)))) : Src c E L y 0 ([] : List α) := fun a W s => by
  have h1 : a.eval y = _ := hy a W s
  have hc := run_loadCells_list (P := c.P) W (if cap = lo then (⟨p, 0, none⟩ : Addr) else ⟨p, lo * Rp.size α, none⟩) [] (fun j v hv => by simp at hv)
  refine ⟨by rw [h1]; rfl, [], ?_, ⟨by simp, fun i hi => by simp at hi⟩, by simp⟩
  rw [h1]
  simp only [vslv, Builtin.firstCells, List.length_nil, Nat.zero_mul]
  exact hc

/-- append within what is there -/
theorem Sq.appIn {rest : List Oper} {i e p dd m N cap T : Nat} {α : Type} [Rp α] {xs vs r : List α} (hu : c.P.underlying t = some (.slice e)) (te : Ty c.P e α)
    (hx : Look c E L x (.eq (slv (some p) m cap))) (hy : Src c E L y N vs) (hN : vs.length = N) (hL : L[i]? = some ⟨some p, .row T xs cap⟩) (hm : m + N ≤ xs.length) (hr : xs.take m ++ vs ++ xs.drop (m + N) = r) (hn : Nat.blt dd c.n = true)
    (k : Sq c ops Q rest ((dd, .eq (slv (some p) (m + N) cap)) :: E) (L.set i ⟨some p, .row T r cap⟩)) :
    Sq c ops Q (⟨some dd, .call ⟨.builtin .append, #[x, y], #[t, t]⟩, ty, pos, af, none⟩ :: rest) E L := fun a W s => by
  subst hN
  subst hr
  have h1 : a.eval x = _ := hx a W s
  obtain ⟨hl, cells, hc, hrp, h1c⟩ := hy a W s
  obtain ⟨o, ho, hh⟩ := s.own _ (List.mem_of_getElem? hL)
  have hh0 := hh
  obtain ⟨cs0, rfl, g1, g2, g3, g4⟩ := hh
  obtain ⟨cs, ho2, hfit, hnew⟩ := row_part (lo := m) hm hh0 hrp
  have hcs : cs = cs0 := by injection ho2 with h _; exact h.symm
  subst hcs
  obtain ⟨ie, hie, hsz⟩ := te.info
  have hst := run_storeCells_at (P := c.P) p (m * Rp.size α) T cells 0 cs W ho hfit h1c
  simp only [Nat.add_zero] at hst
  have hneed : m + vs.length ≤ cap := by omega
  have hrun : (execOp a.eval ⟨some dd, .call ⟨.builtin .append, #[x, y], #[t, t]⟩, ty, pos, af, none⟩).run c.P W = .ok (.value (slv (some p) (m + vs.length) cap)) (W.setRow p (cs.toList.take (m * Rp.size α) ++ cells ++ cs.toList.drop (m * Rp.size α + cells.length)).toArray) := by
    simp [execOp, resolve, invoke, builtin, Builtin.append_, h1, slv, run_underlying hu, hl, Go.sizeOf, typeInfo, hie, hsz, hneed, hc, addr_add, hst]
  refine wpList_op rfl (R := fun v W1 => v = slv (some p) (m + vs.length) cap ∧ W1 = W.setRow p (cs.toList.take (m * Rp.size α) ++ cells ++ cs.toList.drop (m * Rp.size α + cells.length)).toArray) (.of_run hrun ⟨rfl, rfl⟩) fun v W1 ⟨hv, hw⟩ => ?_
  subst hv
  subst hw
  exact k _ _ ((s.store hL ho hnew).put (by simpa using hn) rfl)

/-- the bounds of a part are looked at, no more -/
theorem r_slice3 {i T cap : Nat} {key : Option Nat} {α : Type} [Rp α] {xs : List α} {e : TypeId} {lo hi mx : Operand} {m n k : Nat} (hu : c.P.underlying t = some (.slice e)) (te : Ty c.P e α) (hx : Look c E L x (.eq (slv key xs.length cap)))
    (hL : L[i]? = some ⟨key, .row T xs cap⟩) (hlo : Look c E L lo (.of (m : Int))) (hhi : Look c E L hi (.of (n : Int))) (hmx : Look c E L mx (.of (k : Int))) (h : m ≤ n ∧ n ≤ k ∧ k ≤ xs.length) :
    HR c E L ⟨d, .slice t x (some lo) (some hi) (some mx), ty, pos, af, g⟩ .any := .pure fun a W s => by
  obtain ⟨h2, h3, h4⟩ := h
  obtain ⟨ie, hie, hsz⟩ := te.info
  have h1 : a.eval x = _ := hx a W s
  have e1 := of_int.1 (hlo a W s)
  have e2 := of_int.1 (hhi a W s)
  have e3 := of_int.1 (hmx a W s)
  have hcap : ∃ ad n', slv key xs.length cap = .slice ad n' cap ∨ (slv key xs.length cap = .slice none 0 0 ∧ k = 0) := by
    cases key with
    | some p => exact ⟨_, _, .inl rfl⟩
    | none =>
      have ho := s.own _ (List.mem_of_getElem? hL)
      have hxs : xs = [] := ho.1
      subst hxs
      exact ⟨none, 0, .inr ⟨rfl, by simpa using h4⟩⟩
  have hkc : xs.length ≤ cap ∨ key = none := by
    cases key with
    | none => exact .inr rfl
    | some p =>
      obtain ⟨o, ho, cs, rfl, g1, g2, _⟩ := s.own _ (List.mem_of_getElem? hL)
      exact .inl g2
  cases key with
  | none =>
    have ho := s.own _ (List.mem_of_getElem? hL)
    have hxs : xs = [] := ho.1
    subst hxs
    have hk0 : k = 0 := by simpa using h4
    subst hk0
    have hn0 : n = 0 := by omega
    subst hn0
    have hm0 : m = 0 := by omega
    subst hm0
    have hb : ∀ (code : BoundsCode), (Instr.sliceBound (.int .i64 0) 0 code).run c.P W = .ok 0 W := fun code => run_sliceB (n := 0) (m := 0) (Nat.le_refl _) rfl
    have e1' : a.eval lo = .int .i64 0 := e1
    have e2' : a.eval hi = .int .i64 0 := e2
    have e3' : a.eval mx = .int .i64 0 := e3
    refine ⟨.slice none 0 0, ?_, trivial⟩
    simp [execOp, Instr.sliceAt, Instr.slice, Instr.sliceBounds, h1, slv, run_underlying hu, Go.sizeOf, typeInfo, hie, e1', e2', e3', hb]
  | some p =>
    have hkc' : k ≤ cap := by
      rcases hkc with h | h
      · omega
      · cases h
    refine ⟨.slice (some (if k = m then ⟨p, 0, none⟩ else ⟨p, m * Rp.size α, none⟩)) (n - m) (k - m), ?_, trivial⟩
    have hb : ∀ (a b : Nat) (code : BoundsCode), a ≤ b → (Instr.sliceBound (.int .i64 (a : Int)) b code).run c.P W = .ok a W := fun a b code h => run_sliceB h rfl
    simp [execOp, Instr.sliceAt, Instr.slice, Instr.sliceBounds, h1, slv, run_underlying hu, Go.sizeOf, typeInfo, hie, hsz, e1, e2, e3, hb k cap _ hkc', hb n k _ h3, hb m n _ h2, addr_add]
    split <;> rfl

theorem r_lenE {p n cap e : Nat} (hu : c.P.underlying t = some (.slice e)) (hx : Look c E L x (.eq (slv (some p) n cap))) : HR c E L ⟨d, .call ⟨.builtin .len, #[x], #[t]⟩, ty, pos, af, g⟩ (.of (n : Int)) := .pure fun a W s => by
  have h1 : a.eval x = _ := hx a W s
  refine ⟨.int .i64 n, ?_, of_int.2 rfl⟩
  simp [execOp, resolve, invoke, builtin, Builtin.len_, h1, slv, run_underlying hu, goInt]
/-- what lies behind is put over what goes -/
theorem Sq.appDel {rest : List Oper} {i e p dd m n cap T : Nat} {α : Type} [Rp α] {xs : List α} (hu : c.P.underlying t = some (.slice e)) (te : Ty c.P e α)
    (hx : Look c E L x (.eq (vslv (some p) 0 (m - 0) cap (Rp.size α)))) (hy : Look c E L y (.eq (vslv (some p) n (xs.length - n) cap (Rp.size α)))) (hL : L[i]? = some ⟨some p, .row T xs cap⟩) (hmn : m < n) (hn : n ≤ xs.length) (hd : Nat.blt dd c.n = true)
    (k : Sq c ops Q rest ((dd, .eq (slv (some p) (m + (xs.length - n)) cap)) :: E) (L.set i ⟨some p, .row T (xs.take m ++ xs.drop n ++ xs.drop (m + (xs.length - n))) cap⟩)) :
    Sq c ops Q (⟨some dd, .call ⟨.builtin .append, #[x, y], #[t, t]⟩, ty, pos, af, none⟩ :: rest) E L := by
  have hx' : Look c E L x (.eq (slv (some p) m cap)) := by
    rw [vslv_zero, Nat.sub_zero] at hx; exact hx
  rcases Nat.lt_or_ge n xs.length with hnl | hnl
  · have hs := src_own (k := xs.length - n) hy hL (by omega) (by omega)
    rw [show (xs.drop n).take (xs.length - n) = xs.drop n by rw [List.take_of_length_le (by simp)]] at hs
    exact Sq.appIn hu te hx' hs (by simp) hL (by omega) rfl hd k
  · have h0 : xs.length - n = 0 := by omega
    rw [h0] at hy k
    have hs := src_none (α := α) hy
    rw [show ([] : List α) = xs.drop n by rw [List.drop_of_length_le hnl]] at hs
    exact Sq.appIn hu te hx' hs (by simp; omega) hL (by omega) rfl hd k
theorem To.again {z : Exit} {key : Option Nat} {cp : CP} (cp' : CP) (i : Nat) (hL : L[i]? = some ⟨key, cp⟩) (h : ∀ A W o, cp.holds A W o → cp'.holds A W o) (hn : cp.nilOk → cp'.nilOk) (k : To c Q z E (L.set i ⟨key, cp'⟩)) : To c Q z E L := fun a W s =>
  k a W (s.again hL h hn)
end

def delM {α : Type} (xs : List α) (i j : Int) : Option (List α) := if 0 ≤ i ∧ i ≤ j ∧ j ≤ xs.length then some (xs.take i.toNat ++ xs.drop j.toNat) else none
theorem delM_some {α : Type} {xs r : List α} {i j : Int} (h : delM xs i j = some r) : ∃ m n : Nat, i = m ∧ j = n ∧ m ≤ n ∧ n ≤ xs.length ∧ r = xs.take m ++ xs.drop n := by
  unfold delM at h
  split at h
  · rename_i hc
    refine ⟨i.toNat, j.toNat, by omega, by omega, by omega, by omega, ?_⟩
    cases h; rfl
  · cases h
end Gv

