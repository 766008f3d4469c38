/-
  The library of the decompiler, as far as it is needed here. Conditions: none.
-/
import Derived.MapKept
import Derived.Test.YtmnggbjcnoffeaaGreatKl1
namespace Gv
open Go
set_option linter.unusedVariables false
set_option linter.unusedSimpArgs false

theorem flat_tup2 {τ σ : VP} (h : τ.Flat) (k : σ.Flat) : (VP.tup [τ, σ]).Flat := fun A W A' W' v ⟨vs, h1, h2⟩ => by
  refine ⟨vs, h1, ?_⟩
  generalize vs.toList = l at h2
  cases h2 with
  | cons a r => cases r with
    | cons b r => cases r; exact .cons (h _ _ _ _ _ a) (.cons (k _ _ _ _ _ b) .nil)
section
variable {c : Cx} {E : List (Nat × VP)} {L : List Ent} {ops : Array Oper} {Q : Exit → Act → World → Prop}
variable {d : Option Tmp} {ty : TypeId} {pos : String} {af : Array Edge} {g : Option (Nat × Bool)} {x y : Operand} {t t2 : TypeId}

theorem HR.via {o : Oper} {τ : VP} {E' : List (Nat × VP)} {L' : List Ent} (hf : τ.Flat) (hs : ∀ a W, St c E L a W → St c E' L' a W) (h : HR c E' L' o τ) : HR c E L o τ := fun a W st => by
  have := h a W (hs a W st)
  unfold OpTo at this ⊢
  exact Oper.wp_mono (fun a' W' ⟨v, h1, h2, h3⟩ => ⟨v, h1, h2, hf _ _ _ _ _ h3⟩) this

/-- more is known of a slot -/
theorem St.tell {a : Act} {W : World} (s : St c E L a W) {sl : Nat} {σ τ : VP} (hl : look E sl = some σ) (h : ∀ v, σ.holds (ks L ++ c.A0) W v → τ.holds (ks L ++ c.A0) W v) : St c ((sl, τ) :: E) L a W := by
  refine { s with env := fun t τ' hlk => ?_ }
  simp only [look] at hlk
  by_cases e : Nat.beq sl t = true
  · rw [e] at hlk
    simp only [cond_true, Option.some.injEq] at hlk
    subst hlk
    have := look_beq.1 e
    subst this
    obtain ⟨v, h1, h2⟩ := s.env sl _ hl
    exact ⟨v, h1, h v h2⟩
  · simp only [Bool.not_eq_true] at e
    rw [e] at hlk
    exact s.env t τ' hlk

/-- the variable of entry i is written no more: its block is one that others may look at -/
theorem St.ptrAt {a : Act} {W : World} (s : St c E L a W) {i p : Nat} {α : Type} [Rp α] {z : α} (hL : L[i]? = some ⟨some p, .var z⟩) :
    (VP.ptr z).holds (ks (L.set i ⟨none, .dead⟩) ++ c.A0) W (.pointer (some ⟨p, 0, none⟩)) := by
  obtain ⟨o, hob, cs, T, rfl, hr⟩ := s.own _ (List.mem_of_getElem? hL)
  have hlen : cs.toList.length = Rp.size α := Rp.len hr
  refine ⟨p, 0, cs, T, (0, 0), rfl, s.not_left hL, hob, by simp at hlen; omega, ?_⟩
  rw [List.drop_zero, ← hlen, List.take_length]
  have hsub := ks_set_none_sub (L := L) (i := i) (cp := .dead)
  exact Rp.mono (.drop fun k hm => by
    rcases List.mem_append.1 hm with hm | hm
    · exact List.mem_append.2 (.inl (hsub.subset hm))
    · exact List.mem_append.2 (.inr hm)) hr

/-- the method f bound to what p points at -/
abbrev bnd (f p : Nat) : Value := .func (.func f) #[.pointer (some ⟨p, 0, none⟩)] #[]

theorem r_mkB {f p : Nat} (hx : Look c E L x (.eq (.pointer (some ⟨p, 0, none⟩)))) : HR c E L ⟨d, .makeFunc (.func f) #[x] #[], ty, pos, af, g⟩ (.eq (bnd f p)) := .pure fun a W s => by
  have h := hx a W s
  refine ⟨_, ?_, rfl⟩
  have h' : a.eval x = .pointer (some ⟨p, 0, none⟩) := h
  simp [execOp, Instr.makeFunc, h', bnd]

theorem fn2_bnd {f p : Nat} {α β γ δ : Type} [Rp α] [Rp β] [Rp γ] [Rp δ] {z : δ} {F : α → β → Option γ} {P : Program} (en : En P f) (h : ∀ x y r, F x y = some r → Meets P f [.ptr z, .of x, .of y] (.of r)) {A : List Nat} {W : World}
    (hp : (VP.ptr z).holds A W (.pointer (some ⟨p, 0, none⟩))) : (VP.fn2 P F).holds A W (bnd f p) :=
  ⟨f, _, #[], rfl, en, fun A' W' e hA x y r vx vy hF hv hv2 => by simpa using h x y r hF A' W' [_, vx, vy] hA (.cons (VP.mono _ e hp) (.cons hv (.cons hv2 .nil)))⟩
/-! ### Lending: steps ahead of one operation -/

/-- .. to a method that is bound to it -/
theorem HR.lendB2 {o : Oper} {τ : VP} {p f : Nat} {α β γ δ : Type} [Rp α] [Rp β] [Rp γ] [Rp δ] {z : δ} {F : α → β → Option γ} (i sl : Nat) (hl : look E sl = some (.eq (bnd f p))) (hL : L[i]? = some ⟨some p, .var z⟩) (en : En c.P f)
    (hF : ∀ x y r, F x y = some r → Meets c.P f [.ptr z, .of x, .of y] (.of r)) (hf : τ.Flat) (h : HR c ((sl, .fn2 c.P F) :: E) (L.set i ⟨none, .dead⟩) o τ) : HR c E L o τ :=
  .via hf (fun a W s => (s.kill i).tell hl (fun v hh => by have hh' : v = bnd f p := hh; rw [hh']; exact fn2_bnd en hF (s.ptrAt hL))) h
theorem HR.lendTS {o : Oper} {τ : VP} {p cap T : Nat} {key : Option Nat} {β γ : Type} [Rp β] [Rp γ] {b b' : β} {xs : List γ} {os os' : List (Nat × Value)} (l : Lens β (List γ)) (i j q sl : Nat) (hij : Nat.beq i j = false) (hL : L[i]? = some ⟨some p, .varX b os⟩) (hJ : L[j]? = some ⟨key, .row T xs cap⟩)
    (hq : os[q]? = some (l.off, slv key xs.length cap)) (hb : l.set b xs = b') (hos : delHole os l.off = os') (hsl : look E sl = some (.eq (slv key xs.length cap))) (hf : τ.Flat) (h : HR c ((sl, .of xs) :: E) ((L.set j ⟨none, .dead⟩).set i ⟨some p, .varX b' os'⟩) o τ) : HR c E L o τ :=
  .via hf (fun a W s => s.thawS l (fun e => by rw [e, Nat.beq_refl] at hij; cases hij) hL hJ q hq hb hos hsl) h
theorem HR.lend0 {o : Oper} {τ : VP} {p : Nat} {β : Type} [Rp β] {b : β} (i : Nat) (hL : L[i]? = some ⟨some p, .varX b []⟩) (hf : τ.Flat) (h : HR c E (L.set i ⟨some p, .var b⟩) o τ) : HR c E L o τ :=
  .via hf (fun a W s => s.retell (cp' := .var b) hL (fun o ⟨cs, T, h1, h2⟩ => ⟨cs, T, h1, h2.1⟩) id) h

/-! ### Pointers: nil or not, boxed -/

theorem run_ptr_eq {P : Program} {T : TypeId} {e : TypeId} (h : P.underlying T = some (.pointer e)) (p : Addr) (W : World) (n : Nat) : (Op.equalIn (n + 1) T (.pointer (some p)) (.pointer none)).run P W = .ok false W := by
  simp [Op.equalIn, run_underlying h]
/-- an own pointer is not nil -/
theorem r_pnil {p : Addr} {e : TypeId} (hu : c.P.underlying t = some (.pointer e)) (hx : Look c E L x (.eq (.pointer (some p)))) : HR c E L ⟨d, .binOp .eql t x (.const (.pointer none)) t2, ty, pos, af, g⟩ (.of false) := .pure fun a W s => by
  have hn : a.eval (.const (.pointer none)) = .pointer none := rfl
  have h1 : a.eval x = .pointer (some p) := hx a W s
  refine ⟨.bool false, ?_, of_bool.2 rfl⟩
  simp only [execOp, eqGuard, binOp, h1, hn, Op.equal, Op.maxDepth]
  simp [run_ptr_eq hu p W 9999]
theorem Wp.bring {code : Code} (i : Nat) {e : Ent} (h : L[i]? = Option.some e) (k : Wp c Q code E (e :: L.eraseIdx i)) : Wp c Q code E L := fun a W s => k a W (s.bring h)
theorem Wp.clr {z : Code} {p : Nat} {β γ : Type} [Rp β] [Rp γ] {b b' : β} {os : List (Nat × Value)} {u : Value} (l : Lens β (List γ)) (i q : Nat) (hL : L[i]? = Option.some ⟨Option.some p, .varX b os⟩) (hq : os[q]? = Option.some (l.off, u)) (hb : l.set b [] = b')
    (k : Wp c Q z E (L.set i ⟨Option.some p, .varX b' os⟩)) : Wp c Q z E L := fun a W s =>
  k a W (s.again (cp' := .varX b' os) hL (fun A W o ⟨cs, T, h1, h2⟩ => ⟨cs, T, h1, hb ▸ repH_clr l h2 (List.mem_of_getElem? hq)⟩) id)
theorem one_eqp {p : Option Addr} : ∀ A W v, (VP.eq (.pointer p)).holds A W v → v.oneCell' = true := fun A W v h => by
  have h' : v = .pointer p := h
  rw [h']; rfl

/-! ### Operations that leave the own blocks as they are, though they may be at work in them -/

def HS (c : Cx) (E : List (Nat × VP)) (L : List Ent) (o : Oper) (τ : VP) : Prop :=
  ∀ a W, St c E L a W → OpTo c.P o a W fun v W' => St c E L a W' ∧ τ.holds (ks L ++ c.A0) W' v

theorem Sq.vS {o : Oper} {rest : List Oper} {d : Nat} {τ : VP} (h : HS c E L o τ) (hg : o.guard = none) (hd : o.dst = some d) (hn : Nat.blt d c.n = true)
    (k : Sq c ops Q rest ((d, τ) :: E) L) : Sq c ops Q (o :: rest) E L := fun a W s =>
  wpList_op hg (h a W s) fun v W' ⟨f, hv⟩ => by
    rw [hd]
    exact k _ _ (f.put (by simpa using hn) hv)
theorem Sq.gS {o : Oper} {rest : List Oper} {d j g : Nat} {b want : Bool} {τ : VP} (h : b = want → HS c E L o τ) (hg : o.guard = some (j, want)) (hj : (ops[j]?).bind (·.dst) = some g)
    (hl : look E g = some (.of b)) (hd : o.dst = some d) (hn : Nat.blt d c.n = true)
    (k : Sq c ops Q rest ((d, .cond (b = want) τ) :: E) L) : Sq c ops Q (o :: rest) E L := fun a W s => by
  have hy := yielded_of hj hl s
  unfold Cx.wpl wpListIn
  by_cases hb : b = want
  · rw [if_pos (by simp [Region.wanted, hg, hy, hb])]
    refine ((h hb a W s).wpIn fun v W' ⟨f, hv⟩ => ?_)
    rw [hd]
    exact k _ _ (f.put (by simpa using hn) ⟨fun _ => hv, fun h => absurd hb h⟩)
  · rw [if_neg (by simp [Region.wanted, hg, hy, hb])]
    rw [hd]
    exact ⟨fun _ _ => trivial, k _ _ (s.put (by simpa using hn) ⟨fun h => absurd h hb, fun _ => rfl⟩)⟩
/-- the entries at these places -/
def Pick (L : List Ent) : List Nat → List Ent → Prop
  | [], [] => True
  | i :: is, e :: es => L[i]? = some e ∧ Pick L is es
  | _, _ => False
theorem eraseIdx_get {L : List Ent} {i j : Nat} (h : i ≠ j) : (L.eraseIdx i)[if j < i then j else j - 1]? = L[j]? := by
  rw [List.getElem?_eraseIdx]
  by_cases h1 : j < i
  · simp [h1]
  · have : ¬ (j - 1 < i) := by omega
    simp only [h1, if_false, this]
    congr 1; omega
theorem Pick.shift {L : List Ent} {i : Nat} : ∀ {is : List Nat} {es : List Ent}, Pick L is es → i ∉ is → Pick (L.eraseIdx i) (is.map fun j => if j < i then j else j - 1) es
  | [], [], _, _ => trivial
  | j :: is, e :: es, ⟨h1, h2⟩, hn => by
    simp only [List.mem_cons, not_or] at hn
    exact ⟨by rw [eraseIdx_get hn.1]; exact h1, Pick.shift h2 hn.2⟩
theorem nodup_shift {i : Nat} : ∀ {is : List Nat}, is.Nodup → i ∉ is → (is.map fun j => if j < i then j else j - 1).Nodup
  | [], _, _ => by simp
  | j :: is, h, hn => by
    simp only [List.mem_cons, not_or] at hn
    obtain ⟨h1, h2⟩ := List.nodup_cons.1 h
    refine List.nodup_cons.2 ⟨fun hm => ?_, nodup_shift h2 hn.2⟩
    obtain ⟨k, hk, he⟩ := List.mem_map.1 hm
    have hki : k ≠ i := fun e => hn.2 (e ▸ hk)
    have hkj : k ≠ j := fun e => h1 (e ▸ hk)
    have hji : j ≠ i := fun e => hn.1 e.symm
    have he' : (if k < i then k else k - 1) = (if j < i then j else j - 1) := he
    split at he' <;> split at he' <;> omega
theorem Pick.perm : ∀ {is : List Nat} {es L : List Ent}, Pick L is es → is.Nodup → ∃ R, L.Perm (es ++ R)
  | [], [], L, _, _ => ⟨L, List.Perm.refl _⟩
  | i :: is, e :: es, L, ⟨h1, h2⟩, hn => by
    obtain ⟨hn1, hn2⟩ := List.nodup_cons.1 hn
    obtain ⟨R, hR⟩ := (h2.shift hn1).perm (nodup_shift hn2 hn1)
    exact ⟨R, (bring_perm h1).trans (hR.cons e)⟩
  termination_by is => is.length
  decreasing_by simp

theorem HS.call {f : FuncId} {xs : List Operand} {ats : Array TypeId} {τs : List VP} {Lin : List Ent} {ρ : Unit → VP} {Lo : Unit → List Ent} (is : List Nat) (en : En c.P f) (h : MeetsO c.P f τs Lin ρ Lo)
    (hx : Looks c E L xs τs) (hn : decide is.Nodup = true) (hp : Pick L is Lin) (hl : Lo () = Lin) : HS c E L ⟨d, .call ⟨.value (.func f), xs.toArray, ats⟩, ty, pos, af, g⟩ (ρ ()) := fun a W s => by
  obtain ⟨R, hR⟩ := hp.perm (of_decide_eq_true hn)
  have s' := s.perm hR
  have hkp := ks_perm hR
  have hAs : ∀ k, k ∈ ks L ++ c.A0 ↔ k ∈ ks (Lin ++ R) ++ c.A0 := fun k => by
    simp only [List.mem_append]; rw [hkp.mem_iff]
  have hh : HoldsAll (ks (Lin ++ R) ++ c.A0) W τs (xs.map a.eval) := (hx.holdsO s).mono (.drop fun k hm => (hAs k).2 hm)
  have ho := opto_callO (d := d) (ty := ty) (pos := pos) (af := af) (g := g) (ats := ats) en h s' hh
  unfold OpTo at ho ⊢
  refine Oper.wp_mono (fun a' W' ⟨v, h1, dd, h2, h3⟩ => ⟨v, h1, ?_, ?_⟩) ho
  · cases dd; rw [hl] at h2; exact h2.perm hR.symm
  · cases dd
    rw [hl] at h3
    exact VP.mono _ (.drop fun k hm => (hAs k).1 hm) h3

theorem Pick.set {L : List Ent} {i j : Nat} {x y e1 e2 : Ent} (hij : i ≠ j) (hi : L[i]? = some e1) (hj : L[j]? = some e2) : ∃ R, L.Perm (e1 :: e2 :: R) ∧ ((L.set i x).set j y).Perm (x :: y :: R) := by
  have hpi : Pick L [i, j] [e1, e2] := ⟨hi, hj, trivial⟩
  have hle : ∀ M : List Ent, ∀ u v : Ent, M[i]? = some u → M[j]? = some v → M.Perm (u :: v :: (M.eraseIdx i).eraseIdx (if j < i then j else j - 1)) := fun M u v h1 h2 =>
    (bring_perm h1).trans ((bring_perm (by rw [eraseIdx_get hij]; exact h2)).cons u)
  refine ⟨_, hle L e1 e2 hi hj, ?_⟩
  have hi' := (List.getElem?_eq_some_iff.1 hi).1
  have hj' := (List.getElem?_eq_some_iff.1 hj).1
  have h1 := hle ((L.set i x).set j y) x y (by rw [List.getElem?_set_ne (Ne.symm hij), List.getElem?_set_self hi']) (by rw [List.getElem?_set_self (by simpa using hj')])
  have h2 : ((L.set i x).set j y).eraseIdx i = (L.eraseIdx i).set (if j < i then j else j - 1) y := by
    apply List.ext_getElem?
    intro k
    simp only [List.getElem?_eraseIdx, List.getElem?_set, List.length_set, List.length_eraseIdx, hi', if_true]
    by_cases hk : k < i <;> by_cases hji : j < i <;> simp only [hk, hji, if_true, if_false] <;> (repeat' split) <;> first | rfl | omega | skip
  rw [h2, List.eraseIdx_set_eq] at h1
  exact h1

/-- two own blocks go in, one comes out; the other is gone -/
theorem Sq.callO2 {rest : List Oper} {dd : Nat} {f : FuncId} {xs : List Operand} {ats : Array TypeId} {τs : List VP} {e1 e2 : Ent} {δ : Type} {ρ : δ → VP} {Lo : δ → List Ent} (lo : δ → Ent) (i j : Nat) (en : En c.P f) (h : MeetsO c.P f τs [e1, e2] ρ Lo)
    (hx : Looks c E L xs τs) (hij : Nat.beq i j = false) (hi : L[i]? = some e1) (hj : L[j]? = some e2) (hlo : ∀ q, Lo q = [lo q]) (hn : Nat.blt dd c.n = true) (k : ∀ q, Sq c ops Q rest ((dd, ρ q) :: E) ((L.set i (lo q)).set j ⟨none, .dead⟩)) :
    Sq c ops Q (⟨some dd, .call ⟨.value (.func f), xs.toArray, ats⟩, ty, pos, af, none⟩ :: rest) E L := fun a W s => by
  have hne : i ≠ j := fun e => by rw [e, Nat.beq_refl] at hij; cases hij
  obtain ⟨R, hR, _⟩ := Pick.set (x := e1) (y := e2) hne hi hj
  have s' := s.perm hR
  have hkp := ks_perm hR
  have hAs : ∀ k, k ∈ ks L ++ c.A0 ↔ k ∈ ks ([e1, e2] ++ R) ++ c.A0 := fun k => by
    simp only [List.mem_append]; rw [hkp.mem_iff]; simp [ks_append]
  have hh : HoldsAll (ks ([e1, e2] ++ R) ++ c.A0) W τs (xs.map a.eval) := (hx.holdsO s).mono (.drop fun k hm => (hAs k).2 hm)
  refine wpList_op rfl (opto_callO (Lin := [e1, e2]) en h s' hh) fun v W' ⟨q, h2, h3⟩ => ?_
  refine k q _ _ ?_
  obtain ⟨R', hR1, hR2⟩ := Pick.set (x := lo q) (y := ⟨none, .dead⟩) hne hi hj
  have hRR : (e1 :: e2 :: R).Perm (e1 :: e2 :: R') := hR.symm.trans hR1
  have hRR' : R.Perm R' := (hRR.cons_inv).cons_inv
  rw [hlo] at h2 h3
  have h4 : St c E (lo q :: ⟨none, .dead⟩ :: R) a W' := { h2 with
    own := fun e he => by
      simp only [List.mem_cons] at he
      rcases he with rfl | rfl | he
      · exact h2.own _ (by simp)
      · trivial
      · exact h2.own _ (by simp [he]) }
  have h5 : St c E ((L.set i (lo q)).set j ⟨none, .dead⟩) a W' := h4.perm (((hRR'.cons _).cons _).trans hR2.symm)
  have h6 : (ks ((L.set i (lo q)).set j ⟨none, .dead⟩)).Perm (ks (lo q :: R)) := by
    have := ks_perm (hR2.trans ((hRR'.symm.cons _).cons _))
    simpa [ks] using this
  refine h5.put (by simpa using hn) (VP.mono _ (.drop fun k hm => ?_) h3)
  rcases List.mem_append.1 hm with hm | hm
  · exact List.mem_append.2 (.inl (h6.mem_iff.1 hm))
  · exact List.mem_append.2 (.inr hm)

theorem gss {L : List Ent} {i : Nat} {x e : Ent} (h : L[i]? = some x) : (L.set i e)[i]? = some e := by
  rw [List.getElem?_set_self (List.getElem?_eq_some_iff.1 h).1]
theorem gso {L : List Ent} {i j : Nat} {r : Option Ent} {e : Ent} (hn : Nat.beq j i = false) (h : L[i]? = r) : (L.set j e)[i]? = r := by
  rw [List.getElem?_set_ne (fun e => by rw [e, Nat.beq_refl] at hn; cases hn)]; exact h

/-! ### slices.Delete -/

theorem src_none {p lo cap : Nat} {α : Type} [Rp α] (hy : Look c E L y (.eq (vslv (some p) lo 0 cap (Rp.size α)))) : Src c E L y 0 ([] : List α) := fun a W s => by
  have h1 : a.eval y = _ := hy a W s
  have hc := run_loadCells_list (P := c.P) W (if cap = lo then (⟨p, 0, none⟩ : Addr) else ⟨p, lo * Rp.size α, none⟩) [] (fun j v hv => by simp at hv)
  refine ⟨by rw [h1]; rfl, [], ?_, ⟨by simp, fun i hi => by simp at hi⟩, by simp⟩
  rw [h1]
  simp only [vslv, Builtin.firstCells, List.length_nil, Nat.zero_mul]
  exact hc

/-- append within what is there -/
theorem Sq.appIn {rest : List Oper} {i e p dd m N cap T : Nat} {α : Type} [Rp α] {xs vs r : List α} (hu : c.P.underlying t = some (.slice e)) (te : Ty c.P e α)
    (hx : Look c E L x (.eq (slv (some p) m cap))) (hy : Src c E L y N vs) (hN : vs.length = N) (hL : L[i]? = some ⟨some p, .row T xs cap⟩) (hm : m + N ≤ xs.length) (hr : xs.take m ++ vs ++ xs.drop (m + N) = r) (hn : Nat.blt dd c.n = true)
    (k : Sq c ops Q rest ((dd, .eq (slv (some p) (m + N) cap)) :: E) (L.set i ⟨some p, .row T r cap⟩)) :
    Sq c ops Q (⟨some dd, .call ⟨.builtin .append, #[x, y], #[t, t]⟩, ty, pos, af, none⟩ :: rest) E L := fun a W s => by
  subst hN
  subst hr
  have h1 : a.eval x = _ := hx a W s
  obtain ⟨hl, cells, hc, hrp, h1c⟩ := hy a W s
  obtain ⟨o, ho, hh⟩ := s.own _ (List.mem_of_getElem? hL)
  have hh0 := hh
  obtain ⟨cs0, rfl, g1, g2, g3, g4⟩ := hh
  obtain ⟨cs, ho2, hfit, hnew⟩ := row_part (lo := m) hm hh0 hrp
  have hcs : cs = cs0 := by injection ho2 with h _; exact h.symm
  subst hcs
  obtain ⟨ie, hie, hsz⟩ := te.info
  have hst := run_storeCells_at (P := c.P) p (m * Rp.size α) T cells 0 cs W ho hfit h1c
  simp only [Nat.add_zero] at hst
  have hneed : m + vs.length ≤ cap := by omega
  have hrun : (execOp a.eval ⟨some dd, .call ⟨.builtin .append, #[x, y], #[t, t]⟩, ty, pos, af, none⟩).run c.P W = .ok (.value (slv (some p) (m + vs.length) cap)) (W.setRow p (cs.toList.take (m * Rp.size α) ++ cells ++ cs.toList.drop (m * Rp.size α + cells.length)).toArray) := by
    simp [execOp, resolve, invoke, builtin, Builtin.append_, h1, slv, run_underlying hu, hl, Go.sizeOf, typeInfo, hie, hsz, hneed, hc, addr_add, hst]
  refine wpList_op rfl (R := fun v W1 => v = slv (some p) (m + vs.length) cap ∧ W1 = W.setRow p (cs.toList.take (m * Rp.size α) ++ cells ++ cs.toList.drop (m * Rp.size α + cells.length)).toArray) (.of_run hrun ⟨rfl, rfl⟩) fun v W1 ⟨hv, hw⟩ => ?_
  subst hv
  subst hw
  exact k _ _ ((s.store hL ho hnew).put (by simpa using hn) rfl)

/-- the bounds of a part are looked at, no more -/
theorem r_slice3 {i T cap : Nat} {key : Option Nat} {α : Type} [Rp α] {xs : List α} {e : TypeId} {lo hi mx : Operand} {m n k : Nat} (hu : c.P.underlying t = some (.slice e)) (te : Ty c.P e α) (hx : Look c E L x (.eq (slv key xs.length cap)))
    (hL : L[i]? = some ⟨key, .row T xs cap⟩) (hlo : Look c E L lo (.of (m : Int))) (hhi : Look c E L hi (.of (n : Int))) (hmx : Look c E L mx (.of (k : Int))) (h : m ≤ n ∧ n ≤ k ∧ k ≤ xs.length) :
    HR c E L ⟨d, .slice t x (some lo) (some hi) (some mx), ty, pos, af, g⟩ .any := .pure fun a W s => by
  obtain ⟨h2, h3, h4⟩ := h
  obtain ⟨ie, hie, hsz⟩ := te.info
  have h1 : a.eval x = _ := hx a W s
  have e1 := of_int.1 (hlo a W s)
  have e2 := of_int.1 (hhi a W s)
  have e3 := of_int.1 (hmx a W s)
  have hcap : ∃ ad n', slv key xs.length cap = .slice ad n' cap ∨ (slv key xs.length cap = .slice none 0 0 ∧ k = 0) := by
    cases key with
    | some p => exact ⟨_, _, .inl rfl⟩
    | none =>
      have ho := s.own _ (List.mem_of_getElem? hL)
      have hxs : xs = [] := ho.1
      subst hxs
      exact ⟨none, 0, .inr ⟨rfl, by simpa using h4⟩⟩
  have hkc : xs.length ≤ cap ∨ key = none := by
    cases key with
    | none => exact .inr rfl
    | some p =>
      obtain ⟨o, ho, cs, rfl, g1, g2, _⟩ := s.own _ (List.mem_of_getElem? hL)
      exact .inl g2
  cases key with
  | none =>
    have ho := s.own _ (List.mem_of_getElem? hL)
    have hxs : xs = [] := ho.1
    subst hxs
    have hk0 : k = 0 := by simpa using h4
    subst hk0
    have hn0 : n = 0 := by omega
    subst hn0
    have hm0 : m = 0 := by omega
    subst hm0
    have hb : ∀ (code : BoundsCode), (Instr.sliceBound (.int .i64 0) 0 code).run c.P W = .ok 0 W := fun code => run_sliceB (n := 0) (m := 0) (Nat.le_refl _) rfl
    have e1' : a.eval lo = .int .i64 0 := e1
    have e2' : a.eval hi = .int .i64 0 := e2
    have e3' : a.eval mx = .int .i64 0 := e3
    refine ⟨.slice none 0 0, ?_, trivial⟩
    simp [execOp, Instr.sliceAt, Instr.slice, Instr.sliceBounds, h1, slv, run_underlying hu, Go.sizeOf, typeInfo, hie, e1', e2', e3', hb]
  | some p =>
    have hkc' : k ≤ cap := by
      rcases hkc with h | h
      · omega
      · cases h
    refine ⟨.slice (some (if k = m then ⟨p, 0, none⟩ else ⟨p, m * Rp.size α, none⟩)) (n - m) (k - m), ?_, trivial⟩
    have hb : ∀ (a b : Nat) (code : BoundsCode), a ≤ b → (Instr.sliceBound (.int .i64 (a : Int)) b code).run c.P W = .ok a W := fun a b code h => run_sliceB h rfl
    simp [execOp, Instr.sliceAt, Instr.slice, Instr.sliceBounds, h1, slv, run_underlying hu, Go.sizeOf, typeInfo, hie, hsz, e1, e2, e3, hb k cap _ hkc', hb n k _ h3, hb m n _ h2, addr_add]
    split <;> rfl

theorem r_lenE {p n cap e : Nat} (hu : c.P.underlying t = some (.slice e)) (hx : Look c E L x (.eq (slv (some p) n cap))) : HR c E L ⟨d, .call ⟨.builtin .len, #[x], #[t]⟩, ty, pos, af, g⟩ (.of (n : Int)) := .pure fun a W s => by
  have h1 : a.eval x = _ := hx a W s
  refine ⟨.int .i64 n, ?_, of_int.2 rfl⟩
  simp [execOp, resolve, invoke, builtin, Builtin.len_, h1, slv, run_underlying hu, goInt]
/-- what lies behind is put over what goes -/
theorem Sq.appDel {rest : List Oper} {i e p dd m n cap T : Nat} {α : Type} [Rp α] {xs : List α} (hu : c.P.underlying t = some (.slice e)) (te : Ty c.P e α)
    (hx : Look c E L x (.eq (vslv (some p) 0 (m - 0) cap (Rp.size α)))) (hy : Look c E L y (.eq (vslv (some p) n (xs.length - n) cap (Rp.size α)))) (hL : L[i]? = some ⟨some p, .row T xs cap⟩) (hmn : m < n) (hn : n ≤ xs.length) (hd : Nat.blt dd c.n = true)
    (k : Sq c ops Q rest ((dd, .eq (slv (some p) (m + (xs.length - n)) cap)) :: E) (L.set i ⟨some p, .row T (xs.take m ++ xs.drop n ++ xs.drop (m + (xs.length - n))) cap⟩)) :
    Sq c ops Q (⟨some dd, .call ⟨.builtin .append, #[x, y], #[t, t]⟩, ty, pos, af, none⟩ :: rest) E L := by
  have hx' : Look c E L x (.eq (slv (some p) m cap)) := by
    rw [vslv_zero, Nat.sub_zero] at hx; exact hx
  rcases Nat.lt_or_ge n xs.length with hnl | hnl
  · have hs := src_own (k := xs.length - n) hy hL (by omega) (by omega)
    rw [show (xs.drop n).take (xs.length - n) = xs.drop n by rw [List.take_of_length_le (by simp)]] at hs
    exact Sq.appIn hu te hx' hs (by simp) hL (by omega) rfl hd k
  · have h0 : xs.length - n = 0 := by omega
    rw [h0] at hy k
    have hs := src_none (α := α) hy
    rw [show ([] : List α) = xs.drop n by rw [List.drop_of_length_le hnl]] at hs
    exact Sq.appIn hu te hx' hs (by simp; omega) hL (by omega) rfl hd k
theorem To.again {z : Exit} {key : Option Nat} {cp : CP} (cp' : CP) (i : Nat) (hL : L[i]? = some ⟨key, cp⟩) (h : ∀ A W o, cp.holds A W o → cp'.holds A W o) (hn : cp.nilOk → cp'.nilOk) (k : To c Q z E (L.set i ⟨key, cp'⟩)) : To c Q z E L := fun a W s =>
  k a W (s.again hL h hn)
end

def delM {α : Type} (xs : List α) (i j : Int) : Option (List α) := if 0 ≤ i ∧ i ≤ j ∧ j ≤ xs.length then some (xs.take i.toNat ++ xs.drop j.toNat) else none
theorem delM_some {α : Type} {xs r : List α} {i j : Int} (h : delM xs i j = some r) : ∃ m n : Nat, i = m ∧ j = n ∧ m ≤ n ∧ n ≤ xs.length ∧ r = xs.take m ++ xs.drop n := by
  unfold delM at h
  split at h
  · rename_i hc
    refine ⟨i.toNat, j.toNat, by omega, by omega, by omega, by omega, ?_⟩
    cases h; rfl
  · cases h
end Gv

namespace Gv
open Go
set_option linter.unusedVariables false
set_option linter.unusedSimpArgs false

/-! ### Programs that make new blocks -/

/-- what must hold of the result -/
abbrev Wm (α : Type) := (α → Prop) → Prop
def Wm.of {α : Type} (o : Option α) : Wm α := fun Q => ∃ r, o = some r ∧ Q r
def Wm.bind {α β : Type} (m : Wm α) (k : α → Wm β) : Wm β := fun Q => m fun r => k r Q
def Wm.ret {α : Type} (x : α) : Wm α := fun Q => Q x
/-- a loop whose rounds are such programs -/
def loopW {σ ε : Type} : Nat → (σ → Wm (σ ⊕ ε)) → σ → Wm ε
  | 0, _, _ => fun _ => False
  | n + 1, b, s => fun Q => b s fun r => match r with
    | .inl s' => loopW n b s' Q
    | .inr e => Q e

/-! ### Pools -/

abbrev Pool (κ : Type) := List (Nat × κ)
/-- a pointer into a pool; none: nil -/
abbrev Ref := Option Nat
instance instRpRef : Rp Ref := .scalar (fun x => Value.pointer (x.map fun p => ⟨p, 0, none⟩)) fun _ => rfl
theorem of_ref {A W v} {x : Ref} : (VP.of x).holds A W v ↔ v = .pointer (x.map fun p => ⟨p, 0, none⟩) :=
  ⟨fun h => toList_one h.1 h.2, fun h => by subst h; exact ⟨rfl, rfl⟩⟩

instance : Zc Ref := ⟨[.pointer none], fun _ _ => rfl⟩
/-- a new block: its number, and the pool with it -/
def Wm.mk {κ : Type} (hp : Pool κ) (k : κ) : Wm (Nat × Pool κ) := fun Q => ∀ a : Nat × Pool κ, a.1 ∉ hp.map (·.1) ∧ a.2 = (a.1, k) :: hp → Q a
theorem Wm.mk_bind {κ α : Type} {hp : Pool κ} {c : κ} {k : Nat × Pool κ → Wm α} {R : α → Prop} (h : Wm.bind (Wm.mk hp c) k R) (a : Nat × Pool κ) (ha : a.1 ∉ hp.map (·.1) ∧ a.2 = (a.1, c) :: hp) : k a R := h a ha

/-- how contents lie in blocks -/
class Cl (κ : Type) where
  ents : Nat → κ → List Ent
  root : ∀ p k, ∃ e ∈ ents p k, e.key = some p

def Ents {κ : Type} [Cl κ] : Pool κ → List Ent
  | [] => []
  | (p, k) :: r => Cl.ents p k ++ Ents r
def pat {κ : Type} : Pool κ → Nat → Option κ
  | [], _ => none
  | (q, k) :: r, p => if q = p then some k else pat r p
def pup {κ : Type} : Pool κ → Nat → κ → Pool κ
  | [], _, _ => []
  | (q, k) :: r, p, k' => if q = p then (q, k') :: r else (q, k) :: pup r p k'
def pks {κ : Type} (hp : Pool κ) : List Nat := hp.map (·.1)

theorem pool_open {κ : Type} [Cl κ] : ∀ {hp : Pool κ} {p : Nat} {k : κ}, pat hp p = some k → ∃ R, (Ents hp).Perm (Cl.ents p k ++ R) ∧ ∀ k', (Ents (pup hp p k')).Perm (Cl.ents p k' ++ R)
  | [], _, _, h => by simp [pat] at h
  | (q, k0) :: r, p, k, h => by
    simp only [pat] at h
    split at h
    · rename_i e
      subst e
      simp only [Option.some.injEq] at h
      subst h
      exact ⟨Ents r, .refl _, fun k' => by simp only [pup, if_pos]; exact .refl _⟩
    · rename_i e
      obtain ⟨R, h1, h2⟩ := pool_open h
      refine ⟨Cl.ents q k0 ++ R, ?_, fun k' => ?_⟩
      · exact (h1.append_left (Cl.ents q k0)).trans (by rw [← List.append_assoc, ← List.append_assoc]; exact List.perm_append_comm.append_right R)
      · simp only [pup, if_neg e]
        exact ((h2 k').append_left (Cl.ents q k0)).trans (by rw [← List.append_assoc, ← List.append_assoc]; exact List.perm_append_comm.append_right R)

theorem pks_ks {κ : Type} [Cl κ] {hp : Pool κ} {p : Nat} (h : p ∈ pks hp) : p ∈ ks (Ents hp) := by
  induction hp with
  | nil => simp [pks] at h
  | cons x r ih =>
    obtain ⟨q, k⟩ := x
    simp only [pks, List.map_cons, List.mem_cons] at h
    simp only [Ents, ks_append, List.mem_append]
    rcases h with h | h
    · subst h
      obtain ⟨e, he, hk⟩ := Cl.root p k
      exact .inl (mem_ks.2 ⟨e, he, hk⟩)
    · exact .inr (ih h)
section
variable {c : Cx} {E : List (Nat × VP)} {L : List Ent} {ops : Array Oper} {Q : Exit → Act → World → Prop}
variable {d : Option Tmp} {ty : TypeId} {pos : String} {af : Array Edge} {g : Option (Nat × Bool)} {x y : Operand} {t t2 : TypeId}

theorem mem_perm {L L' : List Ent} (p : L.Perm L') {A : List Nat} (k : Nat) : k ∈ ks L ++ A ↔ k ∈ ks L' ++ A := by
  simp only [List.mem_append]; rw [(ks_perm p).mem_iff]
theorem perm_ext {L L' : List Ent} (p : L.Perm L') {A : List Nat} {W : World} : Ext (ks L ++ A) W (ks L' ++ A) W := .drop fun k hm => (mem_perm p k).2 hm

theorem Look.perm {L' : List Ent} {x : Operand} {τ : VP} (p : L.Perm L') (h : Look c E L x τ) : Look c E L' x τ := fun a W s =>
  τ.mono (perm_ext p) (h a W (s.perm p.symm))
theorem HR.perm {L' : List Ent} {o : Oper} {τ : VP} (p : L.Perm L') (h : HR c E L o τ) : HR c E L' o τ := fun a W s => by
  have := h a W (s.perm p.symm)
  unfold OpTo at this ⊢
  exact Oper.wp_mono (fun a' W' ⟨v, h1, h2, h3⟩ => ⟨v, h1, h2, τ.mono (perm_ext p) h3⟩) this
theorem Sq.perm {l : List Oper} {L' : List Ent} (p : L.Perm L') (h : Sq c ops Q l E L) : Sq c ops Q l E L' := fun a W s => h a W (s.perm p.symm)

/-- a pointer that is not nil -/
theorem look_ref {x : Operand} {r : Ref} {p : Nat} (hx : Look c E L x (.of r)) (h : r = some p) : Look c E L x (.eq (.pointer (some ⟨p, 0, none⟩))) := fun a W s => by
  subst h
  exact of_ref.1 (hx a W s)
theorem look_nilref : Look c E L (.const (.pointer none)) (.of (none : Ref)) := fun a W s => of_ref.2 rfl

variable {κ : Type} [Cl κ] {hp : Pool κ} {loc : List Ent}

theorem pmem {p n : Nat} {k : κ} {e : Ent} (hL : L.drop n = Ents hp) (h : pat hp p = some k) (hk : Cl.ents p k = [e]) : e ∈ L := by
  obtain ⟨R, h1, _⟩ := pool_open h
  rw [hk] at h1
  have : e ∈ L.drop n := by rw [hL]; exact h1.mem_iff.2 (by simp)
  exact List.mem_of_mem_drop this
theorem dmem {L' : List Ent} {e : Ent} (hL : ∀ (i : Nat) (e : Ent), L[i]? = some e → L'[i]? = some e) (h : e ∈ L) : e ∈ L' := by
  obtain ⟨i, hi⟩ := List.mem_iff_getElem?.1 h
  exact List.mem_of_getElem? (hL i e hi)

theorem r_loadM {x : Operand} {t : TypeId} {p o : Nat} {β γ : Type} [Rp β] [Rp γ] {b : β} (l : Lens β γ) {r : γ} (tt : Ty c.P t γ) (hx : Look c E L x (.eq (.pointer (some ⟨p, o, none⟩))))
    (hm : (⟨some p, .var b⟩ : Ent) ∈ L) (ho : o = l.off) (hr : l.get b = r) : HR c E L ⟨d, .load t x, ty, pos, af, g⟩ (.of r) := by
  obtain ⟨i, hi⟩ := List.mem_iff_getElem?.1 hm
  exact r_load (i := i) l tt hx hi ho hr

theorem Sq.storeQ0 {x y : Operand} {t : TypeId} {rest : List Oper} {p o : Nat} {k k' : κ} {β γ : Type} [Rp β] [Rp γ] {b b' : β} {v : γ} (l : Lens β γ) (tt : Ty c.P t γ) (hx : Look c E (loc ++ Ents hp) x (.eq (.pointer (some ⟨p, o, none⟩))))
    (hy : Look c E (loc ++ Ents hp) y (.of v)) (hp' : pat hp p = some k) (hk : Cl.ents p k = [⟨some p, .var b⟩]) (hk' : Cl.ents p k' = [⟨some p, .var b'⟩]) (ho : o = l.off) (hb : l.set b v = b')
    (kk : Sq c ops Q rest E (loc ++ Ents (pup hp p k'))) : Sq c ops Q (⟨none, .store t x y, ty, pos, af, none⟩ :: rest) E (loc ++ Ents hp) := by
  obtain ⟨R, h1, h2⟩ := pool_open hp'
  have h2 := h2 k'
  rw [hk] at h1
  rw [hk'] at h2
  have hP : ∀ {z : β} {M : List Ent}, M.Perm ([⟨some p, .var z⟩] ++ R) → (loc ++ M).Perm (⟨some p, .var z⟩ :: (loc ++ R)) := fun h => (h.append_left loc).trans (by simp only [List.singleton_append]; exact List.perm_middle)
  exact Sq.perm (hP h1).symm (Sq.store (i := 0) l tt (hx.perm (hP h1)) (hy.perm (hP h1)) rfl ho hb (Sq.perm (hP h2) kk))
theorem Sq.storeQ {x y : Operand} {t : TypeId} {rest : List Oper} {p o : Nat} {k k' : κ} {hp2 : Pool κ} {β γ : Type} [Rp β] [Rp γ] {b b' : β} {v : γ} (n : Nat) (hL : L.drop n = Ents hp) (l : Lens β γ) (tt : Ty c.P t γ) (hx : Look c E L x (.eq (.pointer (some ⟨p, o, none⟩)))) (hy : Look c E L y (.of v)) (hp' : pat hp p = some k) (hk : Cl.ents p k = [⟨some p, .var b⟩]) (hk' : Cl.ents p k' = [⟨some p, .var b'⟩]) (ho : o = l.off) (hb : l.set b v = b') (hz : pup hp p k' = hp2) (kk : Sq c ops Q rest E (L.take n ++ Ents hp2)) : Sq c ops Q (⟨none, .store t x y, ty, pos, af, none⟩ :: rest) E L := by
  subst hz
  have e : L = L.take n ++ Ents hp := by rw [← hL, List.take_append_drop]
  clear hL
  generalize L.take n = loc at *
  subst e
  exact Sq.storeQ0 l tt hx hy hp' hk hk' ho hb kk


theorem St.fresh {a : Act} {W : World} (s : St c E (loc ++ Ents hp) a W) : W.heap.size ∉ pks hp := fun h => by
  have := s.lt _ (by rw [ks_append]; exact List.mem_append.2 (.inr (pks_ks h)))
  omega

theorem Sq.boxQ0 {t : TypeId} {x : Operand} {rest : List Oper} {dd : Nat} {α : Type} [Rp α] {z : α} (mk : κ) (hk : ∀ p, Cl.ents p mk = [⟨some p, .var z⟩]) (hx : Look c E (loc ++ Ents hp) x (.of z)) (hn : Nat.blt dd c.n = true)
    (k : ∀ p, p ∉ pks hp → Sq c ops Q rest ((dd, .of (some p : Ref)) :: E) (loc ++ Ents ((p, mk) :: hp))) : Sq c ops Q (⟨some dd, .box t x, ty, pos, af, none⟩ :: rest) E (loc ++ Ents hp) := fun a W s => by
  refine wpList_op rfl (R := fun v W' => v = .pointer (some ⟨W.heap.size, 0, none⟩) ∧ W' = W.alloc (.cells (a.eval x).cells t)) (.of_run ?_ ⟨rfl, rfl⟩) fun v W' ⟨hv, hw⟩ => ?_
  · simp [execOp, Instr.box, newVar, newRow]
  · subst hv
    subst hw
    refine k _ s.fresh _ _ (St.put ?_ (by simpa using hn) (of_ref.2 rfl))
    refine (s.alloc (cp := .var z) ⟨_, t, rfl, (hx a W s).2⟩).perm ?_
    simp only [Ents, hk, List.singleton_append]
    exact List.perm_middle.symm
theorem Sq.boxQ {t : TypeId} {x : Operand} {rest : List Oper} {dd : Nat} {α : Type} [Rp α] {z : α} (n : Nat) (hL : L.drop n = Ents hp) (mk : κ) (hk : ∀ p, Cl.ents p mk = [⟨some p, .var z⟩]) (hx : Look c E L x (.of z)) (hn : Nat.blt dd c.n = true) (k : ∀ a : Nat × Pool κ, a.1 ∉ hp.map (·.1) ∧ a.2 = (a.1, mk) :: hp → Sq c ops Q rest ((dd, .of (some a.1 : Ref)) :: E) (L.take n ++ Ents a.2)) : Sq c ops Q (⟨some dd, .box t x, ty, pos, af, none⟩ :: rest) E L := by
  have e : L = L.take n ++ Ents hp := by rw [← hL, List.take_append_drop]
  clear hL
  generalize L.take n = loc at *
  subst e
  exact Sq.boxQ0 mk hk hx hn fun p h => k (p, (p, mk) :: hp) ⟨h, rfl⟩


/-! ### Calls with a pool -/

theorem lin_perm {A B C : List Ent} : ((A ++ B) ++ C).Perm ((A ++ C) ++ B) := by
  rw [List.append_assoc, List.append_assoc]; exact List.perm_append_comm.append_left A

theorem Sq.callQ {rest : List Oper} {dd : Nat} {f : FuncId} {xs : List Operand} {ats : Array TypeId} {τs : List VP} {Lin Lr : List Ent} {δ : Type} {ρ : δ → VP} {Lo : δ → List Ent} {hq : δ → Pool κ} (en : En c.P f) (h : MeetsO c.P f τs (Lin ++ Ents hp) ρ (fun d => Lo d ++ Ents (hq d)))
    (hx : Looks c E ((Lin ++ Lr) ++ Ents hp) xs τs) (hn : Nat.blt dd c.n = true) (k : ∀ q, Sq c ops Q rest ((dd, ρ q) :: E) ((Lo q ++ Lr) ++ Ents (hq q))) :
    Sq c ops Q (⟨some dd, .call ⟨.value (.func f), xs.toArray, ats⟩, ty, pos, af, none⟩ :: rest) E ((Lin ++ Lr) ++ Ents hp) := fun a W s =>
  wpList_op rfl (opto_callO (Lr := Lr) en h (s.perm lin_perm) ((hx.holds a W s).mono (perm_ext lin_perm))) fun v W' ⟨q, s', hv⟩ =>
    k q _ _ ((s'.perm lin_perm).put (by simpa using hn) ((ρ q).mono (perm_ext lin_perm) hv))
theorem Sq.callP {rest : List Oper} {dd : Nat} {f : FuncId} {xs : List Operand} {ats : Array TypeId} {τs : List VP} {Lin Lr : List Ent} {δ : Type} {ρ : δ → VP} {Lo : δ → List Ent} {hq : δ → Pool κ} (n m : Nat) (hL : L.drop n = Ents hp) (en : En c.P f) (h : MeetsO c.P f τs (Lin ++ Ents hp) ρ (fun d => Lo d ++ Ents (hq d)))
    (h1 : (L.take n).take m = Lin) (h2 : (L.take n).drop m = Lr) (hx : Looks c E L xs τs) (hn : Nat.blt dd c.n = true) (k : ∀ q, Sq c ops Q rest ((dd, ρ q) :: E) ((Lo q ++ Lr) ++ Ents (hq q))) :
    Sq c ops Q (⟨some dd, .call ⟨.value (.func f), xs.toArray, ats⟩, ty, pos, af, none⟩ :: rest) E L := by
  have e : L = (Lin ++ Lr) ++ Ents hp := by rw [← h1, ← h2, List.take_append_drop, ← hL, List.take_append_drop]
  clear hL h1 h2
  subst e
  exact Sq.callQ en h hx hn k
/-- a call that leaves the pool as it is -/
theorem HS.callQ0 {f : FuncId} {xs : List Operand} {ats : Array TypeId} {τs : List VP} {ρ : VP} (en : En c.P f) (h : MeetsO c.P f τs (Ents hp) (fun _ : Unit => ρ) (fun _ => Ents hp))
    (hx : Looks c E (loc ++ Ents hp) xs τs) : HS c E (loc ++ Ents hp) ⟨d, .call ⟨.value (.func f), xs.toArray, ats⟩, ty, pos, af, g⟩ ρ := fun a W s => by
  have hP : (loc ++ Ents hp).Perm (Ents hp ++ loc) := List.perm_append_comm
  have ho := opto_callO (d := d) (ty := ty) (pos := pos) (af := af) (g := g) (ats := ats) (Lr := loc) en h (s.perm hP) ((hx.holds a W s).mono (perm_ext hP))
  unfold OpTo at ho ⊢
  exact Oper.wp_mono (fun a' W' ⟨v, h1, _, h2, h3⟩ => ⟨v, h1, h2.perm hP.symm, ρ.mono (perm_ext hP.symm) h3⟩) ho
theorem HS.callQ {f : FuncId} {xs : List Operand} {ats : Array TypeId} {τs : List VP} {ρ : VP} (n : Nat) (hL : L.drop n = Ents hp) (en : En c.P f) (h : MeetsO c.P f τs (Ents hp) (fun _ : Unit => ρ) (fun _ => Ents hp)) (hx : Looks c E L xs τs) : HS c E L ⟨d, .call ⟨.value (.func f), xs.toArray, ats⟩, ty, pos, af, g⟩ ρ := by
  have e : L = L.take n ++ Ents hp := by rw [← hL, List.take_append_drop]
  clear hL
  generalize L.take n = loc at *
  subst e
  exact HS.callQ0 en h hx


/-! ### Tests of pointers -/

theorem run_eq_refnil {P : Program} {e : TypeId} (W : World) (n : Nat) {t : TypeId} (a : Option Addr) (h : P.underlying t = some (.pointer e)) : (Op.equalIn (n + 1) t (.pointer a) (.pointer none)).run P W = .ok a.isNone W := by
  cases a <;> simp [Op.equalIn, run_underlying h]
theorem r_refnil {r : Ref} {e : TypeId} (hu : c.P.underlying t = some (.pointer e)) (hx : Look c E L x (.of r)) : HR c E L ⟨d, .binOp .eql t x (.const (.pointer none)) t2, ty, pos, af, g⟩ (.of r.isNone) := .pure fun a W s => by
  have h1 := of_ref.1 (hx a W s)
  refine ⟨.bool r.isNone, ?_, of_bool.2 rfl⟩
  have hn : a.eval (.const (.pointer none)) = .pointer none := rfl
  simp only [execOp, eqGuard, binOp, h1, hn, Op.equal, Op.maxDepth]
  have := run_eq_refnil (P := c.P) W 9999 (r.map fun p => ⟨p, 0, none⟩) hu
  simp only [Option.isNone_map] at this
  simp [this]
theorem r_refnnil {r : Ref} {e : TypeId} (hu : c.P.underlying t = some (.pointer e)) (hx : Look c E L x (.of r)) : HR c E L ⟨d, .binOp .neq t x (.const (.pointer none)) t2, ty, pos, af, g⟩ (.of r.isSome) := .pure fun a W s => by
  have h1 := of_ref.1 (hx a W s)
  refine ⟨.bool r.isSome, ?_, of_bool.2 rfl⟩
  have hn : a.eval (.const (.pointer none)) = .pointer none := rfl
  simp only [execOp, eqGuard, binOp, h1, hn, Op.equal, Op.maxDepth]
  have := run_eq_refnil (P := c.P) W 9999 (r.map fun p => ⟨p, 0, none⟩) hu
  simp only [Option.isNone_map] at this
  simp [this]
end
/-- an array of pointers against an array of nils -/
theorem run_eqnils {P : Program} {t e el : TypeId} {n : Nat} (h : P.underlying t = some (.array n e)) (te : Ty P e Ref) (hu : P.underlying e = some (.pointer el)) {A : List Nat} {W : World} {u v : Value} {x y : Vector Ref n} (hx : (VP.of x).holds A W u) (hy : (VP.of y).holds A W v)
    (hn : ∀ i, i < n → vget y i = none) (d : Nat) (hd : 2 ≤ d) : (Op.equalIn d t u v).run P W = .ok (decide (x = y)) W := by
  obtain ⟨d, rfl⟩ : ∃ e, d = e + 1 := ⟨d - 1, by omega⟩
  obtain ⟨h1, h2⟩ := hx
  obtain ⟨h3, h4⟩ := hy
  obtain ⟨xs, rfl⟩ : ∃ cs, u = .agg cs := by simpa [shaped, Rp.agg] using h1
  obtain ⟨ys, rfl⟩ : ∃ cs, v = .agg cs := by simpa [shaped, Rp.agg] using h3
  simp only [Value.cells] at h2 h4
  have hlx : xs.toList.length = n * Rp.size Ref := Rp.len h2
  have hly : ys.toList.length = n * Rp.size Ref := Rp.len h4
  have hstep : ∀ i ∈ List.range' 0 n, ((do
      let a ← part e xs (i * Rp.size Ref)
      let b ← part e ys (i * Rp.size Ref)
      Op.equalIn d e a b) : Sem Bool).run P W = .ok (decide (vget x i = vget y i)) W := by
    intro i hi
    have hi' : i < n := by simpa using hi
    have hin : i * Rp.size Ref + Rp.size Ref ≤ n * Rp.size Ref := (Lens.idx (α := Ref) n i hi').inb
    obtain ⟨a, ha, hra⟩ := run_part (A := A) (P := P) (W := W) (cs := xs) (off := i * Rp.size Ref) te (by simp at hlx; omega) ((Lens.idx (α := Ref) n i hi').get_rep h2)
    obtain ⟨b, hb, hrb⟩ := run_part (A := A) (P := P) (W := W) (cs := ys) (off := i * Rp.size Ref) te (by simp at hly; omega) ((Lens.idx (α := Ref) n i hi').get_rep h4)
    simp only [Sem.run_bind, ha, hb, Result.andThen_ok]
    obtain ⟨d, rfl⟩ : ∃ e, d = e + 1 := ⟨d - 1, by omega⟩
    have e1 := of_ref.1 hra
    have e2 := of_ref.1 hrb
    subst e1; subst e2
    have hni : (Lens.idx (α := Ref) n i hi').get y = none := hn i hi'
    rw [hni, Option.map_none, run_eq_refnil W d _ hu]
    have e3 : vget y i = none := hn i hi'
    rw [e3]
    show Result.ok ((vget x i).map _).isNone W = _
    congr 1
    cases vget x i <;> rfl
  have hf := run_forIn_all (P := P) (W := W) _ _ _ hstep
  have hall : (List.range' 0 n).all (fun i => decide (vget x i = vget y i)) = decide (x = y) := by
    rw [Bool.eq_iff_iff, List.all_eq_true, decide_eq_true_eq]
    constructor
    · intro h
      apply Vector.ext
      intro i hi
      have := h i (by simpa using hi)
      simpa [vget, hi] using this
    · rintro rfl i _
      simp
  rw [hall] at hf
  simp only [Op.equalIn, Sem.run_bind, run_underlying h, Result.andThen_ok, te.sizeOf, Std.Legacy.Range.forIn_eq_forIn_range']
  simp only [Std.Legacy.Range.size, Nat.sub_zero, Nat.add_one_sub_one, Nat.div_one] at hf ⊢
  simp only [bind_assoc] at hf
  rw [hf]
  by_cases hxy : x = y
  · simp [hxy]
  · simp [hxy]

theorem r_eqNils {c : Cx} {E : List (Nat × VP)} {L : List Ent} {d : Option Tmp} {ty : TypeId} {pos : String} {af : Array Edge} {g : Option (Nat × Bool)} {x y : Operand} {t t2 e el : TypeId} {n : Nat} {a b : Vector Ref n} (h : c.P.underlying t = some (.array n e)) (te : Ty c.P e Ref) (hu : c.P.underlying e = some (.pointer el)) (hg : c.P.eqGuardType c.P.depth t = false)
    (hx : Look c E L x (.of a)) (hy : Look c E L y (.of b)) (hn : ∀ i, i < n → vget b i = none) : HR c E L ⟨d, .binOp .eql t x y t2, ty, pos, af, g⟩ (.of (decide (a = b))) := .pure fun A W s => by
  have h1 := hx A W s
  have h2 := hy A W s
  obtain ⟨xs, hxs⟩ : ∃ cs, A.eval x = .agg cs := by simpa [shaped, Rp.agg] using h1.1
  obtain ⟨ys, hys⟩ : ∃ cs, A.eval y = .agg cs := by simpa [shaped, Rp.agg] using h2.1
  have h3 := run_eqnils h te hu h1 h2 hn 10000 (by decide)
  rw [hxs, hys] at h3
  refine ⟨.bool (decide (a = b)), ?_, of_bool.2 rfl⟩
  simp only [execOp, hxs, hys, Sem.run_bind, run_eqGuard_agg W .eql t x y xs ys hg, Result.andThen_ok, run_eql_struct, h3, Sem.run_pure]

/-! ### Ways and loops with such programs -/

section
variable {c : Cx} {E : List (Nat × VP)} {L : List Ent} {ops : Array Oper} {Q : Exit → Act → World → Prop}

theorem Wm.of_bind {α β : Type} {o : Option α} {k : α → Wm β} {R : β → Prop} (h : Wm.bind (Wm.of o) k R) : ∃ r, o = some r ∧ k r R := h

theorem loop_coreW {F : Fence} {n : Nat} {P : Program} {body : Code} {σ ε : Type} (b : σ → Wm (σ ⊕ ε)) (I : σ → Act → World → Prop) (X : ε → Exit → Act → World → Prop)
    (hround : ∀ s R, b s R → ∀ a W, I s a W → body.wpIn F n P (fun x a W => (∃ s', R (.inl s') ∧ x = .normal ∧ I s' a W) ∨ ∃ e, R (.inr e) ∧ x ≠ .normal ∧ X e x a W) a W)
    (Q : Exit → Act → World → Prop) (R : ε → Prop) (hafter : ∀ e x a W, R e → X e x a W → Q x a W) {s0 : σ} {N : Nat} (hl : loopW N b s0 R) {a0 : Act} {W0 : World} (h0 : I s0 a0 W0) :
    (Code.loop body).wpIn F n P Q a0 W0 := by
  intro fr k cs hro hb hr
  have key : ∀ N s, loopW N b s R → ∀ a W, I s a W →
      ∃ x a' W', Q x a' W' ∧ ArrivesIn (Machine.fenced P F) P (lone (fr.atR a (.code body :: .inLoop body :: k)) cs W) fr k cs x a' W' := by
    intro N
    induction N with
    | zero => intro s h; exact h.elim
    | succ N ih =>
      intro s h a W hI
      obtain ⟨x, a₁, W₁, hq, harr⟩ := hround s _ h a W hI fr (.inLoop body :: k) cs hro hb hr
      rcases hq with ⟨s', h1, hx, hI'⟩ | ⟨e, h1, hx, hX⟩
      · subst hx
        obtain ⟨x₂, a₂, W₂, hq₂, harr₂⟩ := ih s' h1 a₁ W₁ hI'
        exact ⟨x₂, a₂, W₂, hq₂, .of_steps (StepsIn.trans harr (.one (fenced_calm hb hr rfl) stepR_inLoop)) harr₂⟩
      · exact ⟨x, a₁, W₁, hafter _ _ _ _ h1 hX, .pass (x := .inLoop body) rfl (fun _ _ => .inl hx) harr⟩
  obtain ⟨x, a', W', hq, harr⟩ := key N s0 hl a0 W0 h0
  exact ⟨x, a', W', hq, .of_steps (.one (fenced_calm hb hr rfl) stepR_loop) harr⟩

/-- where a round ends -/
def LQW {σ ε γ δ : Type} (c : Cx) (E : σ → γ → List (Nat × VP)) (L : σ → γ → List Ent) (xs : ε → Exit) (Ex : ε → δ → List (Nat × VP)) (Lx : ε → δ → List Ent) (R : σ ⊕ ε → Prop) : Exit → Act → World → Prop := fun x a W =>
  (∃ s, R (.inl s) ∧ x = .normal ∧ ∃ g, St c (E s g) (L s g) a W) ∨ ∃ e, R (.inr e) ∧ x ≠ .normal ∧ x = xs e ∧ ∃ g, St c (Ex e g) (Lx e g) a W

theorem To.roundW {σ ε γ δ : Type} {E' : σ → γ → List (Nat × VP)} {L' : σ → γ → List Ent} {xs : ε → Exit} {Ex : ε → δ → List (Nat × VP)} {Lx : ε → δ → List Ent} {R : σ ⊕ ε → Prop} {s : σ} (hR : R (.inl s)) (g : γ) (n : Nat)
    (hL : L.drop n = L' s g) (h : Le E (E' s g)) : To c (LQW c E' L' xs Ex Lx R) .normal E L := fun a W st => .inl ⟨s, hR, rfl, g, by rw [← hL]; exact (st.dropL n).less h.look⟩
theorem To.leaveW {σ ε γ δ : Type} {E' : σ → γ → List (Nat × VP)} {L' : σ → γ → List Ent} {xs : ε → Exit} {Ex : ε → δ → List (Nat × VP)} {Lx : ε → δ → List Ent} {R : σ ⊕ ε → Prop} {e : ε} {x : Exit} (hR : R (.inr e)) (g : δ) (n : Nat)
    (hx : x = xs e) (hn : x ≠ .normal) (hL : L.drop n = Lx e g) (h : Le E (Ex e g)) : To c (LQW c E' L' xs Ex Lx R) x E L := fun a W st => .inr ⟨e, hR, hn, hx, g, by rw [← hL]; exact (st.dropL n).less h.look⟩

theorem Wp.loopW {σ ε γ δ : Type} {body : Code} {N : Nat} {b : σ → Wm (σ ⊕ ε)} {s0 : σ} {R : ε → Prop} (hl : Gv.loopW N b s0 R)
    (E' : σ → γ → List (Nat × VP)) (L' : σ → γ → List Ent) (xs : ε → Exit) (Ex : ε → δ → List (Nat × VP)) (Lx : ε → δ → List Ent) (g0 : γ) (hL : L = L' s0 g0) (hE : Le E (E' s0 g0))
    (hbody : ∀ s R, b s R → ∀ g, Wp c (LQW c E' L' xs Ex Lx R) body (E' s g) (L' s g))
    (hafter : ∀ e, R e → ∀ g, To c Q (xs e) (Ex e g) (Lx e g)) : Wp c Q (.loop body) E L := fun a W st => by
  subst hL
  exact loop_coreW b (fun s a W => ∃ g, St c (E' s g) (L' s g) a W) (fun e x a W => x = xs e ∧ ∃ g, St c (Ex e g) (Lx e g) a W)
    (fun s R hs a W ⟨g, hI⟩ => wpIn_mono (hbody s R hs g a W hI) (fun x a W h => by
      rcases h with ⟨s', h1, h2, h3⟩ | ⟨e', h1, h2, h3, h4⟩
      · exact .inl ⟨s', h1, h2, h3⟩
      · exact .inr ⟨e', h1, h2, h3, h4⟩)) Q R (fun e x a W hR ⟨hx, g, hs⟩ => by subst hx; exact hafter e hR g a W hs) hl ⟨g0, st.less hE.look⟩

theorem wcond_t {α : Type} {b : Bool} {m n : Wm α} {R : α → Prop} (hb : b = true) (h : cond b m n R) : m R := by subst hb; exact h
theorem wcond_f {α : Type} {b : Bool} {m n : Wm α} {R : α → Prop} (hb : b = false) (h : cond b m n R) : n R := by subst hb; exact h

theorem Wp.condWh {β γ ρ : Type} {R0 : ρ → Prop} {x : Operand} {b : Bool} {y z : Code} {p1 p2 : Wm β} {k : β → Wm ρ} (h : Wm.bind (bif b then p1 else p2) k R0) (E' : β → γ → List (Nat × VP)) (L' : β → γ → List Ent) (hl : Look c E L x (.of b))
    (hM : ∀ m g, k m R0 → To c Q .normal (E' m g) (L' m g))
    (ht : (∀ m g, k m R0 → To c Q .normal (E' m g) (L' m g)) → b = true → p1 (fun m => k m R0) → Wp c Q y E L) (hf : (∀ m g, k m R0 → To c Q .normal (E' m g) (L' m g)) → b = false → p2 (fun m => k m R0) → Wp c Q z E L) : Wp c Q (.cond x y z) E L :=
  Wp.cond hl (fun hb => ht hM hb (wcond_t hb h)) (fun hb => hf hM hb (wcond_f hb h))

theorem Wp.loopWh {σ ε γ δ ρ : Type} {body : Code} {N : Nat} {b : σ → Wm (σ ⊕ ε)} {s0 : σ} {k : ε → Wm ρ} {R0 : ρ → Prop} (hl : Wm.bind (Gv.loopW N b s0) k R0)
    (E' : σ → γ → List (Nat × VP)) (L' : σ → γ → List Ent) (xs : ε → Exit) (Ex : ε → δ → List (Nat × VP)) (Lx : ε → δ → List Ent) (g0 : γ) (hL : L = L' s0 g0) (hE : Le E (E' s0 g0))
    (hbody : ∀ s R, b s R → ∀ g, Wp c (LQW c E' L' xs Ex Lx R) body (E' s g) (L' s g))
    (hafter : ∀ e, k e R0 → ∀ g, To c Q (xs e) (Ex e g) (Lx e g)) : Wp c Q (.loop body) E L :=
  Wp.loopW (R := fun e => k e R0) hl E' L' xs Ex Lx g0 hL hE hbody hafter

theorem vnone {n : Nat} : ∀ i, i < n → vget (default : Vector Ref n) i = none := fun i hi => by
  have : (default : Vector Ref n) = Vector.replicate n none := rfl
  rw [this]
  simp [vget, hi]

/-- a byte of a string; none: out of range -/
def strM (s : ByteArray) (i : Int) : Option (BitVec 8) := (if 0 ≤ i then s[i.toNat]? else none).map fun b => BitVec.ofNat 8 b.toNat
theorem r_idxs8 {d : Option Tmp} {ty : TypeId} {pos : String} {af : Array Edge} {g : Option (Nat × Bool)} {x y : Operand} {t : TypeId} {s : ByteArray} {i : BitVec 8} {r : BitVec 8} (hu : c.P.underlying t = some .string) (hx : Look c E L x (.of s)) (hy : Look c E L y (.of i)) (hr : strM s (i.toNat : Int) = some r) :
    HR c E L ⟨d, .index t x y, ty, pos, af, g⟩ (.of r) := .pure fun a W st => by
  have h1 := of_str.1 (hx a W st)
  have h2 := of_u8.1 (hy a W st)
  unfold strM at hr
  cases hb : (if 0 ≤ (i.toNat : Int) then s[(i.toNat : Int).toNat]? else none) with
  | none => rw [hb] at hr; cases hr
  | some b =>
    rw [hb] at hr
    simp only [Option.map_some, Option.some.injEq] at hr
    subst hr
    have hlt : b.toNat < 256 := b.toNat_lt
    refine ⟨.int .u8 b.toNat, ?_, of_u8.2 (by simp [BitVec.toNat_ofNat, Nat.mod_eq_of_lt hlt])⟩
    have hb' := hb
    simp only [Int.natCast_nonneg, if_true, Int.toNat_natCast] at hb'
    simp [execOp, Instr.index, h1, h2, asIntOf, run_underlying hu, hb']
end
end Gv

namespace Gv
open Go
set_option linter.unusedVariables false
set_option linter.unusedSimpArgs false

/-- a map as data; none: nil -/
structure MRef where
  p : Option Nat
  deriving DecidableEq, Inhabited
instance instRpMRef : Rp MRef := .scalar (fun x => Value.map x.p) fun _ => rfl
instance : Zc MRef := ⟨[.map none], fun _ _ => rfl⟩
theorem of_mref {A W v} {x : MRef} : (VP.of x).holds A W v ↔ v = .map x.p :=
  ⟨fun h => toList_one h.1 h.2, fun h => by subst h; exact ⟨rfl, rfl⟩⟩

theorem look_mref {c : Cx} {E : List (Nat × VP)} {L : List Ent} {x : Operand} {r : MRef} {p : Nat} (hx : Look c E L x (.of r)) (h : r.p = some p) : Look c E L x (.of (⟨some p⟩ : MRef)) := fun a W s => by
  have := of_mref.1 (hx a W s)
  rw [h] at this
  exact of_mref.2 this

/-! ### What a map holds -/

inductive Kvs {α β : Type} [Rp α] [Rp β] (A : List Nat) (W : World) : List MapEntry → List (α × β) → Prop
  | nil : Kvs A W [] []
  | cons {e k v es r} : (VP.of k).holds A W e.key → (VP.of v).holds A W e.val → Kvs A W es r → Kvs A W (e :: es) ((k, v) :: r)

theorem Kvs.mono {α β : Type} [Rp α] [Rp β] {A W A' W'} (h : Ext A W A' W') : ∀ {es : List MapEntry} {kv : List (α × β)}, Kvs A W es kv → Kvs A' W' es kv
  | _, _, .nil => .nil
  | _, _, .cons h1 h2 r => .cons (VP.mono _ h h1) (VP.mono _ h h2) (r.mono h)

def CP.map {α β : Type} [Rp α] [Rp β] (kv : List (α × β)) : CP where
  holds A W o := ∃ es clock, o = .map es clock ∧ Kvs A W es.toList kv ∧ (∀ x ∈ es.toList, x.born < clock) ∧ (es.toList.map MapEntry.born).Nodup
  nilOk := False
  mono e h := let ⟨es, clock, h1, h2, h3⟩ := h; ⟨es, clock, h1, h2.mono e, h3⟩

def mget {α β : Type} [DecidableEq α] : List (α × β) → α → Option β
  | [], _ => none
  | (k, v) :: r, x => if x = k then some v else mget r x
def mput {α β : Type} [DecidableEq α] : List (α × β) → α → β → List (α × β)
  | [], x, y => [(x, y)]
  | (k, v) :: r, x, y => if x = k then (x, y) :: r else (k, v) :: mput r x y
def mdel {α β : Type} [DecidableEq α] : List (α × β) → α → List (α × β)
  | [], _ => []
  | (k, v) :: r, x => if x = k then r else (k, v) :: mdel r x

/-- what keys of this kind can be relied on -/
class Pk (α : Type) [Rp α] : Prop where
  uniq : ∀ {A W cs A' W' cs'} {x : α}, Rp.rep A W cs x → Rp.rep A' W' cs' x → cs = cs'
  plain : ∀ {A W cs} {x : α}, Rp.rep A W cs x → ∀ v ∈ cs, ∀ n, Instr.sameBits n v v = true

instance : Pk Int := ⟨fun h h' => h.trans h'.symm, fun h v hv n => by subst h; rw [List.mem_singleton.1 hv]; simp [Instr.sameBits]⟩
instance : Pk (BitVec 64) := ⟨fun h h' => h.trans h'.symm, fun h v hv n => by subst h; rw [List.mem_singleton.1 hv]; simp [Instr.sameBits]⟩
instance : Pk Bool := ⟨fun h h' => h.trans h'.symm, fun h v hv n => by subst h; rw [List.mem_singleton.1 hv]; simp [Instr.sameBits]⟩
instance {α : Type} [Rp α] [Inhabited α] [Pk α] {n : Nat} : Pk (Vector α n) := ⟨fun {A W cs A' W' cs' x} h h' => by
    have l1 : cs.length = n * Rp.size α := Rp.len h
    have l2 : cs'.length = n * Rp.size α := Rp.len h'
    have key : ∀ m, m ≤ n → cs.take (m * Rp.size α) = cs'.take (m * Rp.size α) := by
      intro m
      induction m with
      | zero => intro _; simp
      | succ m ih =>
        intro hm
        have hm' : m < n := hm
        have e1 := (Lens.idx (α := α) n m hm').get_rep h
        have e2 := (Lens.idx (α := α) n m hm').get_rep h'
        have e3 := Pk.uniq e1 e2
        rw [Nat.succ_mul, List.take_add, List.take_add, ih (by omega)]
        congr 1
    have := key n (Nat.le_refl _)
    rwa [← l1, List.take_length, l1, ← l2, List.take_length] at this,
  fun {A W cs x} h v hv k => by
    have l1 : cs.length = n * Rp.size α := Rp.len h
    obtain ⟨i, hi, rfl⟩ := List.getElem_of_mem hv
    by_cases hs : Rp.size α = 0
    · rw [hs, Nat.mul_zero] at l1; omega
    have hq : i / Rp.size α < n := Nat.div_lt_of_lt_mul (by rw [l1, Nat.mul_comm] at hi; exact hi)
    have e1 := (Lens.idx (α := α) n (i / Rp.size α) hq).get_rep h
    refine Pk.plain e1 _ ?_ k
    have hr : i % Rp.size α < Rp.size α := Nat.mod_lt _ (by omega)
    have hd := Nat.div_add_mod i (Rp.size α)
    refine List.mem_iff_getElem?.2 ⟨i % Rp.size α, ?_⟩
    simp only [Lens.idx]
    rw [List.getElem?_take, if_pos hr, List.getElem?_drop, Nat.mul_comm, hd]
    exact List.getElem?_eq_getElem hi⟩

theorem cut_step {cs cs' : List Value} (o s : Nat) (h : (cs.drop o).take s = (cs'.drop o).take s) (k : cs.drop (o + s) = cs'.drop (o + s)) : cs.drop o = cs'.drop o := by
  rw [← List.take_append_drop s (cs.drop o), ← List.take_append_drop s (cs'.drop o), h, List.drop_drop, List.drop_drop, k]
theorem cut_all {cs cs' : List Value} {n : Nat} (h : cs.length = n) (h' : cs'.length = n) (k : cs.drop 0 = cs'.drop 0) : cs = cs' := by simpa using k
theorem cut_end {cs cs' : List Value} {n m : Nat} (h : cs.length = n) (h' : cs'.length = n) (k : n ≤ m) : cs.drop m = cs'.drop m := by
  rw [List.drop_eq_nil_of_le (by omega), List.drop_eq_nil_of_le (by omega)]

theorem holds_uniq {α : Type} [Rp α] [Pk α] {A W A' W' u v} {x : α} (h : (VP.of x).holds A W u) (h' : (VP.of x).holds A' W' v) : u = v := by
  obtain ⟨h1, h2⟩ := h
  obtain ⟨h3, h4⟩ := h'
  have h5 := Pk.uniq h2 h4
  by_cases ha : Rp.agg α = true
  · simp only [shaped, ha, if_true] at h1 h3
    obtain ⟨a, rfl⟩ := h1
    obtain ⟨b, rfl⟩ := h3
    simp only [Value.cells] at h5
    congr 1
    exact Array.toList_inj.1 h5
  · simp only [Bool.not_eq_true] at ha
    simp only [shaped, ha, Bool.false_eq_true, if_false] at h1 h3
    rw [cells_one h1, cells_one h3] at h5
    simpa using h5

theorem zip_refl {P : Value → Value → Bool} : ∀ {cs : List Value}, (∀ v ∈ cs, P v v = true) → ((cs.zip cs).all fun (x, y) => P x y) = true
  | [], _ => rfl
  | a :: r, h => by
    simp only [List.zip_cons_cons, List.all_cons, Bool.and_eq_true]
    exact ⟨h a (by simp), zip_refl fun v hv => h v (by simp [hv])⟩

theorem holds_bits {α : Type} [Rp α] [Pk α] {A W u} {x : α} (h : (VP.of x).holds A W u) (n : Nat) : Instr.sameBits (n + 1) u u = true := by
  obtain ⟨h1, h2⟩ := h
  by_cases ha : Rp.agg α = true
  · simp only [shaped, ha, if_true] at h1
    obtain ⟨a, rfl⟩ := h1
    simp only [Value.cells] at h2
    simp only [Instr.sameBits, beq_self_eq_true, Bool.true_and]
    exact zip_refl fun v hv => Pk.plain h2 v hv n
  · simp only [Bool.not_eq_true] at ha
    simp only [shaped, ha, Bool.false_eq_true, if_false] at h1
    rw [cells_one h1] at h2
    exact Pk.plain h2 u (by simp) _

theorem run_stays {α : Type} [Rp α] [Pk α] {P : Program} {A W A' W' u v} {x : α} (h : (VP.of x).holds A W u) (h' : (VP.of x).holds A' W' v) (W0 : World) : (Instr.keyThatStays u v).run P W0 = .ok v W0 := by
  have := holds_uniq h h'
  subst this
  simp [Instr.keyThatStays, holds_bits h 9999]

/-! ### Keys may be asked for -/

/-- a key of this kind can be hashed, at n levels -/
def Ck (P : Program) (t : TypeId) (α : Type) [Rp α] (n : Nat) : Prop := ∀ b d A W u (x : α), n ≤ d → (VP.of x).holds A W u → (Instr.checkKey b d t u).run P W = .ok () W

theorem ck_scalar {P : Program} {t : TypeId} {α : Type} [Rp α] {D : TypeDesc} (h : P.underlying t = some D) (hd : (match (motive := TypeDesc → Bool) D with | .interface _ | .array _ _ | .struct _ => false | _ => true) = true) : Ck P t α 1 := by
  intro b d A W u x hn hx
  obtain ⟨d, rfl⟩ : ∃ e, d = e + 1 := ⟨d - 1, by omega⟩
  simp only [Instr.checkKey, Sem.run_bind, run_underlying h, Result.andThen_ok]
  cases D <;> simp at hd <;> rfl

theorem run_forIn_unit {P : Program} {W : World} {ι : Type} (f : ι → Sem Unit) : ∀ (l : List ι), (∀ i ∈ l, (f i).run P W = .ok () W) →
    (forIn (m := Sem) l () (fun i _ => do f i; pure (ForInStep.yield ()))).run P W = .ok () W
  | [], _ => by simp
  | i :: r, h => by
    have h1 := h i (by simp)
    have h2 := run_forIn_unit (P := P) (W := W) f r (fun j hj => h j (by simp [hj]))
    rw [List.forIn_cons]
    simp only [Sem.run_bind, h1, Result.andThen_ok, Sem.run_pure]
    rw [h2]

theorem run_forIn_yield {P : Program} {W : World} {ι : Type} (f : ι → PUnit → Sem (ForInStep PUnit)) : ∀ (l : List ι), (∀ i ∈ l, (f i ()).run P W = .ok (.yield ()) W) → (forIn (m := Sem) l PUnit.unit f).run P W = .ok () W
  | [], _ => by simp
  | i :: r, h => by
    have h1 := h i (by simp)
    have h2 := run_forIn_yield (P := P) (W := W) f r (fun j hj => h j (by simp [hj]))
    rw [List.forIn_cons]
    simp only [Sem.run_bind, h1, Result.andThen_ok]
    exact h2

theorem ck_arr {P : Program} {t e n k : Nat} {α : Type} [Rp α] [Inhabited α] (h : P.underlying t = some (.array n e)) (te : Ty P e α) (he : Ck P e α k) : Ck P t (Vector α n) (k + 1) := by
  intro b d A W u x hd hx
  obtain ⟨d, rfl⟩ : ∃ e, d = e + 1 := ⟨d - 1, by omega⟩
  obtain ⟨h1, h2⟩ := hx
  obtain ⟨xs, rfl⟩ : ∃ cs, u = .agg cs := by simpa [shaped, Rp.agg] using h1
  simp only [Value.cells] at h2
  have hlx : xs.toList.length = n * Rp.size α := Rp.len h2
  have hstep : ∀ i ∈ List.range' 0 n, ((do
      let z ← Go.sizeOf e
      let a ← part e xs (i * z)
      Instr.checkKey b d e a) : Sem Unit).run P W = .ok () W := by
    intro i hi
    have hi' : i < n := by simpa using hi
    have hin : i * Rp.size α + Rp.size α ≤ n * Rp.size α := (Lens.idx (α := α) n i hi').inb
    obtain ⟨a, ha, hra⟩ := run_part (A := A) (P := P) (W := W) (cs := xs) (off := i * Rp.size α) te (by simp at hlx; omega) ((Lens.idx (α := α) n i hi').get_rep h2)
    simp only [Sem.run_bind, te.sizeOf, ha, Result.andThen_ok]
    exact he b d A W a _ (by omega) hra
  have hf := run_forIn_unit (P := P) (W := W) _ _ hstep
  simp only [Instr.checkKey, Sem.run_bind, run_underlying h, Result.andThen_ok, Std.Legacy.Range.forIn_eq_forIn_range']
  simp only [Std.Legacy.Range.size, Nat.sub_zero, Nat.add_one_sub_one, Nat.div_one] at hf ⊢
  simp only [bind_assoc] at hf
  rw [hf]
  rfl

/-- the fields of a struct that is a key -/
inductive Cks (P : Program) (β : Type) [Rp β] (k : Nat) : List Field → Prop
  | nil : Cks P β k []
  | cons {γ : Type} [Rp γ] {f r} (l : Lens β γ) : l.off = f.offset → Ty P f.type γ → Ck P f.type γ k → Cks P β k r → Cks P β k (f :: r)

theorem ck_struct {P : Program} {t k : Nat} {β : Type} [Rp β] {fs : Array Field} (ha : Rp.agg β = true) (h : P.underlying t = some (.struct fs)) (hc : Cks P β k fs.toList) : Ck P t β (k + 1) := by
  intro b d A W u x hd hx
  obtain ⟨d, rfl⟩ : ∃ e, d = e + 1 := ⟨d - 1, by omega⟩
  obtain ⟨h1, h2⟩ := hx
  obtain ⟨xs, rfl⟩ : ∃ cs, u = .agg cs := by simpa [shaped, ha] using h1
  simp only [Value.cells] at h2
  have hlx : xs.toList.length = Rp.size β := Rp.len h2
  have hstep : ∀ f ∈ fs.toList, ((do
      if f.name ≠ "_" then do
        let a ← part f.type xs f.offset
        Instr.checkKey b d f.type a) : Sem Unit).run P W = .ok () W := by
    have key : ∀ l, Cks P β k l → ∀ f ∈ l, ((do
      if f.name ≠ "_" then do
        let a ← part f.type xs f.offset
        Instr.checkKey b d f.type a) : Sem Unit).run P W = .ok () W := by
      intro l hl
      induction hl with
      | nil => simp
      | cons l ho te hk r ih =>
        rename_i f r'
        intro f' hf'
        rcases List.mem_cons.1 hf' with rfl | hf'
        · split
          · obtain ⟨a, ha, hra⟩ := run_part (A := A) (P := P) (W := W) (cs := xs) (off := l.off) te (by have := l.inb; simp at hlx; omega) (l.get_rep h2)
            rw [← ho]
            simp only [Sem.run_bind, ha, Result.andThen_ok]
            exact hk b d A W a _ (by omega) hra
          · rfl
        · exact ih f' hf'
    exact key _ hc
  simp only [Instr.checkKey, Sem.run_bind, run_underlying h, Result.andThen_ok]
  rw [← Array.forIn_toList, run_forIn_yield]
  · rfl
  · intro f hf
    have := hstep f hf
    split
    · rename_i hn
      rw [if_pos hn] at this
      simp only [Sem.run_bind] at this ⊢
      revert this
      generalize (part f.type xs f.offset).run P W = r
      cases r <;> simp only [Result.andThen] <;> intro h <;> first | rw [h]; rfl | cases h
    · rfl

/-! ### Finding a key -/

/-- keys of type t: how they are compared and hashed -/
structure Kt (P : Program) (t : TypeId) (α : Type) [Rp α] [DecidableEq α] : Prop where
  check : ∀ b A W u (x : α), (VP.of x).holds A W u → (Instr.checkKey b 10000 t u).run P W = .ok () W
  same : ∀ A W u v (x y : α), (VP.of x).holds A W u → (VP.of y).holds A W v → (Op.equal t u v).run P W = .ok (decide (x = y)) W
  now : ∃ D, P.underlying t = some D ∧ ∀ A W u v (x y : α), (VP.of x).holds A W u → (VP.of y).holds A W v → Instr.sameNow D u v = none ∨ Instr.sameNow D u v = some (decide (x = y))

/-- the place of a key -/
def mfind {α β : Type} [DecidableEq α] : List (α × β) → α → Nat → Option (Nat × β)
  | [], _, _ => none
  | (k, v) :: r, x, i => if x = k then some (i, v) else mfind r x (i + 1)

/-- what findKey says -/
def Found {α β : Type} [Rp α] [Rp β] (A : List Nat) (W : World) (kv : List (α × β)) : Option (Nat × Value) → Option (Nat × β) → Prop
  | none, none => True
  | some (i, u), some (j, v) => i = j ∧ (VP.of v).holds A W u
  | _, _ => False

theorem findNow_found {α β : Type} [Rp α] [Rp β] [DecidableEq α] {D : TypeDesc} {A : List Nat} {W : World} {u : Value} {x : α} (hu : (VP.of x).holds A W u)
    (hs : ∀ v (y : α), (VP.of y).holds A W v → Instr.sameNow D u v = none ∨ Instr.sameNow D u v = some (decide (x = y))) (kv0 : List (α × β)) : ∀ {es : List MapEntry} {kv : List (α × β)} (i : Nat), Kvs A W es kv →
    Instr.findNow D u es i = none ∨ ∃ r, Instr.findNow D u es i = some r ∧ Found A W kv0 r (mfind kv x i)
  | [], _, i, h => by cases h; exact .inr ⟨none, rfl, trivial⟩
  | e :: es, _, i, h => by
    cases h with
    | cons h1 h2 h3 =>
      rename_i k v r
      rcases hs e.key k h1 with h4 | h4
      · exact .inl (by simp [Instr.findNow, h4])
      · by_cases hk : x = k
        · exact .inr ⟨some (i, e.val), by simp [Instr.findNow, h4, hk], by simp only [mfind, if_pos hk]; exact ⟨rfl, h2⟩⟩
        · rcases findNow_found hu hs kv0 (i + 1) h3 with h5 | ⟨r', h5, h6⟩
          · exact .inl (by simp [Instr.findNow, h4, hk, h5])
          · exact .inr ⟨r', by simp [Instr.findNow, h4, hk, h5], by simp only [mfind, if_neg hk]; exact h6⟩

theorem findAsking_found {α β : Type} [Rp α] [Rp β] [DecidableEq α] {P : Program} {t : TypeId} (kt : Kt P t α) {A : List Nat} {W : World} {u : Value} {x : α} (hu : (VP.of x).holds A W u) (kv0 : List (α × β)) : ∀ {es : List MapEntry} {kv : List (α × β)} (i : Nat), Kvs A W es kv →
    ∃ r, (Instr.findAsking t u es i).run P W = .ok r W ∧ Found A W kv0 r (mfind kv x i)
  | [], _, i, h => by cases h; exact ⟨none, rfl, trivial⟩
  | e :: es, _, i, h => by
    cases h with
    | cons h1 h2 h3 =>
      rename_i k v r
      have h4 := kt.same A W u e.key x k hu h1
      by_cases hk : x = k
      · exact ⟨some (i, e.val), by simp [Instr.findAsking, Sem.run_bind, h4, hk], by simp only [mfind, if_pos hk]; exact ⟨rfl, h2⟩⟩
      · obtain ⟨r', h5, h6⟩ := findAsking_found kt hu kv0 (i + 1) h3
        exact ⟨r', by simp [Instr.findAsking, Sem.run_bind, h4, hk, h5], by simp only [mfind, if_neg hk]; exact h6⟩

theorem findKey_found {α β : Type} [Rp α] [Rp β] [DecidableEq α] {P : Program} {t : TypeId} (kt : Kt P t α) {A : List Nat} {W : World} {u : Value} {x : α} (hu : (VP.of x).holds A W u) {es : List MapEntry} {kv : List (α × β)} (h : Kvs A W es kv) :
    ∃ r, (Instr.findKey t u es).run P W = .ok r W ∧ Found A W kv r (mfind kv x 0) := by
  obtain ⟨D, hD, hs⟩ := kt.now
  rcases findNow_found hu (fun v y hy => hs A W u v x y hu hy) kv 0 h with h1 | ⟨r, h1, h2⟩
  · obtain ⟨r, h3, h4⟩ := findAsking_found kt hu kv 0 h
    exact ⟨r, by simp [Instr.findKey, Sem.run_bind, run_underlying hD, h1, h3], h4⟩
  · exact ⟨r, by simp [Instr.findKey, Sem.run_bind, run_underlying hD, h1], h2⟩

theorem mfind_at {α β : Type} [Rp α] [Rp β] [DecidableEq α] {A : List Nat} {W : World} {x : α} : ∀ {es : List MapEntry} {kv : List (α × β)} {j i : Nat} {v : β}, Kvs A W es kv → mfind kv x j = some (i, v) →
    ∃ m e, i = j + m ∧ es[m]? = some e ∧ (VP.of x).holds A W e.key ∧ (∀ (e' : MapEntry) (y : β), (VP.of x).holds A W e'.key → (VP.of y).holds A W e'.val → Kvs A W (es.set m e') (mput kv x y)) ∧ Kvs A W (es.eraseIdx m) (mdel kv x)
  | [], _, j, i, v, h, hf => by cases h; cases hf
  | e :: es, _, j, i, v, h, hf => by
    cases h with
    | cons h1 h2 h3 =>
      rename_i k v' r
      by_cases hk : x = k
      · subst hk
        simp only [mfind, if_pos] at hf
        simp only [Option.some.injEq, Prod.mk.injEq] at hf
        exact ⟨0, e, by omega, rfl, h1, fun e' y g1 g2 => by simp only [mput, if_pos]; exact .cons g1 g2 h3, by simp only [mdel, if_pos]; exact h3⟩
      · simp only [mfind, if_neg hk] at hf
        obtain ⟨m, e', g1, g2, g3, g4, g5⟩ := mfind_at h3 hf
        exact ⟨m + 1, e', by omega, by simpa using g2, g3, fun e'' y q1 q2 => by simp only [mput, if_neg hk]; exact .cons h1 h2 (g4 e'' y q1 q2), by simp only [mdel, if_neg hk]; exact .cons h1 h2 g5⟩
theorem mfind_none {α β : Type} [Rp α] [Rp β] [DecidableEq α] {A : List Nat} {W : World} {x : α} : ∀ {es : List MapEntry} {kv : List (α × β)} {j : Nat}, Kvs A W es kv → mfind kv x j = none →
    (∀ (e' : MapEntry) (y : β), (VP.of x).holds A W e'.key → (VP.of y).holds A W e'.val → Kvs A W (es ++ [e']) (mput kv x y)) ∧ mdel kv x = kv
  | [], _, j, h, _ => by cases h; exact ⟨fun e' y h1 h2 => .cons h1 h2 .nil, rfl⟩
  | e :: es, _, j, h, hf => by
    cases h with
    | cons h1 h2 h3 =>
      rename_i k v' r
      by_cases hk : x = k
      · simp [mfind, hk] at hf
      · simp only [mfind, if_neg hk] at hf
        obtain ⟨g1, g2⟩ := mfind_none h3 hf
        exact ⟨fun e' y q1 q2 => by simp only [mput, if_neg hk]; exact .cons h1 h2 (g1 e' y q1 q2), by simp only [mdel, if_neg hk, g2]⟩
theorem Kvs.length {α β : Type} [Rp α] [Rp β] {A W} : ∀ {es : List MapEntry} {kv : List (α × β)}, Kvs A W es kv → es.length = kv.length
  | _, _, .nil => rfl
  | _, _, .cons _ _ r => by simp [r.length]

theorem mfind_mget {α β : Type} [DecidableEq α] : ∀ (kv : List (α × β)) (x : α) (i : Nat), (mfind kv x i).map (·.2) = mget kv x
  | [], _, _ => rfl
  | (k, v) :: r, x, i => by simp only [mfind, mget]; split <;> simp [mfind_mget]

/-! ### Operations on maps -/

section
variable {c : Cx} {E : List (Nat × VP)} {L : List Ent} {ops : Array Oper} {Q : Exit → Act → World → Prop}
variable {d : Option Tmp} {ty : TypeId} {pos : String} {af : Array Edge} {g : Option (Nat × Bool)} {x y z : Operand} {t t2 : TypeId}
variable {κ : Type} [Cl κ] {hp : Pool κ} {loc : List Ent}

theorem Sq.mkMapQ0 {α β : Type} [Rp α] [Rp β] {rest : List Oper} {dd : Nat} (mk : κ) (hk : ∀ p, Cl.ents p mk = [⟨some p, .map ([] : List (α × β))⟩]) (hn : Nat.blt dd c.n = true)
    (k : ∀ p, p ∉ pks hp → Sq c ops Q rest ((dd, .of (⟨some p⟩ : MRef)) :: E) (loc ++ Ents ((p, mk) :: hp))) : Sq c ops Q (⟨some dd, .makeMap t none, ty, pos, af, none⟩ :: rest) E (loc ++ Ents hp) := fun a W s => by
  refine wpList_op rfl (R := fun v W' => v = .map (some W.heap.size) ∧ W' = W.alloc (.map #[] 0)) (.of_run ?_ ⟨rfl, rfl⟩) fun v W' ⟨hv, hw⟩ => ?_
  · simp only [execOp, Instr.makeMap, newObj, Sem.run_bind, Sem.run_pure]; rfl
  · subst hv
    subst hw
    refine k _ s.fresh _ _ (St.put ?_ (by simpa using hn) (of_mref.2 rfl))
    refine (s.alloc (cp := .map ([] : List (α × β))) ⟨#[], 0, rfl, .nil, by simp, by simp⟩).perm ?_
    simp only [Ents, hk, List.singleton_append]
    exact List.perm_middle.symm
theorem Sq.mkMapQ {α β : Type} [Rp α] [Rp β] {rest : List Oper} {dd : Nat} (n : Nat) (hL : L.drop n = Ents hp) (mk : κ) (hk : ∀ p, Cl.ents p mk = [⟨some p, .map ([] : List (α × β))⟩]) (hn : Nat.blt dd c.n = true) (k : ∀ a : Nat × Pool κ, a.1 ∉ hp.map (·.1) ∧ a.2 = (a.1, mk) :: hp → Sq c ops Q rest ((dd, .of (⟨some a.1⟩ : MRef)) :: E) (L.take n ++ Ents a.2)) : Sq c ops Q (⟨some dd, .makeMap t none, ty, pos, af, none⟩ :: rest) E L := by
  have e : L = L.take n ++ Ents hp := by rw [← hL, List.take_append_drop]
  clear hL
  generalize L.take n = loc at *
  subst e
  exact Sq.mkMapQ0 (α := α) (β := β) mk hk hn fun p h => k (p, (p, mk) :: hp) ⟨h, rfl⟩


/-- the map behind a reference -/
theorem St.mapAt {a : Act} {W : World} (s : St c E L a W) {p : Nat} {α β : Type} [Rp α] [Rp β] {kv : List (α × β)} (hm : (⟨some p, .map kv⟩ : Ent) ∈ L) :
    ∃ es clock, W.heap[p]? = some (.map es clock) ∧ Kvs (ks L ++ c.A0) W es.toList kv ∧ (∀ x ∈ es.toList, x.born < clock) ∧ (es.toList.map MapEntry.born).Nodup := by
  obtain ⟨o, ho, es, clock, rfl, h2, h3, h4⟩ := s.own _ hm
  exact ⟨es, clock, ho, h2, h3, h4⟩

theorem look_found {a : Act} {W : World} (s : St c E L a W) {p key elem : Nat} {α β : Type} [Rp α] [Rp β] [DecidableEq α] [Inhabited β] {kv : List (α × β)} {i : α} (hu : c.P.underlying t = some (.map key elem)) (kt : Kt c.P key α) (zr : Zr c.P elem (default : β))
    (hx : Look c E L x (.of (⟨some p⟩ : MRef))) (hy : Look c E L y (.of i)) (hm : (⟨some p, .map kv⟩ : Ent) ∈ L) :
    ∃ u, (VP.of ((mget kv i).getD default)).holds (ks L ++ c.A0) W u ∧ ∀ ok, (Instr.lookup t (a.eval x) (a.eval y) ok).run c.P W = .ok (if ok then .tuple #[u, .bool (mget kv i).isSome] else u) W := by
  obtain ⟨es, clock, ho, h2, h3, h4⟩ := s.mapAt hm
  have hx' := of_mref.1 (hx a W s)
  have hy' := hy a W s
  obtain ⟨r, hr, hf⟩ := findKey_found kt hy' h2
  obtain ⟨ie, zv, hie, hz, hzr⟩ := zr.zero
  have hg : (getObj p).run c.P W = .ok (.map es clock) W := by simp [getObj, Sem.run, ho]
  have hc := fun b => kt.check b _ W _ i hy'
  have hmf := mfind_mget kv i 0
  cases hfm : mfind kv i 0 with
  | none =>
    rw [hfm] at hf hmf
    cases r with
    | some q => exact hf.elim
    | none =>
      refine ⟨zv, by rw [← hmf]; exact hzr _ W, fun ok => ?_⟩
      rw [← hmf]
      simp [Instr.lookup, Sem.run_bind, run_underlying hu, hx', hg, hc, hr, zeroValue, typeInfo, hie, hz]
  | some q =>
    rw [hfm] at hf hmf
    cases r with
    | none => exact hf.elim
    | some q' =>
      refine ⟨q'.2, by rw [← hmf]; exact hf.2, fun ok => ?_⟩
      rw [← hmf]
      simp [Instr.lookup, Sem.run_bind, run_underlying hu, hx', hg, hc, hr]

theorem r_lookM {p key elem : Nat} {α β : Type} [Rp α] [Rp β] [DecidableEq α] [Inhabited β] {kv : List (α × β)} {i : α} {r : β} (hu : c.P.underlying t = some (.map key elem)) (kt : Kt c.P key α) (zr : Zr c.P elem (default : β))
    (hx : Look c E L x (.of (⟨some p⟩ : MRef))) (hy : Look c E L y (.of i)) (hm : (⟨some p, .map kv⟩ : Ent) ∈ L) (hr : (mget kv i).getD default = r) :
    HR c E L ⟨d, .lookup t x y false, ty, pos, af, g⟩ (.of r) := .pure fun a W s => by
  subst hr
  obtain ⟨u, h1, h2⟩ := look_found s hu kt zr hx hy hm
  have h3 := h2 false
  exact ⟨u, by simp only [execOp, Sem.run_bind, h3, Result.andThen_ok]; rfl, h1⟩
theorem r_lookM2 {p key elem : Nat} {α β : Type} [Rp α] [Rp β] [DecidableEq α] [Inhabited β] {kv : List (α × β)} {i : α} {r : Option β} (hu : c.P.underlying t = some (.map key elem)) (kt : Kt c.P key α) (zr : Zr c.P elem (default : β))
    (hx : Look c E L x (.of (⟨some p⟩ : MRef))) (hy : Look c E L y (.of i)) (hm : (⟨some p, .map kv⟩ : Ent) ∈ L) (hr : mget kv i = r) :
    HR c E L ⟨d, .lookup t x y true, ty, pos, af, g⟩ (.tup [.of (r.getD default), .of r.isSome]) := .pure fun a W s => by
  subst hr
  obtain ⟨u, h1, h2⟩ := look_found s hu kt zr hx hy hm
  have h3 := h2 true
  exact ⟨_, by simp only [execOp, Sem.run_bind, h3, Result.andThen_ok]; rfl, _, rfl, .cons h1 (.cons (of_bool.2 rfl) .nil)⟩
theorem born_set {es : List MapEntry} {m : Nat} {e e' : MapEntry} (h : es[m]? = some e) (hb : e'.born = e.born) : (es.set m e').map MapEntry.born = es.map MapEntry.born := by
  apply List.ext_getElem?
  intro j
  simp only [List.getElem?_map, List.getElem?_set]
  split
  · rename_i hj
    subst hj
    have := (List.getElem?_eq_some_iff.1 h).1
    rw [if_pos this, h]
    simp [hb]
  · rfl

theorem Sq.mputQ0 {rest : List Oper} {op : Op} (hop : op = .mapUpdate t x y z ∨ op = .insert t x y z) {p key elem : Nat} {k k' : κ} {α β : Type} [Rp α] [Rp β] [Pk α] [DecidableEq α] {kv kv' : List (α × β)} {i : α} {v : β} (hu : c.P.underlying t = some (.map key elem)) (kt : Kt c.P key α)
    (hx : Look c E (loc ++ Ents hp) x (.of (⟨some p⟩ : MRef))) (hy : Look c E (loc ++ Ents hp) y (.of i)) (hz : Look c E (loc ++ Ents hp) z (.of v)) (hp' : pat hp p = some k) (hk : Cl.ents p k = [⟨some p, .map kv⟩]) (hkv : mput kv i v = kv') (hk' : Cl.ents p k' = [⟨some p, .map kv'⟩])
    (kk : Sq c ops Q rest E (loc ++ Ents (pup hp p k'))) : Sq c ops Q (⟨none, op, ty, pos, af, none⟩ :: rest) E (loc ++ Ents hp) := fun a W s => by
  subst hkv
  obtain ⟨es, clock, ho, h2, h3, h4⟩ := s.mapAt (pmem (n := loc.length) (by simp) hp' hk)
  have hx' := of_mref.1 (hx a W s)
  have hy' := hy a W s
  have hz' := hz a W s
  obtain ⟨r, hr, hf⟩ := findKey_found kt hy' h2
  have hg : (getObj p).run c.P W = .ok (.map es clock) W := by simp [getObj, Sem.run, ho]
  have hc := kt.check false _ W _ i hy'
  have hlt : p < W.heap.size := (Array.getElem?_eq_some_iff.1 ho).1
  have hset : ∀ o, (setObj p o).run c.P W = .ok () (W.putObj p o) := fun o => by simp only [setObj, Sem.run, ho]; rfl
  have key : ∃ es' clock', (Instr.mapUpdate t (a.eval x) (a.eval y) (a.eval z)).run c.P W = .ok () (W.putObj p (.map es' clock')) ∧ Kvs (ks (loc ++ Ents hp) ++ c.A0) W es'.toList (mput kv i v) ∧ (∀ x ∈ es'.toList, x.born < clock') ∧ (es'.toList.map MapEntry.born).Nodup := by
    cases hfm : mfind kv i 0 with
    | none =>
      rw [hfm] at hf
      cases r with
      | some q => exact hf.elim
      | none =>
        obtain ⟨g1, _⟩ := mfind_none h2 hfm
        refine ⟨es.push { key := a.eval y, val := a.eval z, born := clock }, clock + 1, by simp [Instr.mapUpdate, Sem.run_bind, run_underlying hu, hx', hg, hc, hr, hset], by simpa using g1 { key := a.eval y, val := a.eval z, born := clock } v hy' hz', ?_, ?_⟩
        · intro q hq
          simp only [Array.toList_push, List.mem_append, List.mem_singleton] at hq
          rcases hq with hq | rfl
          · exact Nat.lt_succ_of_lt (h3 q hq)
          · exact Nat.lt_succ_self _
        · simp only [Array.toList_push, List.map_append, List.map_cons, List.map_nil]
          refine List.nodup_append.2 ⟨h4, by simp, fun b hb b' hb' => ?_⟩
          simp only [List.mem_singleton] at hb'
          subst hb'
          obtain ⟨q, hq, rfl⟩ := List.mem_map.1 hb
          exact Nat.ne_of_lt (h3 q hq)
    | some q =>
      rw [hfm] at hf
      cases r with
      | none => exact hf.elim
      | some q' =>
        obtain ⟨m, e, g1, g2, g3, g4, _⟩ := mfind_at h2 hfm
        have hq1 : q'.1 = m := by have := hf.1; omega
        have hq : es[m]? = some e := by simpa using g2
        have hst := run_stays (P := c.P) g3 hy' W
        let e' : MapEntry := { e with key := a.eval y, val := a.eval z }
        have hmod : (es.modify m fun e => { e with key := a.eval y, val := a.eval z }).toList = es.toList.set m e' := by
          apply List.ext_getElem?
          intro j
          rw [Array.getElem?_toList, Array.getElem?_modify, List.getElem?_set, Array.getElem?_toList]
          by_cases hj : m = j
          · subst hj
            rw [if_pos rfl, if_pos rfl, hq, if_pos (by simpa using (Array.getElem?_eq_some_iff.1 hq).1)]
            rfl
          · rw [if_neg hj, if_neg hj]
        refine ⟨es.modify m fun e => { e with key := a.eval y, val := a.eval z }, clock, by simp [Instr.mapUpdate, Sem.run_bind, run_underlying hu, hx', hg, hc, hr, hset, hq1, hq, hst], by rw [hmod]; exact g4 e' v hy' hz', ?_, ?_⟩
        · rw [hmod]
          intro w hw
          rcases List.mem_or_eq_of_mem_set hw with hw | rfl
          · exact h3 w hw
          · exact h3 e (List.mem_of_getElem? g2)
        · rw [hmod, born_set (e' := e') g2 rfl]; exact h4
  obtain ⟨es', clock', hrun, e1, e2, e3⟩ := key
  obtain ⟨R, p1, p2⟩ := pool_open hp'
  have p2 := p2 k'
  rw [hk] at p1
  rw [hk'] at p2
  have hP : ∀ {z : List (α × β)} {M : List Ent}, M.Perm ([⟨some p, .map z⟩] ++ R) → (loc ++ M).Perm (⟨some p, .map z⟩ :: (loc ++ R)) := fun h => (h.append_left loc).trans (by simp only [List.singleton_append]; exact List.perm_middle)
  have s' := (s.perm (hP p1)).turn (i := 0) (cp' := .map (mput kv i v)) rfl (o' := .map es' clock') ⟨es', clock', rfl, e1.mono (perm_ext (hP p1)), e2, e3⟩
  refine wpList_op rfl (R := fun v W' => W' = W.putObj p (.map es' clock')) (.of_skip ?_ rfl) fun v W' hw => ?_
  · rcases hop with rfl | rfl <;> simp [execOp, hrun]
  · subst hw
    exact kk _ _ (s'.perm (hP p2).symm)
theorem Sq.mputQ {rest : List Oper} {op : Op} (n : Nat) (hL : L.drop n = Ents hp) (hop : op = .mapUpdate t x y z ∨ op = .insert t x y z) {p key elem : Nat} {k k' : κ} {hp2 : Pool κ} {α β : Type} [Rp α] [Rp β] [Pk α] [DecidableEq α] {kv kv' : List (α × β)} {i : α} {v : β} (hu : c.P.underlying t = some (.map key elem)) (kt : Kt c.P key α) (hx : Look c E L x (.of (⟨some p⟩ : MRef))) (hy : Look c E L y (.of i)) (hz : Look c E L z (.of v)) (hp' : pat hp p = some k) (hk : Cl.ents p k = [⟨some p, .map kv⟩]) (hkv : mput kv i v = kv') (hk' : Cl.ents p k' = [⟨some p, .map kv'⟩]) (hz : pup hp p k' = hp2) (kk : Sq c ops Q rest E (L.take n ++ Ents hp2)) : Sq c ops Q (⟨none, op, ty, pos, af, none⟩ :: rest) E L := by
  subst hz
  have e : L = L.take n ++ Ents hp := by rw [← hL, List.take_append_drop]
  clear hL
  generalize L.take n = loc at *
  subst e
  exact Sq.mputQ0 hop hu kt hx hy hz hp' hk hkv hk' kk


theorem Sq.mdelQ0 {rest : List Oper} {p key elem : Nat} {k k' : κ} {α β : Type} [Rp α] [Rp β] [DecidableEq α] {kv kv' : List (α × β)} {i : α} (hu : c.P.underlying t = some (.map key elem)) (kt : Kt c.P key α)
    (hx : Look c E (loc ++ Ents hp) x (.of (⟨some p⟩ : MRef))) (hy : Look c E (loc ++ Ents hp) y (.of i)) (hp' : pat hp p = some k) (hk : Cl.ents p k = [⟨some p, .map kv⟩]) (hkv : mdel kv i = kv') (hk' : Cl.ents p k' = [⟨some p, .map kv'⟩])
    (kk : Sq c ops Q rest E (loc ++ Ents (pup hp p k'))) : Sq c ops Q (⟨none, .call ⟨.builtin .delete, #[x, y], #[t, t2]⟩, ty, pos, af, none⟩ :: rest) E (loc ++ Ents hp) := fun a W s => by
  subst hkv
  obtain ⟨es, clock, ho, h2, h3, h4⟩ := s.mapAt (pmem (n := loc.length) (by simp) hp' hk)
  have hx' := of_mref.1 (hx a W s)
  have hy' := hy a W s
  obtain ⟨r, hr, hf⟩ := findKey_found kt hy' h2
  have hg : (getObj p).run c.P W = .ok (.map es clock) W := by simp [getObj, Sem.run, ho]
  have hc := fun b => kt.check b _ W _ i hy'
  have hset : ∀ o, (setObj p o).run c.P W = .ok () (W.putObj p o) := fun o => by simp only [setObj, Sem.run, ho]; rfl
  have key : ∃ es', (Builtin.delete_ #[t, t2] ty #[a.eval x, a.eval y]).run c.P W = .ok (.tuple #[]) (W.putObj p (.map es' clock)) ∧ Kvs (ks (loc ++ Ents hp) ++ c.A0) W es'.toList (mdel kv i) ∧ (∀ x ∈ es'.toList, x.born < clock) ∧ (es'.toList.map MapEntry.born).Nodup := by
    cases hfm : mfind kv i 0 with
    | none =>
      rw [hfm] at hf
      cases r with
      | some q => exact hf.elim
      | none =>
        obtain ⟨_, g1⟩ := mfind_none h2 hfm
        exact ⟨es, by simp [Builtin.delete_, Sem.run_bind, run_underlying hu, hx', hg, hc, hr, hset], by rw [g1]; exact h2, h3, h4⟩
    | some q =>
      rw [hfm] at hf
      cases r with
      | none => exact hf.elim
      | some q' =>
        obtain ⟨m, e, g1, g2, _, _, g5⟩ := mfind_at h2 hfm
        have hq1 : q'.1 = m := by have := hf.1; omega
        have hm : m < es.size := by simpa using (List.getElem?_eq_some_iff.1 g2).1
        have he : (es.eraseIdxIfInBounds m).toList = es.toList.eraseIdx m := by simp [Array.eraseIdxIfInBounds, hm]
        have hsub : (es.toList.eraseIdx m).Sublist es.toList := List.eraseIdx_sublist _ _
        exact ⟨es.eraseIdxIfInBounds m, by simp [Builtin.delete_, Sem.run_bind, run_underlying hu, hx', hg, hc, hr, hset, hq1], by rw [he]; exact g5, by rw [he]; exact fun w hw => h3 w (hsub.subset hw), by rw [he]; exact (hsub.map _).nodup h4⟩
  obtain ⟨es', hrun, e1, e2, e3⟩ := key
  obtain ⟨R, p1, p2⟩ := pool_open hp'
  have p2 := p2 k'
  rw [hk] at p1
  rw [hk'] at p2
  have hP : ∀ {z : List (α × β)} {M : List Ent}, M.Perm ([⟨some p, .map z⟩] ++ R) → (loc ++ M).Perm (⟨some p, .map z⟩ :: (loc ++ R)) := fun h => (h.append_left loc).trans (by simp only [List.singleton_append]; exact List.perm_middle)
  have s' := (s.perm (hP p1)).turn (i := 0) (cp' := .map (mdel kv i)) rfl (o' := .map es' clock) ⟨es', clock, rfl, e1.mono (perm_ext (hP p1)), e2, e3⟩
  refine wpList_op rfl (R := fun v W' => W' = W.putObj p (.map es' clock)) (.of_run (v := .tuple #[]) ?_ rfl) fun v W' hw => ?_
  · simp [execOp, resolve, invoke, builtin, hrun]
  · subst hw
    exact kk _ _ (s'.perm (hP p2).symm)
theorem Sq.mdelQ {rest : List Oper} {p key elem : Nat} {k k' : κ} {hp2 : Pool κ} {α β : Type} [Rp α] [Rp β] [DecidableEq α] {kv kv' : List (α × β)} {i : α} (n : Nat) (hL : L.drop n = Ents hp) (hu : c.P.underlying t = some (.map key elem)) (kt : Kt c.P key α) (hx : Look c E L x (.of (⟨some p⟩ : MRef))) (hy : Look c E L y (.of i)) (hp' : pat hp p = some k) (hk : Cl.ents p k = [⟨some p, .map kv⟩]) (hkv : mdel kv i = kv') (hk' : Cl.ents p k' = [⟨some p, .map kv'⟩]) (hz : pup hp p k' = hp2) (kk : Sq c ops Q rest E (L.take n ++ Ents hp2)) : Sq c ops Q (⟨none, .call ⟨.builtin .delete, #[x, y], #[t, t2]⟩, ty, pos, af, none⟩ :: rest) E L := by
  subst hz
  have e : L = L.take n ++ Ents hp := by rw [← hL, List.take_append_drop]
  clear hL
  generalize L.take n = loc at *
  subst e
  exact Sq.mdelQ0 hu kt hx hy hp' hk hkv hk' kk


theorem r_mlenM {p key elem : Nat} {α β : Type} [Rp α] [Rp β] {kv : List (α × β)} (hu : c.P.underlying t = some (.map key elem)) (hx : Look c E L x (.of (⟨some p⟩ : MRef))) (hm : (⟨some p, .map kv⟩ : Ent) ∈ L) :
    HR c E L ⟨d, .call ⟨.builtin .len, #[x], #[t]⟩, ty, pos, af, g⟩ (.of (kv.length : Int)) := .pure fun a W s => by
  obtain ⟨es, clock, ho, h2, h3, h4⟩ := s.mapAt hm
  have hx' := of_mref.1 (hx a W s)
  have hg : (getObj p).run c.P W = .ok (.map es clock) W := by simp [getObj, Sem.run, ho]
  have hl : es.size = kv.length := by simpa using h2.length
  refine ⟨.int .i64 kv.length, ?_, of_int.2 rfl⟩
  simp [execOp, resolve, invoke, builtin, Builtin.len_, hx', hg, hl, run_underlying hu, goInt]

end

theorem kt_int {P : Program} {t : TypeId} (h : P.underlying t = some (.int .i64)) : Kt P t Int where
  check b A W u x hx := ck_scalar (α := Int) h rfl b 10000 A W u x (by decide) hx
  same A W u v x y hx hy := by
    have := (eqv_int h).run 10000 (by decide) A W u v x y hx hy
    simpa [Op.equal, Op.maxDepth] using this
  now := ⟨_, h, fun A W u v x y hx hy => .inr (by
    rw [of_int.1 hx, of_int.1 hy]
    simp only [Instr.sameNow, if_pos]
    rfl)⟩
theorem kt_agg {P : Program} {t : TypeId} {α : Type} [Rp α] [DecidableEq α] {D : TypeDesc} {n m : Nat} (h : P.underlying t = some D) (hD : (match (motive := TypeDesc → Bool) D with | .array _ _ | .struct _ => true | _ => false) = true) (ck : Ck P t α n) (ev : Eqv P t α m) (hn : Nat.ble n 10000 = true) (hm : Nat.ble m 10000 = true) : Kt P t α where
  check b A W u x hx := ck b 10000 A W u x (Nat.le_of_ble_eq_true hn) hx
  same A W u v x y hx hy := by
    have := ev.run 10000 (Nat.le_of_ble_eq_true hm) A W u v x y hx hy
    simpa [Op.equal, Op.maxDepth] using this
  now := ⟨_, h, fun A W u v x y hx hy => .inl (by cases D <;> simp at hD <;> rfl)⟩
end Gv

namespace Gv
open Go
set_option linter.unusedVariables false
set_option linter.unusedSimpArgs false

/-- the method of this name that the dynamic type t has is the function f, which takes the value itself -/
structure Mt (P : Program) (t : TypeId) (name : String) (f : FuncId) : Prop where
  run : ∀ v W args, (callMethod (.iface t v) name args).run P W = .ok (.enter f (#[v] ++ args)) W

theorem Mt.of {P : Program} {t : TypeId} {name : String} {f : FuncId} {i : TypeInfo} {D : TypeDesc} {m : Method} (hi : P.info? t = some i) (hm : i.methods.find? (fun x => x.name == name) = some m) (hp : m.path = #[]) (hf : m.func = some (f, false)) (hD : P.underlying t = some D)
    (hn : (match (motive := TypeDesc → Bool) D with | .pointer _ => false | _ => true) = true) (en : En P f) : Mt P t name f where
  run v W args := by
    have hcf : ∀ args, (callFunc f args).run P W = .ok (.enter f args) W := fun args => en.run ..
    have hm2 : ∀ n, (method (n + 1) t v name).run P W = .ok (f, v) W := fun n => by
      simp only [method, Sem.run_bind, typeInfo, run_program, Result.andThen_ok, hi, Sem.run_pure, hm, hp, hf, follow, receiverAt, run_underlying hD]
      cases D <;> simp at hn <;> simp [Place.get]
    obtain ⟨n, hn⟩ : ∃ n, P.types.size + Made.depth = n + 1 := ⟨P.types.size + Made.depth - 1, by simp [Made.depth]⟩
    simp only [callMethod, Sem.run_bind, run_program, Result.andThen_ok, hn, hm2, hcf]

theorem Mt.of1 {P : Program} {t : TypeId} {name : String} {f : FuncId} {D : TypeDesc} (hm : ((P.info? t).bind fun i => (i.methods.find? (fun x => x.name == name)).map fun m => (m.path.size, m.func)) = some (0, some (f, false))) (hD : P.underlying t = some D)
    (hn : (match (motive := TypeDesc → Bool) D with | .pointer _ => false | _ => true) = true) (en : En P f) : Mt P t name f := by
  cases hi : P.info? t with
  | none => rw [hi] at hm; cases hm
  | some i =>
    rw [hi] at hm
    simp only [Option.bind_some] at hm
    cases h2 : i.methods.find? (fun x => x.name == name) with
    | none => rw [h2] at hm; cases hm
    | some m =>
      rw [h2] at hm
      simp only [Option.map_some, Option.some.injEq, Prod.mk.injEq] at hm
      exact Mt.of hi h2 (Array.eq_empty_of_size_eq_zero hm.1) hm.2 hD hn en

theorem MeetsO.map {P : Program} {f : FuncId} {τs : List VP} {Lin : List Ent} {δ δ' : Type} {ρ : δ → VP} {Lo : δ → List Ent} {ρ' : δ' → VP} {Lo' : δ' → List Ent} (F : δ → δ') (hr : ∀ d, ρ' (F d) = ρ d) (hl : ∀ d, Lo' (F d) = Lo d) (h : MeetsO P f τs Lin ρ Lo) : MeetsO P f τs Lin ρ' Lo' :=
  fun A W vs h1 h2 h3 h4 h5 => (h A W vs h1 h2 h3 h4 h5).mono fun e W' ⟨v, d, q1, q2, q3, q4, q5, q6⟩ => ⟨v, F d, q1, q2, by rw [hl]; exact q3, by rw [hl]; exact q4, by rw [hl]; exact q5, by rw [hl, hr]; exact q6⟩

/-- a value of an interface, called by a method's name: it does what MeetsO says of a function -/
structure MeetsV (P : Program) (name : String) (τ : VP) (τs : List VP) (Lin : List Ent) {δ : Type} (ρ : δ → VP) (Lo : δ → List Ent) : Prop where
  go : ∀ (A : List Nat) (W : World) (u : Value) (vs : List Value), (∀ k ∈ A, k < W.heap.size ∧ k ∉ ks Lin) → (ks Lin).Nodup → (∀ k ∈ ks Lin, k < W.heap.size) → (∀ e ∈ Lin, e.ok (ks Lin ++ A) W) → HoldsAll (ks Lin ++ A) W (τ :: τs) (u :: vs) →
    ∃ f v, (∀ args, (callMethod u name args).run P W = .ok (.enter f (#[v] ++ args)) W) ∧ Calls P f (v :: vs).toArray W (PostO (ks Lin) A W ρ Lo)

theorem MeetsV.of {P : Program} {name : String} {t : TypeId} {f : FuncId} {τ σ : VP} {τs : List VP} {Lin : List Ent} {δ : Type} {ρ : δ → VP} {Lo : δ → List Ent} (mt : Mt P t name f) (hτ : ∀ A W u, τ.holds A W u → ∃ v, u = .iface t v ∧ σ.holds A W v)
    (h : MeetsO P f (σ :: τs) Lin ρ Lo) : MeetsV P name τ τs Lin ρ Lo where
  go A W u vs h1 h2 h3 h4 h5 := by
    cases h5 with
    | cons h6 h7 =>
      obtain ⟨v, rfl, h8⟩ := hτ _ _ _ h6
      exact ⟨f, v, fun args => mt.run v W args, h A W (v :: vs) h1 h2 h3 h4 (.cons h8 h7)⟩

section
variable {c : Cx} {E : List (Nat × VP)} {L : List Ent} {ops : Array Oper} {Q : Exit → Act → World → Prop}
variable {d : Option Tmp} {ty : TypeId} {pos : String} {af : Array Edge} {g : Option (Nat × Bool)} {x y z : Operand} {t t2 : TypeId}

theorem opto_inv {a : Act} {W : World} {name : String} {xs : List Operand} {ats : Array TypeId} {τ : VP} {τs : List VP} {Lin Lr : List Ent} {δ : Type} {ρ : δ → VP} {Lo : δ → List Ent} (h : MeetsV c.P name τ τs Lin ρ Lo)
    (s : St c E (Lin ++ Lr) a W) (hx : HoldsAll (ks (Lin ++ Lr) ++ c.A0) W (τ :: τs) ((x :: xs).map a.eval)) :
    OpTo c.P ⟨d, .call ⟨.invoke x name, xs.toArray, ats⟩, ty, pos, af, g⟩ a W fun v W' => ∃ dd, St c E (Lo dd ++ Lr) a W' ∧ (ρ dd).holds (ks (Lo dd ++ Lr) ++ c.A0) W' v := by
  have hnd0 := s.nodup
  rw [ks_append] at hnd0
  obtain ⟨hn1, hn2, hn3⟩ := List.nodup_append.1 hnd0
  have hset : Ext (ks (Lin ++ Lr) ++ c.A0) W (ks Lin ++ (ks Lr ++ c.A0)) W := ks_swap
  have hA : ∀ k ∈ ks Lr ++ c.A0, k < W.heap.size ∧ k ∉ ks Lin := fun k hm => by
    rcases List.mem_append.1 hm with hm | hm
    · exact ⟨s.lt k (by rw [ks_append]; exact List.mem_append.2 (.inr hm)), fun h => hn3 k h k hm rfl⟩
    · obtain ⟨h1, h2⟩ := s.old k hm
      exact ⟨h1, fun h => h2 (by rw [ks_append]; exact List.mem_append.2 (.inl h))⟩
  have hlt : ∀ k ∈ ks Lin, k < W.heap.size := fun k hm => s.lt k (by rw [ks_append]; exact List.mem_append.2 (.inl hm))
  obtain ⟨f, v, hrun, hc⟩ := h.go (ks Lr ++ c.A0) W (a.eval x) (xs.map a.eval) hA hn1 hlt (fun e he => Ent.ok_mono (s.own e (List.mem_append.2 (.inl he))) hset fun _ _ => rfl) (by simpa using hx.mono hset)
  refine .of_enter (f := f) (args := (v :: xs.map a.eval).toArray) (W' := W) ?_ (hc.mono fun e W' ⟨v, dd, he, hf, h1, h2, h3, h4⟩ => ?_)
  · have := hrun (xs.map a.eval).toArray
    simp only [execOp, resolve, Sem.run_bind, Sem.run_pure, Result.andThen_ok, invoke]
    simp only [List.map_toArray] at this ⊢
    simp
    rw [List.take_of_length_le (by simp), this]
    simp
  · refine ⟨v, he, dd, s.after hf h1 h2 h3, (ρ dd).mono ks_swap' h4⟩

variable {κ : Type} [Cl κ] {hp : Pool κ}
theorem Sq.invP {rest : List Oper} {dd : Nat} {name : String} {xs : List Operand} {ats : Array TypeId} {τ : VP} {τs : List VP} {Lin Lr : List Ent} {δ : Type} {ρ : δ → VP} {Lo : δ → List Ent} {hq : δ → Pool κ} (n m : Nat) (hL : L.drop n = Ents hp) (h : MeetsV c.P name τ τs (Lin ++ Ents hp) ρ (fun d => Lo d ++ Ents (hq d)))
    (h1 : (L.take n).take m = Lin) (h2 : (L.take n).drop m = Lr) (hx : Looks c E L (x :: xs) (τ :: τs)) (hn : Nat.blt dd c.n = true) (k : ∀ q, Sq c ops Q rest ((dd, ρ q) :: E) ((Lo q ++ Lr) ++ Ents (hq q))) :
    Sq c ops Q (⟨some dd, .call ⟨.invoke x name, xs.toArray, ats⟩, ty, pos, af, none⟩ :: rest) E L := by
  have e : L = (Lin ++ Lr) ++ Ents hp := by rw [← h1, ← h2, List.take_append_drop, ← hL, List.take_append_drop]
  clear hL h1 h2
  subst e
  exact fun a W s => wpList_op rfl (opto_inv (Lr := Lr) h (s.perm lin_perm) ((hx.holds a W s).mono (perm_ext lin_perm))) fun v W' ⟨q, s', hv⟩ =>
    k q _ _ ((s'.perm lin_perm).put (by simpa using hn) ((ρ q).mono (perm_ext lin_perm) hv))
theorem HS.invP {name : String} {xs : List Operand} {ats : Array TypeId} {τ : VP} {τs : List VP} {ρ : VP} (n : Nat) (hL : L.drop n = Ents hp) (h : MeetsV c.P name τ τs (Ents hp) (fun _ : Unit => ρ) (fun _ => Ents hp))
    (hx : Looks c E L (x :: xs) (τ :: τs)) : HS c E L ⟨d, .call ⟨.invoke x name, xs.toArray, ats⟩, ty, pos, af, g⟩ ρ := fun a W s => by
  have e : L = L.take n ++ Ents hp := by rw [← hL, List.take_append_drop]
  have hP : L.Perm (Ents hp ++ L.take n) := by
    conv => lhs; rw [e]
    exact List.perm_append_comm
  have ho := opto_inv (d := d) (ty := ty) (pos := pos) (af := af) (g := g) (ats := ats) (Lr := L.take n) h (s.perm hP) ((hx.holds a W s).mono (perm_ext hP))
  unfold OpTo at ho ⊢
  exact Oper.wp_mono (fun a' W' ⟨v, h1, _, h2, h3⟩ => ⟨v, h1, h2.perm hP.symm, ρ.mono (perm_ext hP.symm) h3⟩) ho

/-- a value is put into an interface -/
theorem r_mkIf {D : TypeDesc} {σ τ : VP} (hu : c.P.underlying t = some D) (hD : (match (motive := TypeDesc → Bool) D with | .interface _ => false | _ => true) = true) (hx : Look c E L x σ) (hτ : ∀ A W v, σ.holds A W v → τ.holds A W (.iface t v)) :
    HR c E L ⟨d, .makeInterface t x, ty, pos, af, g⟩ τ := .pure fun a W s =>
  ⟨.iface t (a.eval x), by
    simp only [execOp, Instr.makeInterface, Sem.run_bind, run_underlying hu, Result.andThen_ok]
    cases D <;> simp at hD <;> rfl, hτ _ _ _ (hx a W s)⟩
end
end Gv

namespace Gv
open Go
set_option linter.unusedVariables false
set_option linter.unusedSimpArgs false

/-- the value u is a yield: called with x it turns s to some s' and says 'go on', or leaves with some q and says 'no more' -/
def YldW (P : Program) (u : Value) {α σ ε γ : Type} (τ : α → VP) (Ls : σ → γ → List Ent) (Lx : ε → γ → List Ent) (step : α → σ → Wm (σ ⊕ ε)) (Rg : List Nat → World → Prop) : Prop :=
  ∃ l, u = .func (.yield l) #[] #[] ∧ ∀ x s R, step x s R → ∀ g A W v, Rg (ks (Ls s g) ++ A) W → Lent A W (Ls s g) → (τ x).holds (ks (Ls s g) ++ A) W v →
    YieldAt Fence.wide 8 P l #[v] W (fun e W' => (∃ s', R (.inl s') ∧ PostO (ks (Ls s g)) A W (fun _ : γ => VP.of true) (fun g => Ls s' g) e W') ∨ ∃ q, R (.inr q) ∧ PostO (ks (Ls s g)) A W (fun _ : γ => VP.of false) (fun g => Lx q g) e W')

/-- the function f is an iterator: called with a yield it does what 'run' says; it may look at the caller's pool -/
structure MeetsJ (P : Program) (f : FuncId) (τs : List VP) {κ : Type} [Cl κ] {α : Type} (τ : α → VP) (run : ∀ {σ ε : Type}, (σ → Pool κ) → (α → σ → Wm (σ ⊕ ε)) → σ → Wm (σ ⊕ ε)) : Prop where
  go : ∀ {σ ε γ : Type} (Ls : σ → γ → List Ent) (Lx : ε → γ → List Ent) (hq : σ → Pool κ) (Lc : σ → γ → List Ent), (∀ s g, Ls s g = Lc s g ++ Ents (hq s)) → ∀ (step : α → σ → Wm (σ ⊕ ε)) (s0 : σ) (g0 : γ) (R : σ ⊕ ε → Prop), run hq step s0 R →
    ∀ (A : List Nat) (W : World) (u : Value) (vs : List Value), Lent A W (Ls s0 g0) → HoldsAll (ks (Ls s0 g0) ++ A) W τs vs →
      YldW P u τ Ls Lx step (fun A' W' => Ext (ks (Ls s0 g0) ++ A) W A' W') →
      Calls P f (u :: vs).toArray W (PostO (ks (Ls s0 g0)) A W (δ := {r // R r} × γ) (fun _ => .tup []) (fun d => Lr Ls Lx d.1.1 d.2))

theorem MeetsJ.of {P : Program} {f : FuncId} {fn : Func} {code : Code} {n : Nat} {τs : List VP} {κ : Type} [Cl κ] {α : Type} {τ : α → VP} {run : ∀ {σ ε : Type}, (σ → Pool κ) → (α → σ → Wm (σ ⊕ ε)) → σ → Wm (σ ⊕ ε)}
    (hf : P.funcs[f]? = some fn) (hb : fn.body = some code) (hn : fn.ntmps = n) (hlen : Nat.ble (τs.length + 1) n = true)
    (h : ∀ {σ ε γ : Type} (Ls : σ → γ → List Ent) (Lx : ε → γ → List Ent) (hq : σ → Pool κ) (Lc : σ → γ → List Ent), (∀ s g, Ls s g = Lc s g ++ Ents (hq s)) → ∀ (step : α → σ → Wm (σ ⊕ ε)) (s0 : σ) (g0 : γ) (R : σ ⊕ ε → Prop), run hq step s0 R →
      ∀ W A u, YldW P u τ Ls Lx step (fun A' W' => Ext (ks (Ls s0 g0) ++ A) W A' W') →
        Wp ⟨P, n, W, ks (Ls s0 g0), A, none, []⟩ (bodyPost P fn (PostO (ks (Ls s0 g0)) A W (δ := {r // R r} × γ) (fun _ => .tup []) (fun d => Lr Ls Lx d.1.1 d.2))) code (params 0 (.eq u :: τs)) (Ls s0 g0)) : MeetsJ P f τs τ run := by
  refine ⟨?_⟩
  intro σ ε γ Ls Lx hq Lc hLc step s0 g0 R hr A W u vs hl hv hy
  refine calls_of_wp hf hb (wpIn_wide.1 (h Ls Lx hq Lc hLc step s0 g0 R hr W A u hy _ _ ?_))
  have hv' : HoldsAll (ks (Ls s0 g0) ++ A) W (.eq u :: τs) (u :: vs) := .cons rfl hv
  have hl' := hv'.length
  have hle : τs.length + 1 ≤ n := Nat.le_of_ble_eq_true hlen
  exact
  { defers := rfl
    size := by simp at hl'; simp [hn, hl']; omega
    env := fun t τ hlk => by
      obtain ⟨_, v, h2, h3⟩ := look_params hv' 0 t τ hlk
      refine ⟨v, ?_, h3⟩
      have hlt : t < (u :: vs).length := (List.getElem?_eq_some_iff.1 h2).1
      rw [Array.getElem?_append_left (by simpa using hlt)]
      simpa using h2
    fr := .refl _ _
    own := hl.ok
    nodup := hl.nodup
    lt := hl.lt
    mine := fun k hk _ => hk
    old := hl.old }

section
variable {c : Cx} {E : List (Nat × VP)} {L : List Ent} {ops : Array Oper} {Q : Exit → Act → World → Prop}
variable {d : Option Tmp} {ty : TypeId} {pos : String} {af : Array Edge} {g : Option (Nat × Bool)} {x y : Operand} {t t2 : TypeId}

theorem pmemI {κ : Type} [Cl κ] {σ γ : Type} {Ls Lc : σ → γ → List Ent} {hq : σ → Pool κ} {s : σ} {g : γ} {p : Nat} {k : κ} {e : Ent} (n : Nat) (hL : L.drop n = Ls s g) (hLc : ∀ s g, Ls s g = Lc s g ++ Ents (hq s)) (h : pat (hq s) p = some k) (hk : Cl.ents p k = [e]) : e ∈ L := by
  obtain ⟨R, h1, _⟩ := pool_open h
  rw [hk] at h1
  have : e ∈ L.drop n := by rw [hL, hLc]; exact List.mem_append.2 (.inr (h1.mem_iff.2 (by simp)))
  exact List.mem_of_mem_drop this

/-- a round is asked for: yield is called -/
theorem Sq.yieldW {rest : List Oper} {dd tf : Nat} {ats : Array TypeId} {u : Value} {α σ ε γ : Type} {τ : α → VP} {Ls : σ → γ → List Ent} {Lx : ε → γ → List Ent} {step : α → σ → Wm (σ ⊕ ε)} {Lin : List Ent} {x : Operand} {v : α} {s : σ} {gg : γ} {R : σ ⊕ ε → Prop}
    (hc : c.rd = none) (hy : YldW c.P u τ Ls Lx step (fun A' W' => Ext (c.X ++ c.A0) c.W0 A' W')) (hf : look E tf = some (.eq u)) (hx : Look c E (Lin ++ Ls s gg) x (τ v)) (hr : step v s R) (hn : Nat.blt dd c.n = true)
    (k1 : ∀ s', R (.inl s') → ∀ g', Sq c ops Q rest ((dd, .of true) :: E) (Lin ++ Ls s' g')) (k2 : ∀ q, R (.inr q) → ∀ g', Sq c ops Q rest ((dd, .of false) :: E) (Lin ++ Lx q g')) :
    Sq c ops Q (⟨some dd, .call ⟨.value (.tmp tf), #[x], ats⟩, ty, pos, af, none⟩ :: rest) E (Lin ++ Ls s gg) := fun a W st => by
  obtain ⟨l, rfl, hy⟩ := hy
  obtain ⟨uf, h1, h2⟩ := st.env tf _ hf
  have hu : uf = .func (.yield l) #[] #[] := h2
  subst hu
  have st' : St c E (Ls s gg ++ Lin) a W := st.perm List.perm_append_comm
  have hv := hx a W st
  have hv' : (τ v).holds (ks (Ls s gg) ++ (ks Lin ++ c.A0)) W (a.eval x) := (τ v).mono (.drop fun k hm => by
    rw [ks_append]
    simp only [List.mem_append] at hm ⊢
    rcases hm with hm | hm | hm
    · exact .inl (.inr hm)
    · exact .inl (.inl hm)
    · exact .inr hm) hv
  obtain ⟨fn, tmps, assign, body, hrun, hR⟩ := hy v s R hr gg (ks Lin ++ c.A0) W (a.eval x) (st'.sofar.trans ks_swap) st'.lent hv'
  have hrun' : (execOp a.eval ⟨some dd, .call ⟨.value (.tmp tf), #[x], ats⟩, ty, pos, af, none⟩).run c.P W = .ok (.round l fn tmps assign body) W := by
    rw [← hrun]
    simp [execOp, resolve, Deferred.ofValue, Act.eval, h1, invoke, Sem.run_bind, Sem.run_pure, Result.andThen]
  refine wpListIn_plain rfl fun K hK => ?_
  refine ⟨fun _ _ => trivial, ?_⟩
  rw [Oper.semAt_eq _ _ _ (fun _ h => by cases h), hrun', Oper.uponIn_round]
  refine ⟨fun h => by simp at h, ?_⟩
  have hR' : RoundIn c.F (9 - 1) c.P l fn tmps assign body W _ := hR
  refine hR'.mono fun e W' he => ?_
  rcases he with ⟨s', hs, w, g', rfl, hf', h3, h4, h5, h6⟩ | ⟨q, hs, w, g', rfl, hf', h3, h4, h5, h6⟩
  · obtain rfl := of_bool.1 h6
    refine hK _ _ (k1 s' hs g' _ _ ?_)
    exact (((st'.after hf' h3 h4 h5).perm List.perm_append_comm).put (by simpa using hn) (of_bool.2 rfl))
  · obtain rfl := of_bool.1 h6
    refine hK _ _ (k2 q hs g' _ _ ?_)
    exact (((st'.after hf' h3 h4 h5).perm List.perm_append_comm).put (by simpa using hn) (of_bool.2 rfl))

/-- how a round ends -/
def RQW {σ ε γ : Type} (c : Cx) (js : ε → Code) (l D : Nat) (rec : Loop) (Ls : σ → γ → List Ent) (Lx : ε → γ → List Ent) (R : σ ⊕ ε → Prop) : Exit → Act → World → Prop := fun x a W =>
  (∃ s', R (.inl s') ∧ x = .normal ∧ ∃ g, St c [] (⟨some l, .is (.loop rec)⟩ :: ⟨some D, .dfr⟩ :: Ls s' g) a W) ∨
  ∃ q, R (.inr q) ∧ isJump (js q) = true ∧ x = exitOf (js q) ∧ ∃ g, St c [] (⟨some l, .is (.loop rec)⟩ :: ⟨some D, .dfr⟩ :: Lx q g) a W

theorem To.rndW {σ ε γ : Type} {js : ε → Code} {l D : Nat} {rec : Loop} {Ls : σ → γ → List Ent} {Lx : ε → γ → List Ent} {R : σ ⊕ ε → Prop} {s' : σ} (hR : R (.inl s')) (g : γ) (n : Nat) (hL : L.drop n = ⟨some l, .is (.loop rec)⟩ :: ⟨some D, .dfr⟩ :: Ls s' g) :
    To c (RQW c js l D rec Ls Lx R) .normal E L := fun a W s => .inl ⟨s', hR, rfl, g, by rw [← hL]; exact (s.dropL n).less (fun t τ h => by simp [look] at h)⟩
theorem range_wpJ {gt p : Nat} {assign body : Code} {f : FuncId} {lbτ : List VP} {κ : Type} [Cl κ] {α σ ε γ ρ : Type} {τ : α → VP} {run : ∀ {σ ε : Type}, (σ → Pool κ) → (α → σ → Wm (σ ⊕ ε)) → σ → Wm (σ ⊕ ε)}
    {Ls : σ → γ → List Ent} {Lx : ε → γ → List Ent} {hq : σ → Pool κ} {step : α → σ → Wm (σ ⊕ ε)} {s0 : σ} {g0 : γ} {k : σ ⊕ ε → Wm ρ} {R0 : ρ → Prop} (Lc : σ → γ → List Ent) (js : ε → Code)
    (hc : c.rd = none) (en : En c.P f) (hg : look E gt = some (.clo f lbτ)) (hI : MeetsJ c.P f lbτ τ run) (hr : Wm.bind (run hq step s0) k R0) (hLc : ∀ s g, Ls s g = Lc s g ++ Ents (hq s)) (hL : L = Ls s0 g0) (hp : Nat.blt p c.n = true)
    (hround : ∀ x s R, step x s R → ∀ g (W0' : World) (X' A0' : List Nat) (l D : Nat) (rec : Loop), rec.state = .ready →
      Wp ⟨c.P, c.n, W0', X', A0', some l, []⟩ (Exit.then (BR ⟨c.P, c.n, W0', X', A0', some l, []⟩ l body (RQW ⟨c.P, c.n, W0', X', A0', some l, []⟩ js l D { rec with state := .busy } Ls Lx R)) (fun _ _ _ => False)) assign ((p, τ x) :: E) (⟨some l, .is (.loop rec)⟩ :: ⟨some D, .dfr⟩ :: Ls s g))
    (hdone : ∀ s', k (.inl s') R0 → ∀ g D, To { c with ds := D :: c.ds } Q .normal E (⟨some D, .dfr⟩ :: Ls s' g))
    (hstop : ∀ q, k (.inr q) R0 → ∀ g D, Wp { c with ds := D :: c.ds } Q (js q) E (⟨some D, .dfr⟩ :: Lx q g)) :
    Wp c Q (.rangeFunc (.tmp gt) #[p] assign body) E L := fun a W st => by
  subst hL
  refine wpIn_rangeFunc fun fn hfn => ?_
  show ∃ l mark w₁ d w₁' f' args w₂, (Instr.enterLoop fn a.tmps #[p] assign body c.rd).run c.P W = _ ∧ _
  rw [hc]
  obtain ⟨rec, hrec⟩ : ∃ rec : Loop, rec = { state := .ready, pending := none, fn, tmps := a.tmps, params := #[p], assign, body, defers := W.heap.size } := ⟨_, rfl⟩
  obtain ⟨v, hv1, lb, hv2, hlb⟩ := st.env gt _ hg
  -- the two blocks of book-keeping
  obtain ⟨W1, hW1⟩ : ∃ W1, (W.alloc (.deferred (some []))).alloc (.loop rec) = W1 := ⟨_, rfl⟩
  have s1 := (st.alloc (o := .deferred (some [])) (cp := .dfr) rfl).alloc (o := .loop rec) (cp := .is (.loop rec)) rfl
  rw [hW1, World.size_alloc] at s1
  obtain ⟨D, hD⟩ : ∃ D, D = W.heap.size := ⟨_, rfl⟩
  obtain ⟨l, hl⟩ : ∃ l, l = W.heap.size + 1 := ⟨_, rfl⟩
  have hen := run_enterLoop_outer (P := c.P) (w := W) fn a.tmps #[p] assign body
  rw [← hrec, hW1, ← hl, ← hD] at hen
  rw [← hl, ← hD] at s1
  -- the state that the iterator is handed
  obtain ⟨Ls', hLs⟩ : ∃ Ls' : σ → γ → List Ent, Ls' = fun s g => ⟨some l, .is (.loop rec)⟩ :: ⟨some D, .dfr⟩ :: Ls s g := ⟨_, rfl⟩
  obtain ⟨Lx', hLx⟩ : ∃ Lx' : ε → γ → List Ent, Lx' = fun q g => ⟨some l, .is (.loop { rec with state := .done, pending := some (js q) })⟩ :: ⟨some D, .dfr⟩ :: Lx q g := ⟨_, rfl⟩
  have s2 : St c E (Ls' s0 g0) a W1 := by rw [hLs]; exact s1
  have hvs : HoldsAll (ks (Ls' s0 g0) ++ c.A0) W1 lbτ lb := by
    have h1 : (VP.clo f lbτ).holds (ks (Ls' s0 g0) ++ c.A0) W1 v := by
      obtain ⟨v', h1, h2⟩ := s2.env gt _ hg
      rw [hv1] at h1
      cases h1
      exact h2
    obtain ⟨lb', e1, e2⟩ := h1
    rw [hv2] at e1
    have : lb' = lb := by injection e1 with _ _ e1; injection e1 with e1; exact e1.symm
    rw [← this]; exact e2
  have s2' : St c E ((Ls' s0 g0) ++ []) a W1 := by rw [List.append_nil]; exact s2
  have hlent := s2'.lent
  simp only [ks, List.nil_append] at hlent
  have hyld : YldW c.P (.func (.yield l) #[] #[]) τ Ls' Lx' step (fun A' W' => Ext (ks (Ls' s0 g0) ++ c.A0) W1 A' W') := by
    refine ⟨l, rfl, fun x s R' hs g A W2 v2 hext hle hv => ?_⟩
    have hle' := hle
    rw [hLs] at hle'
    obtain ⟨o, ho1, ho2⟩ := hle'.ok ⟨some l, .is (.loop rec)⟩ (by simp)
    have ho2' : o = .loop rec := ho2
    subst ho2'
    have hy := run_yield (P := c.P) (args := #[v2]) ho1 (by rw [hrec]; rfl)
    refine ⟨_, _, _, _, hy, roundIn_of_wpIn trivial ?_⟩
    have e1 : rec.assign = assign := by rw [hrec]
    have e2 : rec.body = body := by rw [hrec]
    have e3 : rec.params = #[p] := by rw [hrec]
    have e4 : rec.tmps = a.tmps := by rw [hrec]
    rw [e1, e2, e3, e4]
    refine wpIn_room (n := 9) rfl ?_
    have hfold : ((#[p] : Array Tmp).zip #[v2]).foldl (fun tmps (t, a) => tmps.setIfInBounds t a) a.tmps = a.tmps.setIfInBounds p v2 := by simp
    rw [hfold]
    subst hLs hLx
    refine wpIn_mono ((hround x s R' hs g W2 (ks (⟨some l, .is (.loop rec)⟩ :: ⟨some D, .dfr⟩ :: Ls s g)) A l D rec (by rw [hrec])) { tmps := a.tmps.setIfInBounds p v2, defers := [] } W2 ?_) ?_
    · have hpn : p < c.n := by simpa using hp
      exact
      { defers := rfl
        size := by simp [s2.size]
        env := fun t τ' hlk => by
          simp only [look] at hlk
          by_cases e : Nat.beq p t = true
          · rw [e] at hlk
            simp only [cond_true, Option.some.injEq] at hlk
            subst hlk
            have := look_beq.1 e
            subst this
            exact ⟨v2, by simp [s2.size, hpn], hv⟩
          · simp only [Bool.not_eq_true] at e
            rw [e] at hlk
            simp only [cond_false] at hlk
            obtain ⟨u, h1, h2⟩ := s2.env t τ' hlk
            have hne : p ≠ t := fun h => by rw [look_beq.2 h] at e; cases e
            exact ⟨u, by rw [Array.getElem?_setIfInBounds_ne hne]; exact h1, τ'.mono hext h2⟩
        fr := .refl _ _
        own := hle.ok
        nodup := hle.nodup
        lt := hle.lt
        mine := fun k hk _ => hk
        old := hle.old }
    · intro e a3 W3 hq
      cases e with
      | normal =>
        obtain ⟨W4, hbr, hb⟩ := hq
        refine ⟨W4, hbr, wpIn_room (n := 9) rfl (wpIn_mono hb ?_)⟩
        intro e a5 W5 hq5
        -- the end of the round
        have fin : ∀ (jump : Option Code) {Lr : List Ent}, St ⟨c.P, c.n, W2, ks (⟨some l, .is (.loop rec)⟩ :: ⟨some D, .dfr⟩ :: Ls s g), A, some l, []⟩ [] (⟨some l, .is (.loop { rec with state := .busy })⟩ :: ⟨some D, .dfr⟩ :: Lr) a5 W5 →
            ∃ W6, (Instr.endRound l jump).run c.P W5 = .ok (.bool jump.isNone) W6 ∧ St ⟨c.P, c.n, W2, ks (⟨some l, .is (.loop rec)⟩ :: ⟨some D, .dfr⟩ :: Ls s g), A, some l, []⟩ [] (⟨some l, .is (.loop { rec with state := if jump.isNone then .ready else .done, pending := jump })⟩ :: ⟨some D, .dfr⟩ :: Lr) a5 W6 := fun jump Lr s5 => by
          obtain ⟨o, h1, h2⟩ := s5.own ⟨some l, .is (.loop { rec with state := .busy })⟩ (by simp)
          have h2' : o = .loop { rec with state := .busy } := h2
          subst h2'
          exact ⟨_, run_endRound jump h1, s5.turn (i := 0) rfl rfl⟩
        rcases hq5 with ⟨s', hs', rfl, g', s5⟩ | ⟨q, hs', hj, rfl, g', s5⟩
        · obtain ⟨W6, h6, s6⟩ := fin none s5
          refine ⟨_, W6, h6, .inl ⟨s', hs', ?_⟩⟩
          have hrr : ({ rec with state := if (none : Option Code).isNone then .ready else .done, pending := none } : Loop) = rec := by rw [hrec]; rfl
          rw [hrr] at s6
          exact s6.ends (ρ := fun _ : γ => VP.of true) (Lo := fun g => ⟨some l, .is (.loop rec)⟩ :: ⟨some D, .dfr⟩ :: Ls s' g) g' (List.Sublist.refl _) (of_bool.2 rfl)
        · obtain ⟨W6, h6, s6⟩ := fin (some (js q)) s5
          have key : PostO (ks (⟨some l, .is (.loop rec)⟩ :: ⟨some D, .dfr⟩ :: Ls s g)) A W2 (fun _ : γ => VP.of false) (fun g => ⟨some l, .is (.loop { rec with state := .done, pending := some (js q) })⟩ :: ⟨some D, .dfr⟩ :: Lx q g) (.returned (.bool false)) W6 :=
            s6.ends (ρ := fun _ : γ => VP.of false) (Lo := fun g => ⟨some l, .is (.loop { rec with state := .done, pending := some (js q) })⟩ :: ⟨some D, .dfr⟩ :: Lx q g) g' (List.Sublist.refl _) (of_bool.2 rfl)
          exact roundPost_jump hj h6 (.inr ⟨q, hs', key⟩)
      | exit id => exact hq.elim
      | goto t => exact hq.elim
      | ret => exact hq.elim
      | panic ch => exact hq.elim
      | outgrown => exact hq.elim
  have hcall := hI.go Ls' Lx' hq (fun s g => ⟨some l, .is (.loop rec)⟩ :: ⟨some D, .dfr⟩ :: Lc s g) (fun s g => by rw [hLs]; simp only [hLc, List.cons_append]) step s0 g0 (fun r => k r R0) hr c.A0 W1 (.func (.yield l) #[] #[]) lb hlent hvs hyld
  have hcl : a.eval (.tmp gt) = .func (.func f) #[] lb.toArray := by simp [Act.eval, hv1, hv2]
  refine ⟨l, [coll D], W1, { target := .fn (.func f) lb.toArray, args := #[.func (.yield l) #[] #[]] }, W1, f, #[.func (.yield l) #[] #[]] ++ lb.toArray, W1, hen, ?_, fun _ _ => trivial, ?_, fun h => by simp at h, ?_⟩
  · simp only [resolve, hcl]
    simp [go_sem]
  · simp [invoke, go_sem, en.run]
  · refine CallsIn.ofCalls ?_
    have hargs : (#[.func (.yield l) #[] #[]] ++ lb.toArray : Array Value) = (.func (.yield l) #[] #[] :: lb).toArray := by simp
    rw [hargs]
    refine hcall.mono fun e W7 ⟨v7, ⟨⟨r, hkr⟩, g'⟩, he, hf, h3, h4, h5, h6⟩ => ?_
    subst he
    have s7 := s2'.after hf h3 (by simpa [ks] using h4) (by simpa [ks] using h5)
    rw [List.append_nil] at s7
    cases r with
    | inl s' =>
      simp only [Lr] at s7
      subst hLs
      obtain ⟨o, ho1, ho2⟩ := s7.own ⟨some l, .is (.loop rec)⟩ (by simp)
      have ho2' : o = .loop rec := ho2
      subst ho2'
      have hend := run_endLoop (P := c.P) ho1 (by rw [hrec]; simp)
      have hpn : rec.pending = none := by rw [hrec]
      rw [hpn] at hend
      refine ⟨none, _, hend, ?_⟩
      have s9 := (s7.turn (i := 0) (cp' := .is (.loop { rec with state := .exhausted })) (o' := .loop { rec with state := .exhausted }) rfl rfl).dropL 1
      rw [hpn] at s9
      exact hdone s' hkr g' D _ _ (s9.mark D)
    | inr q =>
      simp only [Lr] at s7
      subst hLx
      obtain ⟨o, ho1, ho2⟩ := s7.own ⟨some l, .is (.loop { rec with state := .done, pending := some (js q) })⟩ (by simp)
      have ho2' : o = .loop { rec with state := .done, pending := some (js q) } := ho2
      subst ho2'
      have hend := run_endLoop (P := c.P) ho1 (by simp)
      refine ⟨some (js q), _, hend, ?_⟩
      have s9 := (s7.turn (i := 0) (cp' := .is (.loop { rec with state := .exhausted, pending := some (js q) })) (o' := .loop { rec with state := .exhausted, pending := some (js q) }) rfl rfl).dropL 1
      exact hstop q hkr g' D _ _ (s9.mark D)
end
end Gv

namespace Gv
open Go
set_option linter.unusedVariables false
set_option linter.unusedSimpArgs false

/-- any: what is hidden -/
def Wm.any (α : Type) : Wm α := fun Q => ∀ x, Q x
theorem Wm.any_bind {α β : Type} {k : α → Wm β} {R : β → Prop} (h : Wm.bind (Wm.any α) k R) (x : α) : k x R := h x

theorem HoldsAll.append {A : List Nat} {W : World} : ∀ {τs σs : List VP} {vs us : List Value}, HoldsAll A W τs vs → HoldsAll A W σs us → HoldsAll A W (τs ++ σs) (vs ++ us)
  | _, _, _, _, .nil, h => h
  | _, _, _, _, .cons h r, h2 => .cons h (r.append h2)

section
variable {c : Cx} {E : List (Nat × VP)} {L : List Ent} {ops : Array Oper} {Q : Exit → Act → World → Prop}
variable {d : Option Tmp} {ty : TypeId} {pos : String} {af : Array Edge} {g : Option (Nat × Bool)} {x y : Operand} {t t2 : TypeId}

/-- the operation leaves these blocks, and yields that -/
def OpS (c : Cx) (E : List (Nat × VP)) (L : List Ent) (o : Oper) {δ : Type} (ρ : δ → VP) (L' : δ → List Ent) : Prop :=
  ∀ a W, St c E L a W → OpTo c.P o a W fun v W' => ∃ q, St c E (L' q) a W' ∧ (ρ q).holds (ks (L' q) ++ c.A0) W' v

theorem Sq.vP {o : Oper} {rest : List Oper} {dd : Nat} {δ : Type} {ρ : δ → VP} {L' : δ → List Ent} (h : OpS c E L o ρ L') (hg : o.guard = none) (hd : o.dst = some dd) (hn : Nat.blt dd c.n = true)
    (k : ∀ q, Sq c ops Q rest ((dd, ρ q) :: E) (L' q)) : Sq c ops Q (o :: rest) E L := fun a W s =>
  wpList_op hg (h a W s) fun v W' ⟨q, f, hv⟩ => by
    rw [hd]
    exact k q _ _ (f.put (by simpa using hn) hv)
/-- under a guard: where it isn't wanted, all stays as it is -/
theorem Sq.gP {o : Oper} {rest : List Oper} {dd j gs : Nat} {b want : Bool} {δ β : Type} {σ : β → VP} {L2 : β → List Ent} {K : β → Prop} {val : δ → β} {ρ : δ → VP} {L' : δ → List Ent} (hg : o.guard = some (j, want)) (hj : (ops[j]?).bind (·.dst) = some gs)
    (hl : look E gs = some (.of b)) (hd : o.dst = some dd) (hn : Nat.blt dd c.n = true) (h : b = want → OpS c E L o ρ L')
    (h1 : b = want → ∀ q, K (val q) ∧ ρ q = σ (val q) ∧ L' q = L2 (val q)) (h2 : ¬ b = want → ∃ y, K y ∧ L = L2 y)
    (k : ∀ y, K y → Sq c ops Q rest ((dd, .cond (b = want) (σ y)) :: E) (L2 y)) : Sq c ops Q (o :: rest) E L := fun a W s => by
  have hy := yielded_of hj hl s
  unfold Cx.wpl wpListIn
  by_cases hb : b = want
  · rw [if_pos (by simp [Region.wanted, hg, hy, hb])]
    refine ((h hb a W s).wpIn fun v W' ⟨q, f, hv⟩ => ?_)
    obtain ⟨e1, e2, e3⟩ := h1 hb q
    rw [e2] at hv
    rw [e3] at f hv
    rw [hd]
    exact k _ e1 _ _ (f.put (by simpa using hn) ⟨fun _ => hv, fun h => absurd hb h⟩)
  · rw [if_neg (by simp [Region.wanted, hg, hy, hb])]
    rw [hd]
    obtain ⟨y, e1, e2⟩ := h2 hb
    rw [e2] at s
    exact ⟨fun _ _ => trivial, k y e1 _ _ (s.put (by simpa using hn) ⟨fun h => absurd h hb, fun _ => rfl⟩)⟩
theorem OpS.perm {L1 : List Ent} {o : Oper} {δ : Type} {ρ : δ → VP} {L' L2 : δ → List Ent} (p : L.Perm L1) (p' : ∀ q, (L' q).Perm (L2 q)) (h : OpS c E L1 o ρ L') : OpS c E L o ρ L2 := fun a W s => by
  have := h a W (s.perm p)
  unfold OpTo at this ⊢
  exact Oper.wp_mono (fun a' W' ⟨v, h1, q, h2, h3⟩ => ⟨v, h1, q, h2.perm (p' q), (ρ q).mono (perm_ext (p' q)) h3⟩) this
theorem OpS.to {o : Oper} {δ : Type} {ρ : δ → VP} {L' L2 : δ → List Ent} (e : ∀ q, L' q = L2 q) (h : OpS c E L o ρ L') : OpS c E L o ρ L2 := by
  have : L' = L2 := funext e
  subst this; exact h
theorem OpS.toHS {o : Oper} {δ : Type} {τ : VP} (h : OpS c E L o (fun _ : δ => τ) (fun _ => L)) : HS c E L o τ := fun a W s => by
  have := h a W s
  unfold OpTo at this ⊢
  exact Oper.wp_mono (fun a' W' ⟨v, h1, q, h2, h3⟩ => ⟨v, h1, h2, h3⟩) this

theorem OpS.call {o : Oper} {f : FuncId} {as : Act → List Value} {τs : List VP} {Lin Lr : List Ent} {δ : Type} {ρ : δ → VP} {Lo : δ → List Ent} (h : MeetsO c.P f τs Lin ρ Lo)
    (hc : ∀ a W, St c E (Lin ++ Lr) a W → (execOp a.eval o).run c.P W = .ok (.enter f (as a).toArray) W ∧ HoldsAll (ks (Lin ++ Lr) ++ c.A0) W τs (as a)) : OpS c E (Lin ++ Lr) o ρ (fun q => Lo q ++ Lr) := fun a W s => by
  obtain ⟨hrun, hx⟩ := hc a W s
  have hnd0 := s.nodup
  rw [ks_append] at hnd0
  obtain ⟨hn1, hn2, hn3⟩ := List.nodup_append.1 hnd0
  have hset : Ext (ks (Lin ++ Lr) ++ c.A0) W (ks Lin ++ (ks Lr ++ c.A0)) W := ks_swap
  have hA : ∀ k ∈ ks Lr ++ c.A0, k < W.heap.size ∧ k ∉ ks Lin := fun k hm => by
    rcases List.mem_append.1 hm with hm | hm
    · exact ⟨s.lt k (by rw [ks_append]; exact List.mem_append.2 (.inr hm)), fun h => hn3 k h k hm rfl⟩
    · obtain ⟨h1, h2⟩ := s.old k hm
      exact ⟨h1, fun h => h2 (by rw [ks_append]; exact List.mem_append.2 (.inl h))⟩
  have hlt : ∀ k ∈ ks Lin, k < W.heap.size := fun k hm => s.lt k (by rw [ks_append]; exact List.mem_append.2 (.inl hm))
  refine .of_enter (f := f) (args := (as a).toArray) (W' := W) hrun ?_
  refine (h (ks Lr ++ c.A0) W (as a) hA hn1 hlt (fun e he => Ent.ok_mono (s.own e (List.mem_append.2 (.inl he))) hset fun _ _ => rfl) (hx.mono hset)).mono fun e W' ⟨v, dd, he, hf, h1, h2, h3, h4⟩ => ?_
  exact ⟨v, he, dd, s.after hf h1 h2 h3, (ρ dd).mono ks_swap' h4⟩

/-- own blocks and a pool in one: the first n entries, of them m, are lent; the pool behind them -/
theorem OpS.lendB {o : Oper} {κ : Type} [Cl κ] {hp : Pool κ} {Lin Lr : List Ent} {δ : Type} {ρ : δ → VP} {Lo : δ → List Ent} {hq : δ → Pool κ} (n m : Nat) (hL : L.drop n = Ents hp) (h1 : (L.take n).take m = Lin) (h2 : (L.take n).drop m = Lr)
    (h : OpS c E ((Lin ++ Ents hp) ++ Lr) o ρ (fun q => (Lo q ++ Ents (hq q)) ++ Lr)) : OpS c E L o ρ (fun q => (Lo q ++ Lr) ++ Ents (hq q)) := by
  have e : L = (Lin ++ Lr) ++ Ents hp := by rw [← h1, ← h2, List.take_append_drop, ← hL, List.take_append_drop]
  clear hL h1 h2
  subst e
  exact h.perm lin_perm fun q => lin_perm

theorem OpS.callP {f : FuncId} {xs : List Operand} {ats : Array TypeId} {κ : Type} [Cl κ] {hp : Pool κ} {τs : List VP} {Lin Lr : List Ent} {δ : Type} {ρ : δ → VP} {Lo : δ → List Ent} {hq : δ → Pool κ} (n m : Nat) (hL : L.drop n = Ents hp) (en : En c.P f) (h : MeetsO c.P f τs (Lin ++ Ents hp) ρ (fun d => Lo d ++ Ents (hq d)))
    (h1 : (L.take n).take m = Lin) (h2 : (L.take n).drop m = Lr) (hx : Looks c E L xs τs) : OpS c E L ⟨d, .call ⟨.value (.func f), xs.toArray, ats⟩, ty, pos, af, g⟩ ρ (fun q => (Lo q ++ Lr) ++ Ents (hq q)) := by
  have e : L = (Lin ++ Lr) ++ Ents hp := by rw [← h1, ← h2, List.take_append_drop, ← hL, List.take_append_drop]
  refine OpS.lendB n m hL h1 h2 (OpS.call (as := fun a => xs.map a.eval) h fun a W s => ⟨by simp [execOp, resolve, Deferred.ofValue, Act.eval, invoke, en.run], ?_⟩)
  subst e
  exact (hx.holds a W (s.perm lin_perm.symm)).mono (perm_ext lin_perm)
theorem OpS.callO {f : FuncId} {xs : List Operand} {ats : Array TypeId} {τs : List VP} {Lin Lr : List Ent} {δ : Type} {ρ : δ → VP} {Lo : δ → List Ent} (m : Nat) (en : En c.P f) (h : MeetsO c.P f τs Lin ρ Lo)
    (h1 : L.take m = Lin) (h2 : L.drop m = Lr) (hx : Looks c E L xs τs) : OpS c E L ⟨d, .call ⟨.value (.func f), xs.toArray, ats⟩, ty, pos, af, g⟩ ρ (fun q => Lo q ++ Lr) := by
  have e : L = Lin ++ Lr := by rw [← h1, ← h2, List.take_append_drop]
  clear h1 h2
  subst e
  exact OpS.call (as := fun a => xs.map a.eval) h fun a W s => ⟨by simp [execOp, resolve, Deferred.ofValue, Act.eval, invoke, en.run], hx.holds a W s⟩

/-! ### Calls of closures -/

theorem Look.clo_run {fo : Operand} {f : FuncId} {τcs τs : List VP} {xs : List Operand} {ats : Array TypeId} (en : En c.P f) (hf : Look c E L fo (.clo f τcs)) (hx : Looks c E L xs τs) {a : Act} {W : World} (s : St c E L a W) :
    ∃ lb : List Value, (execOp a.eval ⟨d, .call ⟨.value fo, xs.toArray, ats⟩, ty, pos, af, g⟩).run c.P W = .ok (.enter f (xs.map a.eval ++ lb).toArray) W ∧ HoldsAll (ks L ++ c.A0) W (τs ++ τcs) (xs.map a.eval ++ lb) := by
  obtain ⟨lb, h1, h2⟩ := hf a W s
  exact ⟨lb, by simp [execOp, resolve, Deferred.ofValue, h1, invoke, en.run], (hx.holds a W s).append h2⟩

theorem OpS.clo {fo : Operand} {f : FuncId} {τcs τs : List VP} {xs : List Operand} {ats : Array TypeId} {Lin Lr : List Ent} {δ : Type} {ρ : δ → VP} {Lo : δ → List Ent} (m : Nat) (en : En c.P f) (hf : Look c E L fo (.clo f τcs)) (h : MeetsO c.P f (τs ++ τcs) Lin ρ Lo)
    (h1 : L.take m = Lin) (h2 : L.drop m = Lr) (hx : Looks c E L xs τs) : OpS c E L ⟨d, .call ⟨.value fo, xs.toArray, ats⟩, ty, pos, af, g⟩ ρ (fun q => Lo q ++ Lr) := by
  have e : L = Lin ++ Lr := by rw [← h1, ← h2, List.take_append_drop]
  clear h1 h2
  subst e
  intro a W s
  obtain ⟨lb, h3, h4⟩ := Look.clo_run (d := d) (ty := ty) (pos := pos) (af := af) (g := g) (ats := ats) en hf hx s
  have hnd0 := s.nodup
  rw [ks_append] at hnd0
  obtain ⟨hn1, hn2, hn3⟩ := List.nodup_append.1 hnd0
  have hset : Ext (ks (Lin ++ Lr) ++ c.A0) W (ks Lin ++ (ks Lr ++ c.A0)) W := ks_swap
  have hA : ∀ k ∈ ks Lr ++ c.A0, k < W.heap.size ∧ k ∉ ks Lin := fun k hm => by
    rcases List.mem_append.1 hm with hm | hm
    · exact ⟨s.lt k (by rw [ks_append]; exact List.mem_append.2 (.inr hm)), fun h => hn3 k h k hm rfl⟩
    · obtain ⟨h1, h2⟩ := s.old k hm
      exact ⟨h1, fun h => h2 (by rw [ks_append]; exact List.mem_append.2 (.inl h))⟩
  have hlt : ∀ k ∈ ks Lin, k < W.heap.size := fun k hm => s.lt k (by rw [ks_append]; exact List.mem_append.2 (.inl hm))
  refine .of_enter (f := f) (W' := W) h3 ?_
  refine (h (ks Lr ++ c.A0) W _ hA hn1 hlt (fun e he => Ent.ok_mono (s.own e (List.mem_append.2 (.inl he))) hset fun _ _ => rfl) (h4.mono hset)).mono fun e W' ⟨v, dd, he, hf, h1, h2, h3, h4⟩ => ?_
  exact ⟨v, he, dd, s.after hf h1 h2 h3, (ρ dd).mono ks_swap' h4⟩
theorem Looks.perm {L1 : List Ent} (p : L.Perm L1) : ∀ {xs : List Operand} {τs : List VP}, Looks c E L xs τs → Looks c E L1 xs τs
  | [], [], h => h
  | _ :: _, _ :: _, h => ⟨h.1.perm p, Looks.perm p h.2⟩
  | [], _ :: _, h => h.elim
  | _ :: _, [], h => h.elim
theorem OpS.cloP {fo : Operand} {f : FuncId} {τcs τs : List VP} {xs : List Operand} {ats : Array TypeId} {κ : Type} [Cl κ] {hp : Pool κ} {Lin Lr : List Ent} {δ : Type} {ρ : δ → VP} {Lo : δ → List Ent} {hq : δ → Pool κ} (n m : Nat) (hL : L.drop n = Ents hp) (en : En c.P f) (hf : Look c E L fo (.clo f τcs)) (h : MeetsO c.P f (τs ++ τcs) (Lin ++ Ents hp) ρ (fun d => Lo d ++ Ents (hq d)))
    (h1 : (L.take n).take m = Lin) (h2 : (L.take n).drop m = Lr) (hx : Looks c E L xs τs) : OpS c E L ⟨d, .call ⟨.value fo, xs.toArray, ats⟩, ty, pos, af, g⟩ ρ (fun q => (Lo q ++ Lr) ++ Ents (hq q)) := by
  have e : L = (Lin ++ Lr) ++ Ents hp := by rw [← h1, ← h2, List.take_append_drop, ← hL, List.take_append_drop]
  refine OpS.lendB n m hL h1 h2 ?_
  subst e
  refine OpS.to (fun q => rfl) (OpS.clo (Lin ++ Ents hp).length en (hf.perm lin_perm) h List.take_left List.drop_left (hx.perm lin_perm))

/-! ### Objects of the pool that lie in several blocks -/

theorem OpS.obj {f : FuncId} {xs : List Operand} {ats : Array TypeId} {κ : Type} [Cl κ] {hp : Pool κ} {p : Nat} {k : κ} {τs : List VP} {Lin : List Ent} {δ : Type} {ρ : δ → VP} {Lo : δ → List Ent} (n : Nat) (k' : δ → κ) (hL : L.drop n = Ents hp) (hp' : pat hp p = some k) (en : En c.P f) (h : MeetsO c.P f τs Lin ρ Lo)
    (hk : Cl.ents p k = Lin) (hk' : ∀ q, Cl.ents p (k' q) = Lo q) (hx : Looks c E L xs τs) : OpS c E L ⟨d, .call ⟨.value (.func f), xs.toArray, ats⟩, ty, pos, af, g⟩ ρ (fun q => L.take n ++ Ents (pup hp p (k' q))) := by
  obtain ⟨R, p1, p2⟩ := pool_open hp'
  have e : L = L.take n ++ Ents hp := by rw [← hL, List.take_append_drop]
  have hP : ∀ {M X : List Ent}, M.Perm (X ++ R) → (L.take n ++ M).Perm (X ++ (R ++ L.take n)) := fun h => List.perm_append_comm.trans ((h.append_right _).trans (by rw [List.append_assoc]))
  have hPL : L.Perm (Lin ++ (R ++ L.take n)) := by
    conv => lhs; rw [e]
    exact hP (by rw [← hk]; exact p1)
  refine OpS.perm hPL (fun q => (hP (p2 (k' q))).symm) ?_
  refine OpS.to (fun q => by rw [hk']) (OpS.call (Lr := R ++ L.take n) (as := fun a => xs.map a.eval) h fun a W s => ⟨by simp [execOp, resolve, Deferred.ofValue, Act.eval, invoke, en.run], ?_⟩)
  exact (hx.holds a W (s.perm hPL.symm)).mono (perm_ext hPL)
/-- a call that leaves the object as it is -/
theorem HS.obj {f : FuncId} {xs : List Operand} {ats : Array TypeId} {κ : Type} [Cl κ] {hp : Pool κ} {p : Nat} {k : κ} {τs : List VP} {Lin : List Ent} {δ : Type} {τ : VP} (n : Nat) (hL : L.drop n = Ents hp) (hp' : pat hp p = some k) (en : En c.P f) (h : MeetsO c.P f τs Lin (fun _ : δ => τ) (fun _ => Lin))
    (hk : Cl.ents p k = Lin) (hx : Looks c E L xs τs) : HS c E L ⟨d, .call ⟨.value (.func f), xs.toArray, ats⟩, ty, pos, af, g⟩ τ := by
  have e : L = L.take n ++ Ents hp := by rw [← hL, List.take_append_drop]
  have hpp : pup hp p k = hp := by
    clear e hL h hk
    induction hp with
    | nil => rfl
    | cons z r ih =>
      obtain ⟨q, kq⟩ := z
      simp only [pat] at hp'
      simp only [pup]
      split at hp'
      · rename_i e; simp only [Option.some.injEq] at hp'; rw [if_pos e, hp']
      · rename_i e; rw [if_neg e, ih hp']
  refine OpS.toHS (OpS.to (fun q => ?_) (OpS.obj (d := d) (ty := ty) (pos := pos) (af := af) (g := g) (ats := ats) n (fun _ => k) hL hp' en h hk (fun _ => hk) hx))
  rw [hpp, ← e]

/-- own blocks become an object of the pool: the first m entries -/
theorem Sq.give2 {l : List Oper} {κ : Type} [Cl κ] {hp : Pool κ} {p : Nat} {Lin Lr : List Ent} (n m : Nat) (mk : κ) (hL : L.drop n = Ents hp) (h1 : (L.take n).take m = Lin) (h2 : (L.take n).drop m = Lr) (hk : Cl.ents p mk = Lin) (hm : p ∈ ks Lin)
    (k : ∀ a : Nat × Pool κ, a.1 ∉ hp.map (·.1) ∧ a.2 = (a.1, mk) :: hp → a.1 = p → Sq c ops Q l E (Lr ++ Ents a.2)) : Sq c ops Q l E L := fun a W s => by
  have e : L = (Lin ++ Lr) ++ Ents hp := by rw [← h1, ← h2, List.take_append_drop, ← hL, List.take_append_drop]
  have hP : L.Perm (Lr ++ Ents ((p, mk) :: hp)) := by
    rw [e, Ents, hk, ← List.append_assoc]
    exact List.perm_append_comm.append_right _
  refine k (p, (p, mk) :: hp) ⟨fun hmm => ?_, rfl⟩ rfl _ _ (s.perm hP)
  have hnd := s.nodup
  rw [e, ks_append, ks_append] at hnd
  exact (List.nodup_append.1 hnd).2.2 p (List.mem_append.2 (.inl hm)) p (pks_ks hmm) rfl
end
end Gv
namespace Gv
open Go
set_option linter.unusedVariables false

/-! ### Regions and iterators that look at a pool -/

section
variable {c : Cx} {E : List (Nat × VP)} {L : List Ent} {ops : Array Oper} {Q : Exit → Act → World → Prop}
theorem HeadD.q {hs : List Hd} {i np : Nat} {o : Oper} {h : Hd} (hh : HeadD c ops Q hs E L i o h) : HeadDP c ops Q hs E L np i o h := fun hd E' L' h1 h2 _ => hh hd E' L' h1 h2

/-- an iterator that looks at the caller's pool, which stays as it is -/
structure MeetsK (P : Program) (f : FuncId) (τs : List VP) {κ : Type} [Cl κ] (hp : Pool κ) {α : Type} (τ : α → VP) (run : ∀ {σ ε : Type}, (α → σ → Option (σ ⊕ ε)) → σ → Option (σ ⊕ ε)) : Prop where
  go : ∀ {σ ε γ : Type} (Ls : σ → γ → List Ent) (Lx : ε → γ → List Ent) (Lc : σ → γ → List Ent), (∀ s g, Ls s g = Lc s g ++ Ents hp) → GoI P f τs [] τ (run (σ := σ) (ε := ε)) Ls Lx

theorem MeetsK.of {P : Program} {f : FuncId} {fn : Func} {code : Code} {n : Nat} {τs : List VP} {κ : Type} [Cl κ] {hp : Pool κ} {α : Type} {τ : α → VP} {run : ∀ {σ ε : Type}, (α → σ → Option (σ ⊕ ε)) → σ → Option (σ ⊕ ε)}
    (hf : P.funcs[f]? = some fn) (hb : fn.body = some code) (hn : fn.ntmps = n) (hlen : Nat.ble (τs.length + 1) n = true)
    (h : ∀ {σ ε γ : Type} (Ls : σ → γ → List Ent) (Lx : ε → γ → List Ent) (Lc : σ → γ → List Ent), (∀ s g, Ls s g = Lc s g ++ Ents hp) → ∀ (step : α → σ → Option (σ ⊕ ε)) (s0 : σ) (g0 : γ) (r : σ ⊕ ε), run step s0 = some r →
      ∀ W A u, Yld P u τ Ls Lx step (fun A' W' => Ext (ks (Ls s0 g0) ++ A) W A' W') →
        Wp ⟨P, n, W, ks (Ls s0 g0), A, none, []⟩ (bodyPost P fn (PostO (ks (Ls s0 g0)) A W (fun _ : γ => .tup []) (fun g => [] ++ Lr Ls Lx r g))) code (params 0 (.eq u :: τs)) (Ls s0 g0)) : MeetsK P f τs hp τ run := by
  refine ⟨?_⟩
  intro σ ε γ Ls Lx Lc hLc step s0 g0 r hr A W u vs hl hv hy
  refine calls_of_wp hf hb (wpIn_wide.1 (h Ls Lx Lc hLc step s0 g0 r hr W A u hy _ _ ?_))
  have hv' : HoldsAll (ks (Ls s0 g0) ++ A) W (.eq u :: τs) (u :: vs) := .cons rfl hv
  have hl' := hv'.length
  have hle : τs.length + 1 ≤ n := Nat.le_of_ble_eq_true hlen
  exact
  { defers := rfl
    size := by simp at hl'; simp [hn, hl']; omega
    env := fun t τ hlk => by
      obtain ⟨_, v, h2, h3⟩ := look_params hv' 0 t τ hlk
      refine ⟨v, ?_, h3⟩
      have hlt : t < (u :: vs).length := (List.getElem?_eq_some_iff.1 h2).1
      rw [Array.getElem?_append_left (by simpa using hlt)]
      simpa using h2
    fr := .refl _ _
    own := hl.ok
    nodup := hl.nodup
    lt := hl.lt
    mine := fun k hk _ => hk
    old := hl.old }

theorem pmemK {κ : Type} [Cl κ] {σ γ : Type} {Ls Lc : σ → γ → List Ent} {hp : Pool κ} {s : σ} {g : γ} {p : Nat} {k : κ} {e : Ent} (n : Nat) (hL : L.drop n = Ls s g) (hLc : ∀ s g, Ls s g = Lc s g ++ Ents hp) (h : pat hp p = some k) (hk : Cl.ents p k = [e]) : e ∈ L :=
  pmemI (hq := fun _ => hp) n hL hLc h hk

theorem range_wpK {gt p : Nat} {assign body : Code} {f : FuncId} {lbτ : List VP} {κ : Type} [Cl κ] {hp : Pool κ} {α σ ε γ : Type} {τ : α → VP} {run : ∀ {σ ε : Type}, (α → σ → Option (σ ⊕ ε)) → σ → Option (σ ⊕ ε)}
    {Ls : σ → γ → List Ent} {Lx : ε → γ → List Ent} {step : α → σ → Option (σ ⊕ ε)} {s0 : σ} {g0 : γ} {r : σ ⊕ ε} (Lc : σ → γ → List Ent) (js : ε → Code)
    (hc : c.rd = none) (en : En c.P f) (hg : look E gt = some (.clo f lbτ)) (hI : MeetsK c.P f lbτ hp τ run) (hr : run step s0 = some r) (hLc : ∀ s g, Ls s g = Lc s g ++ Ents hp) (hL : L = Ls s0 g0) (hp' : Nat.blt p c.n = true)
    (hround : ∀ x s r, step x s = some r → ∀ g (W0' : World) (X' A0' : List Nat) (l D : Nat) (rec : Loop), rec.state = .ready →
      Wp ⟨c.P, c.n, W0', X', A0', some l, []⟩ (Exit.then (BR ⟨c.P, c.n, W0', X', A0', some l, []⟩ l body (RQ ⟨c.P, c.n, W0', X', A0', some l, []⟩ js l D { rec with state := .busy } Ls Lx r)) (fun _ _ _ => False)) assign ((p, τ x) :: E) (⟨some l, .is (.loop rec)⟩ :: ⟨some D, .dfr⟩ :: Ls s g))
    (hdone : ∀ s', r = .inl s' → ∀ g D, To { c with ds := D :: c.ds } Q .normal E (⟨some D, .dfr⟩ :: Ls s' g))
    (hstop : ∀ q, r = .inr q → ∀ g D, Wp { c with ds := D :: c.ds } Q (js q) E (⟨some D, .dfr⟩ :: Lx q g)) :
    Wp c Q (.rangeFunc (.tmp gt) #[p] assign body) E L :=
  range_wpG (Lin := []) (run := run) js hc en hg (fun e1 e2 Lx' => hI.go (fun s g => e1 :: e2 :: Ls s g) Lx' (fun s g => e1 :: e2 :: Lc s g) (fun s g => by rw [hLc]; rfl)) hr hL hp' hround hdone hstop
end
end Gv
namespace Gv
open Go
set_option linter.unusedVariables false

/-! ### Variables that hold closures over own variables -/

/-- a function's value, as it is -/
structure Raw where
  f : FuncId
  us : Option (List Value)
instance : Inhabited Raw := ⟨⟨0, none⟩⟩
def Raw.val : Raw → Value
  | ⟨f, some us⟩ => .func (.func f) #[] us.toArray
  | ⟨_, none⟩ => .nilFunc
instance : Rp Raw where
  size := 1
  agg := false
  rep _ _ cs x := cs = [x.val]
  len h := by rw [h]; rfl
  one h := by
    intro v hv
    rw [h, List.mem_singleton] at hv
    subst hv
    rename_i x
    obtain ⟨f, us⟩ := x
    cases us <;> rfl
  flat _ := rfl
  mono _ h := h
instance : Zc Raw := ⟨[.nilFunc], fun _ _ => rfl⟩
theorem of_raw {A W v} {x : Raw} : (VP.of x).holds A W v ↔ v = x.val := by
  constructor
  · intro h
    exact toList_one (by have := h.1; exact this) h.2
  · intro h
    subst h
    obtain ⟨f, us⟩ := x
    cases us <;> exact ⟨rfl, rfl⟩

section
variable {c : Cx} {E : List (Nat × VP)} {L : List Ent} {ops : Array Oper} {Q : Exit → Act → World → Prop}
variable {d : Option Tmp} {ty : TypeId} {pos : String} {af : Array Edge} {g : Option (Nat × Bool)} {x y : Operand} {t t2 : TypeId}

theorem HoldsAll.eqs {A : List Nat} {W : World} : ∀ {us vs : List Value}, HoldsAll A W (us.map VP.eq) vs → vs = us
  | [], _, .nil => rfl
  | _ :: _, _, .cons h r => by rw [r.eqs]; congr 1
theorem HoldsAll.ofEqs {A : List Nat} {W : World} : ∀ {us : List Value}, HoldsAll A W (us.map VP.eq) us
  | [] => .nil
  | _ :: _ => .cons rfl .ofEqs

theorem r_mkR {f : FuncId} {xs : List Operand} {us : List Value} (hx : Looks c E L xs (us.map VP.eq)) : HR c E L ⟨d, .makeFunc (.func f) #[] xs.toArray, ty, pos, af, g⟩ (.of (⟨f, some us⟩ : Raw)) := .pure fun a W s =>
  ⟨.func (.func f) #[] us.toArray, by
    have h := (hx.holds a W s).eqs
    simp [execOp, Instr.makeFunc, h], of_raw.2 rfl⟩
theorem look_clo {f : FuncId} {us : List Value} (hx : Look c E L x (.of (⟨f, some us⟩ : Raw))) : Look c E L x (.clo f (us.map VP.eq)) := fun a W s =>
  ⟨us, of_raw.1 (hx a W s), .ofEqs⟩

/-! ### Under a guard, what makes new blocks -/

theorem Sq.gW {o : Oper} {rest : List Oper} {dd j gs : Nat} {b want : Bool} {β γ ρ' : Type} {m : Wm β} {z : β} {k : β → Wm ρ'} {R : ρ' → Prop} (h : Wm.bind (bif decide (b = want) then m else Wm.ret z) k R) (σ : β → VP) (L2 : β → γ → List Ent) (g0 : γ) (hL : L = L2 z g0)
    (hg : o.guard = some (j, want)) (hj : (ops[j]?).bind (·.dst) = some gs) (hl : look E gs = some (.of b)) (hd : o.dst = some dd) (hn : Nat.blt dd c.n = true)
    (ht : b = want → m (fun r => k r R) → OpS c E L o (fun q : {r // k r R} × γ => σ q.1.1) (fun q => L2 q.1.1 q.2))
    (kk : ∀ y g, k y R → Sq c ops Q rest ((dd, .cond (b = want) (σ y)) :: E) (L2 y g)) : Sq c ops Q (o :: rest) E L := by
  by_cases hb : b = want
  · have hm : m (fun r => k r R) := by
      have h' : (bif decide (b = want) then m else Wm.ret z) (fun r => k r R) := h
      rw [decide_eq_true hb] at h'; exact h'
    exact Sq.gP (β := β × γ) (K := fun y => k y.1 R) (σ := fun y => σ y.1) (L2 := fun y => L2 y.1 y.2) (val := fun q => (q.1.1, q.2)) hg hj hl hd hn (fun _ => ht hb hm) (fun _ q => ⟨q.1.2, rfl, rfl⟩) (fun h => absurd hb h) fun y hy => kk y.1 y.2 hy
  · have hm : k z R := by
      have h' : (bif decide (b = want) then m else Wm.ret z) (fun r => k r R) := h
      rw [decide_eq_false hb] at h'; exact h'
    exact Sq.gP (δ := Unit) (β := β × γ) (K := fun y => k y.1 R) (σ := fun y => σ y.1) (L2 := fun y => L2 y.1 y.2) (val := fun _ => (z, g0)) (ρ := fun _ => σ z) (L' := fun _ => L2 z g0) hg hj hl hd hn (fun h => absurd h hb) (fun h => absurd h hb) (fun _ => ⟨(z, g0), hm, hL⟩) fun y hy => kk y.1 y.2 hy
end
end Gv
namespace Gv
open Go
set_option linter.unusedVariables false
section
variable {c : Cx} {E : List (Nat × VP)} {L : List Ent} {ops : Array Oper} {Q : Exit → Act → World → Prop}
/-- what has become an object of the pool is known by its number -/
theorem Sq.toref {l : List Oper} {p q : Nat} (sl : Nat) (hl : look E sl = some (.eq (.pointer (some ⟨p, 0, none⟩)))) (he : q = p) (k : Sq c ops Q l ((sl, .of (some q : Ref)) :: E) L) : Sq c ops Q l E L := fun a W s => by
  subst he
  refine k a W (s.less fun t τ h => ?_)
  simp only [look] at h
  by_cases e : Nat.beq sl t = true
  · rw [e] at h
    simp only [cond_true, Option.some.injEq] at h
    have := look_beq.1 e
    subst this
    subst h
    exact ⟨_, hl, fun A W v hv => of_ref.2 hv⟩
  · simp only [Bool.not_eq_true] at e
    rw [e] at h
    exact ⟨τ, h, fun _ _ _ h => h⟩
end
end Gv

namespace Gv
open Go
set_option linter.unusedVariables false
set_option linter.unusedSimpArgs false
section
variable {c : Cx} {E : List (Nat × VP)} {L : List Ent} {ops : Array Oper} {Q : Exit → Act → World → Prop}

def drawT (ops : Array Oper) (n : Nat) (hs : List (Option Nat × List Nat × List Nat × List Nat)) (E : List Nat) : Bool :=
  decide (hs.length = n) && decide (n ≤ ops.size) && decide (hs.filterMap (·.1)).Nodup && ((List.range n).all fun m => match hs[m]? with | some (some s, up, _) => !E.contains s || (List.range n).all fun k => decide (k = m) || up.contains k | _ => true) &&
  ((List.range n).all fun i => match hs[i]? with
    | none => false
    | some (_, up, rd, wr) =>
      (((ops[i]?).map fun o => (o.dst == (hs[i]?).bind (·.1)) && o.after.all fun e => !Region.binds .any e || decide (e.on < i)).getD false) &&
      (up.all fun k => Region.waitsFor .any ops i k || (List.range i).any fun m => Region.waitsFor .any ops i m && ((hs[m]?).map fun h => h.2.1.contains k).getD false) &&
      ((List.range n).all fun k => match hs[k]? with
        | none => true
        | some (_, upk, _, wrk) =>
          (!(decide (k < i) && wrk.any rd.contains) || up.contains k) && (!(decide (i < k) && wrk.any fun j => rd.contains j || wr.contains j) || upk.contains i))) &&
  (decide (n = ops.size) || (Region.sinkB .any ops n && Region.chainB .any ops n)) &&
  Region.seqB .any ops (ops.size - n) n ((List.range n).foldl (fun l i => l.setIfInBounds i true) (Array.replicate ops.size false))

theorem drawT_core {n : Nat} {hs : List Hd} {np : Nat} (hw : ∀ h ∈ hs, ∀ j ∈ h.wr, j < np ∨ L.length ≤ j) (hB : drawT ops n (dat hs) (E.map (·.1)) = true) (hh : HeadsDP c ops Q hs E L np 0 (ops.toList.take n) hs)
    (ht : ∀ hd, Sq c ops Q (ops.toList.drop n) (zipD (fun _ => true) hd E 0 hs) (Lf (fun _ => true) hd 0 hs L)) :
    ∀ m (listed : Array Bool) (hd : Nat → Hid) (a : Act) (W : World), ((List.range n).filter fun i => !listed.getD i true).length ≤ m → HeadInv .any ops n listed →
      St c (zipD (fun i => listed.getD i false) hd E 0 hs) (Lf (fun i => listed.getD i false) hd 0 hs L) a W → wpAnyIn c.F 9 c.P .any ops Q (m + (ops.size - n)) listed a W := by
  simp only [drawT, Bool.and_eq_true, decide_eq_true_eq, Bool.or_eq_true] at hB
  obtain ⟨⟨⟨⟨⟨⟨hlen0, hn⟩, hnd⟩, hdis⟩, hall⟩, htail⟩, hseq⟩ := hB
  have hlen : hs.length = n := by simpa [dat] using hlen0
  have hget : ∀ i, i < n → ∃ h o, hs[i]? = some h ∧ ops[i]? = some o := fun i hi => ⟨hs[i]'(by omega), ops[i], by simp, by simp⟩
  -- what is asked of operation i
  have hcond : ∀ (i : Nat) (h : Hd) (o : Oper), hs[i]? = some h → ops[i]? = some o →
      o.dst = h.slot ∧ (∀ e ∈ o.after, Region.binds .any e = true → e.on < i) ∧
      (∀ k ∈ h.up, Region.waitsFor .any ops i k = true ∨ ∃ m, m < i ∧ Region.waitsFor .any ops i m = true ∧ ∃ x, hs[m]? = some x ∧ k ∈ x.up) ∧
      (∀ (k : Nat) (x : Hd), hs[k]? = some x → (k < i → (∃ j ∈ x.wr, h.rd.contains j = true) → k ∈ h.up) ∧ (i < k → (∃ j ∈ x.wr, h.rd.contains j = true ∨ h.wr.contains j = true) → i ∈ x.up)) := by
    intro i h o hi ho
    have hlt : i < n := by have := (List.getElem?_eq_some_iff.1 hi).1; omega
    have h1 := List.all_eq_true.1 hall i (List.mem_range.2 hlt)
    rw [dat_get hi] at h1
    simp only [Bool.and_eq_true] at h1
    obtain ⟨⟨h2, h3⟩, h4⟩ := h1
    simp only [ho, Option.map_some, Option.getD_some, Bool.and_eq_true, Option.bind_some, beq_iff_eq] at h2
    refine ⟨h2.1, fun e he hb => ?_, fun k hk => ?_, fun k x hx => ?_⟩
    · have := Array.all_eq_true_iff_forall_mem.1 h2.2 e he
      simp [hb] at this
      exact this
    · have := List.all_eq_true.1 h3 k hk
      simp only [Bool.or_eq_true, List.any_eq_true, Bool.and_eq_true, List.mem_range] at this
      rcases this with h5 | ⟨m, h5, h6, h7⟩
      · exact .inl h5
      · have hm : m < hs.length := by omega
        rw [dat_get (List.getElem?_eq_getElem hm)] at h7
        exact .inr ⟨m, h5, h6, hs[m], List.getElem?_eq_getElem hm, by simpa using h7⟩
    · have hkl : k < n := by have := (List.getElem?_eq_some_iff.1 hx).1; omega
      have := List.all_eq_true.1 h4 k (List.mem_range.2 hkl)
      rw [dat_get hx] at this
      simp only [Bool.and_eq_true, Bool.or_eq_true, Bool.not_eq_true', Bool.and_eq_false_iff, decide_eq_false_iff_not, List.contains_iff_mem] at this
      refine ⟨fun hki ⟨j, hj, hr⟩ => ?_, fun hik ⟨j, hj, hr⟩ => ?_⟩
      · rcases this.1 with (h5 | h5) | h5
        · exact absurd hki h5
        · have := List.any_eq_false.1 h5 j hj
          exact absurd hr this
        · exact h5
      · rcases this.2 with (h5 | h5) | h5
        · exact absurd hik h5
        · have := List.any_eq_false.1 h5 j hj
          simp only [Bool.or_eq_true] at this
          exact absurd hr this
        · exact h5
  have huniq : ∀ (i j s : Nat) (x y : Hd), hs[i]? = some x → hs[j]? = some y → x.slot = some s → y.slot = some s → i = j := by
    have key : ∀ (l : List Hd), ((dat l).filterMap (·.1)).Nodup → ∀ (i j s : Nat) (x y : Hd), l[i]? = some x → l[j]? = some y → x.slot = some s → y.slot = some s → i = j := by
      intro l
      induction l with
      | nil => intro _ i j s x y h; simp at h
      | cons z r ih =>
        intro hnd i j s x y hi hj hx hy
        have hr : ((dat r).filterMap (·.1)).Nodup := by
          cases hz : z.slot with
          | none => simpa [dat, hz] using hnd
          | some w =>
            simp only [dat, List.map_cons, List.filterMap_cons, hz] at hnd
            exact (List.nodup_cons.1 hnd).2
        have hout : z.slot = some s → ∀ (q : Nat) (v : Hd), r[q]? = some v → v.slot ≠ some s := fun hz q v hq hv => by
          simp only [dat, List.map_cons, List.filterMap_cons, hz] at hnd
          exact (List.nodup_cons.1 hnd).1 (List.mem_filterMap.2 ⟨_, List.mem_map.2 ⟨v, List.mem_of_getElem? hq, rfl⟩, hv⟩)
        cases i with
        | zero =>
          simp only [List.getElem?_cons_zero, Option.some.injEq] at hi
          subst hi
          cases j with
          | zero => rfl
          | succ j => simp only [List.getElem?_cons_succ] at hj; exact absurd hy (hout hx j y hj)
        | succ i =>
          simp only [List.getElem?_cons_succ] at hi
          cases j with
          | zero =>
            simp only [List.getElem?_cons_zero, Option.some.injEq] at hj
            subst hj
            exact absurd hx (hout hy i x hi)
          | succ j => simp only [List.getElem?_cons_succ] at hj; rw [ih hr i j s x y hi hj hx hy]
    exact key hs hnd
  have hbase : ∀ (t : Nat) (τ : VP), look E t = some τ → ∀ (m : Nat) (h : Hd), hs[m]? = some h → h.slot = some t → ∀ k, k < n → k ≠ m → k ∈ h.up := by
    intro t τ hl m h hm hs' k hk hkm
    have hml : m < n := by have := (List.getElem?_eq_some_iff.1 hm).1; omega
    have h1 := List.all_eq_true.1 hdis m (List.mem_range.2 hml)
    rw [show (dat hs)[m]? = some (h.slot, h.up, h.rd, h.wr) by simp [dat, hm], hs'] at h1
    have hmem : t ∈ E.map (·.1) := by
      clear hdis h1 hh ht hm hs'
      induction E with
      | nil => simp [look] at hl
      | cons x r ih =>
        obtain ⟨s, σ⟩ := x
        simp only [look] at hl
        by_cases e : Nat.beq s t = true
        · have := look_beq.1 e; subst this; simp
        · simp only [Bool.not_eq_true] at e
          rw [e] at hl
          simp only [List.map_cons, List.mem_cons]
          exact .inr (ih hl)
    replace h1 : (!(E.map (·.1)).contains t || (List.range n).all fun k => decide (k = m) || h.up.contains k) = true := h1
    rw [show (E.map (·.1)).contains t = true by simpa using hmem] at h1
    have h2 : ∀ x, x < n → x = m ∨ x ∈ h.up := by simpa using h1
    exact (h2 k hk).resolve_left hkm
  have hup : ∀ (listed : Array Bool), HeadInv .any ops n listed → ∀ (d i : Nat), i ≤ d → ∀ (h : Hd) (o : Oper), hs[i]? = some h → ops[i]? = some o → (∀ e ∈ o.after, Region.binds .any e = true → listed.getD e.on false = true) → ∀ k ∈ h.up, listed.getD k false = true := by
    intro listed inv d
    induction d with
    | zero =>
      intro i hi h o hhi hoi hw k hk
      rcases (hcond i h o hhi hoi).2.2.1 k hk with h1 | ⟨m, hm, _⟩
      · obtain ⟨oj, hoj, e, he, hb, hon⟩ := Region.waitsFor_spec h1
        rw [hoi] at hoj; cases hoj
        rw [← hon]; exact hw e he hb
      · omega
    | succ d ih =>
      intro i hi h o hhi hoi hw k hk
      rcases (hcond i h o hhi hoi).2.2.1 k hk with h1 | ⟨m, hm, h1, x, hx, hkx⟩
      · obtain ⟨oj, hoj, e, he, hb, hon⟩ := Region.waitsFor_spec h1
        rw [hoi] at hoj; cases hoj
        rw [← hon]; exact hw e he hb
      · obtain ⟨oj, hoj, e, he, hb, hon⟩ := Region.waitsFor_spec h1
        rw [hoi] at hoj; cases hoj
        have hml := hw e he hb
        rw [hon] at hml
        obtain ⟨x2, om, hx2, hom⟩ := hget m (by have := (List.getElem?_eq_some_iff.1 hhi).1; omega)
        exact ih m (by omega) x om hx hom (fun e he hb => inv.closed m om hom hml e he hb) k hkx
  have hdone : ∀ (listed : Array Bool) (hd : Nat → Hid) (a : Act) (W : World), (∀ i, i < n → listed.getD i true = true) → HeadInv .any ops n listed →
      St c (zipD (fun i => listed.getD i false) hd E 0 hs) (Lf (fun i => listed.getD i false) hd 0 hs L) a W → wpAnyIn c.F 9 c.P .any ops Q (ops.size - n) listed a W := by
    intro listed hd a W hall2 inv st
    have hl := listed_all inv hn hall2
    rw [← hl] at hseq
    have hlen2 : (ops.toList.drop n).length = ops.size - n := by simp
    rw [← hlen2]
    rw [← hlen2] at hseq
    refine wpAnyIn_of_seq (ops.toList.drop n) n listed a W (fun j => by simp) hseq (ht hd a W ?_)
    have hl2 : ∀ m, m < hs.length → listed.getD (0 + m) false = true := fun m hm => by
      have h1 := hall2 m (by omega)
      have h2 : m < listed.size := by rw [inv.size]; omega
      simpa [h2] using h1
    rw [zipD_congr (ls' := fun _ => true) hl2, Lf_congr (ls' := fun _ => true) hl2] at st
    exact st
  have more : ∀ f (listed : Array Bool) a W, wpAnyIn c.F 9 c.P .any ops Q f listed a W → wpAnyIn c.F 9 c.P .any ops Q (f + 1) listed a W := by
    intro f
    induction f with
    | zero => intro listed a W h; exact ⟨fun _ => h.2, fun i hi => by rw [h.1] at hi; cases hi⟩
    | succ f ihf => intro listed a W h; exact ⟨h.1, fun i hi => wpOpIn_mono (fun a' w' h' => ihf _ a' w' h') (h.2 i hi)⟩
  intro m
  induction m with
  | zero =>
    intro listed hd a W hm inv st
    rw [Nat.zero_add]
    refine hdone listed hd a W (fun i hi => ?_) inv st
    cases h : listed.getD i true with
    | true => rfl
    | false =>
      have : i ∈ (List.range n).filter fun i => !listed.getD i true := List.mem_filter.2 ⟨List.mem_range.2 hi, by rw [h]; rfl⟩
      rw [List.length_eq_zero_iff.1 (Nat.le_zero.1 hm)] at this
      cases this
  | succ m ih =>
    intro listed hd a W hm inv st
    rw [show m + 1 + (ops.size - n) = (m + (ops.size - n)) + 1 by omega]
    by_cases hall3 : ∀ i, i < n → listed.getD i true = true
    · have h1 := hdone listed hd a W hall3 inv st
      have key : ∀ k, wpAnyIn c.F 9 c.P .any ops Q (k + (ops.size - n)) listed a W := by
        intro k
        induction k with
        | zero => rw [Nat.zero_add]; exact h1
        | succ k ihk => rw [show k + 1 + (ops.size - n) = (k + (ops.size - n)) + 1 by omega]; exact more _ _ _ _ ihk
      exact more _ _ _ _ (key m)
    have hex : ∃ i, i < n ∧ listed.getD i true = false := by
      false_or_by_contra
      rename_i h2
      exact hall3 fun i hi => by
        cases h : listed.getD i true with
        | true => rfl
        | false => exact absurd ⟨i, hi, h⟩ h2
    have hready : ∀ t ∈ Region.ready .any ops listed, t < n := by
      intro t htm
      rcases Nat.lt_or_ge t n with h | h
      · exact h
      · obtain ⟨i, hi, hun⟩ := hex
        have hnlt : n < ops.size ∨ n = ops.size := by omega
        have htlt : t < ops.size := by
          obtain ⟨_, o, ho, _⟩ := mem_ready.1 htm
          exact (Array.getElem?_eq_some_iff.1 ho).1
        rcases htail with h1 | h1
        · omega
        · exact absurd htm (tail_waits h1.1 h1.2 (by omega) inv _ i rfl hi hun t h)
    refine ⟨fun h0 => ?_, fun i hi => ?_⟩
    · exfalso
      -- the least that has not come up would be ready
      have key : ∀ d i, i ≤ d → i < n → listed.getD i true = true := by
        intro d
        induction d with
        | zero =>
          intro i hi0 hi
          cases hl : listed.getD i true with
          | true => rfl
          | false =>
            obtain ⟨h, o, hhi, ho⟩ := hget i hi
            have : i ∈ Region.ready .any ops listed := mem_ready.2 ⟨hl, o, ho, fun e he hb => by have := (hcond i h o hhi ho).2.1 e he hb; omega⟩
            rw [h0] at this; cases this
        | succ d ihd =>
          intro i hi0 hi
          cases hl : listed.getD i true with
          | true => rfl
          | false =>
            obtain ⟨h, o, hhi, ho⟩ := hget i hi
            have : i ∈ Region.ready .any ops listed := mem_ready.2 ⟨hl, o, ho, fun e he hb => by
              have h1 := (hcond i h o hhi ho).2.1 e he hb
              have h2 := ihd e.on (by omega) (by omega)
              have h3 : e.on < listed.size := by rw [inv.size]; omega
              simpa [h3] using h2⟩
            rw [h0] at this; cases this
      obtain ⟨i, hi, hun⟩ := hex
      have := key i i (Nat.le_refl _) hi
      rw [hun] at this; cases this
    · have hin : i < n := hready i hi
      obtain ⟨hun, o, ho, hlisted⟩ := mem_ready.1 hi
      obtain ⟨h, _, hhi, _⟩ := hget i hin
      have hunf : listed.getD i false = false := getD_both hun
      have hilt : i < listed.size := by rw [inv.size]; omega
      have hcnt : ((List.range n).filter fun j => !(listed.setIfInBounds i true).getD j true).length ≤ m := by
        have : ((List.range n).filter fun j => !(listed.setIfInBounds i true).getD j true).length < ((List.range n).filter fun j => !listed.getD j true).length := by
          refine cnt_lt (fun j => !listed.getD j true) (fun j => !(listed.setIfInBounds i true).getD j true) i (by simp only [hun]; rfl) ?_ (fun j hj => ?_) n hin
          · simp [hilt]
          · by_cases e : i = j
            · subst e; simp only [hun]; rfl
            · rw [getD_set_ne true e] at hj; exact hj
        omega
      have inv' := inv.set hi hin
      obtain ⟨hdst, hedges, hclos, hent⟩ := hcond i h o hhi ho
      have hupl := hup listed inv i i (Nat.le_refl _) h o hhi ho hlisted
      -- whoever comes later and leaves an entry of i's has not come up
      have hlater : ∀ (k : Nat) (x : Hd), hs[k]? = some x → i < k → (∃ j ∈ x.wr, h.rd.contains j = true ∨ h.wr.contains j = true) → listed.getD k false = false := fun k x hx hik hj => by
        have h1 := (hent k x hx).2 hik hj
        cases hk : listed.getD k false with
        | false => rfl
        | true =>
          obtain ⟨_, ok, _, hok⟩ := hget k (by have := (List.getElem?_eq_some_iff.1 hx).1; omega)
          have := hup listed inv k k (Nat.le_refl _) x ok hx hok (fun e he hb => inv.closed k ok hok hk e he hb) i h1
          rw [hunf] at this; cases this
      have hsplit : hs = hs.take i ++ h :: hs.drop (i + 1) := by
        have hil : i < hs.length := by omega
        rw [List.getElem?_eq_getElem hil] at hhi
        cases hhi
        rw [List.getElem_cons_drop]
        exact (List.take_append_drop i hs).symm
      have htl : (hs.take i).length = i := by rw [List.length_take]; omega
      -- a slot that was known before is filled last, if ever
      have hbl : ∀ (t : Nat) (τ : VP), look E t = some τ → ∀ (m : Nat) (x : Hd), hs[m]? = some x → listed.getD (0 + m) false = true → x.slot ≠ some t := fun t τ hl m x hx hlm hs' => by
        rw [Nat.zero_add] at hlm
        have hmi : i ≠ m := fun e => by subst e; rw [hunf] at hlm; cases hlm
        obtain ⟨_, om, _, hom⟩ := hget m (by have := (List.getElem?_eq_some_iff.1 hx).1; omega)
        have := hup listed inv m m (Nat.le_refl _) x om hx hom (fun e he hb => inv.closed m om hom hlm e he hb) i (hbase t τ hl m x hx hs' i hin hmi)
        rw [hunf] at this; cases this
      have hspec := (HeadsDP.get hh i h o hhi (by rw [List.getElem?_take, if_pos hin, Array.getElem?_toList]; exact ho)) 
      rw [Nat.zero_add] at hspec
      have hsq := hspec hd (zipD (fun i => listed.getD i false) hd E 0 hs) (Lf (fun i => listed.getD i false) hd 0 hs L) (fun t τ hl => ?_) (fun j e hj hr => ?_) (Lf_drop hw)
      · have hw := wpOp_of_list (K := fun a W => ∃ x, St c (addE h.slot (h.τ (msk h.up i (upd hd i x))) (zipD (fun i => listed.getD i false) hd E 0 hs)) (setE (Lf (fun i => listed.getD i false) hd 0 hs L) (h.ent (msk h.up i (upd hd i x))) h.wr) a W) ho (hsq a W st)
        refine wpOpIn_mono (fun a' W' ⟨x, st'⟩ => ?_) hw
        have hdo : ∀ j, j ≠ i → upd hd i x j = hd j := fun j hj => by
          have : Nat.beq j i = false := by
            cases hb : Nat.beq j i
            · rfl
            · exact absurd (look_beq.1 hb) hj
          simp only [upd, this, cond_false]
        -- those that have come up do not know of i
        have hmo : ∀ (j : Nat) (y : Hd), hs[j]? = some y → listed.getD j false = true → msk y.up j (upd hd i x) = msk y.up j hd := fun j y hy hj => by
          obtain ⟨_, oj, _, hoj⟩ := hget j (by have := (List.getElem?_eq_some_iff.1 hy).1; omega)
          refine msk_congr (hdo j fun e => by subst e; rw [hunf] at hj; cases hj) fun k hk => hdo k fun e => ?_
          have := hup listed inv j j (Nat.le_refl _) y oj hy hoj (fun e he hb => inv.closed j oj hoj hj e he hb) k hk
          subst e
          rw [hunf] at this; cases this
        have hli : (listed.setIfInBounds i true).getD i false = true := by simp [hilt]
        have hlo : ∀ j, j ≠ i → (listed.setIfInBounds i true).getD j false = listed.getD j false := fun j hj => getD_set_ne false (fun e => hj e.symm)
        refine ih _ (upd hd i x) a' W' hcnt inv' ?_
        have hLeq : Lf (fun j => (listed.setIfInBounds i true).getD j false) (upd hd i x) 0 hs L = setE (Lf (fun i => listed.getD i false) hd 0 hs L) (h.ent (msk h.up i (upd hd i x))) h.wr := by
          apply List.ext_getElem?
          intro j
          rw [Lf_get, setE_get, Lf_get]
          by_cases hj : h.wr.contains j = true
          · rw [if_pos hj]
            have e1 : ∀ (ls : Nat → Bool) (g : Nat → Hid) (v : Option Ent), (∀ k x, hs[k]? = some x → i < k → x.wr.contains j = true → ls k = false) → valD ls g j 0 hs v = (bif ls i then (valD ls g j 0 (hs.take i) v).map (fun _ => h.ent (msk h.up i g) j) else valD ls g j 0 (hs.take i) v) := fun ls g v hls => by
              conv => lhs; rw [hsplit]
              rw [valD_append, htl, Nat.zero_add, valD, hj, Bool.and_true, valD_none]
              intro k x hx hw
              rw [List.getElem?_drop] at hx
              exact hls (i + 1 + k) x hx (by omega) hw
            have hno : ∀ k x, hs[k]? = some x → i < k → x.wr.contains j = true → listed.getD k false = false := fun k x hx hik hw => hlater k x hx hik ⟨j, by simpa using hw, .inr hj⟩
            rw [e1 (fun j => (listed.setIfInBounds i true).getD j false) (upd hd i x) _ (fun k x hx hik hw => by rw [hlo k (by omega)]; exact hno k x hx hik hw), e1 (fun j => listed.getD j false) hd _ hno]
            simp only [hli, hunf, cond_true, cond_false]
            rw [valD_congr (ls' := fun j => listed.getD j false) (hd' := hd) fun q x hx _ => by
              have hq : q < i := by have := (List.getElem?_eq_some_iff.1 hx).1; omega
              rw [List.getElem?_take, if_pos hq] at hx
              rw [Nat.zero_add]
              exact ⟨hlo q (by omega), fun hl => hmo q x hx (by rw [hlo q (by omega)] at hl; exact hl)⟩]
          · rw [if_neg hj]
            refine valD_congr fun q x hx hw => ?_
            rw [Nat.zero_add]
            have hq : q ≠ i := fun e => by subst e; rw [hhi] at hx; cases hx; exact hj hw
            exact ⟨hlo q hq, fun hl => hmo q x hx (by rw [hlo q hq] at hl; exact hl)⟩
        rw [hLeq]
        refine st'.less fun t τ hl => ?_
        rcases zipD_inv hl with ⟨j, y, h1, h2, h3, h4⟩ | ⟨h1, hno⟩
        · rw [Nat.zero_add] at h2 h4
          by_cases hji : j = i
          · subst hji
            rw [hhi] at h1
            cases h1
            exact ⟨τ, by rw [h3, h4]; simp [addE, look, Nat.beq_refl], fun _ _ _ h => h⟩
          · rw [hlo j hji] at h2
            rw [hmo j y h1 h2] at h4
            have h5 := zipD_get (ls := fun i => listed.getD i false) (hd := hd) (E := E) (k := 0) h1 (by rw [Nat.zero_add]; exact h2) h3 fun q z hq hz => huniq q j t z y hq h1 hz h3
            rw [Nat.zero_add, ← h4] at h5
            refine ⟨τ, ?_, fun _ _ _ h => h⟩
            cases hs2 : h.slot with
            | none => exact h5
            | some s =>
              have hne : Nat.beq s t = false := by
                cases hb : Nat.beq s t
                · rfl
                · have := look_beq.1 hb; subst this
                  exact absurd (huniq j i s y h h1 hhi h3 hs2) hji
              simp only [addE, look, hne, cond_false]
              exact h5
        · have hb := hbl t τ h1
          have h5 := zipD_base (ls := fun i => listed.getD i false) (hd := hd) (E := E) (k := 0) hb
          refine ⟨τ, ?_, fun _ _ _ h => h⟩
          cases hs2 : h.slot with
          | none => simp only [addE]; rw [h5]; exact h1
          | some s =>
            have hne : Nat.beq s t = false := by
              cases hb2 : Nat.beq s t
              · rfl
              · have := look_beq.1 hb2; subst this
                exact absurd hs2 (hno i h hhi (by rw [Nat.zero_add]; exact hli))
            simp only [addE, look, hne, cond_false]
            rw [h5]; exact h1
      · rcases heD_inv hl with ⟨j, hj, y, h1, h2, h3⟩ | h1
        · have h5 := zipD_get (ls := fun i => listed.getD i false) (hd := hd) (E := E) (k := 0) h1 (by rw [Nat.zero_add]; exact hupl j hj) h2 fun q z hq hz => huniq q j t z y hq h1 hz h2
          rw [Nat.zero_add, ← h3] at h5
          exact h5
        · rw [zipD_base (hbl t τ h1)]; exact h1
      · rw [Lf_get] at hj ⊢
        rw [← hj]
        conv => lhs; rw [hsplit]
        rw [valD_append, valD_none]
        · refine valD_congr fun q x hx hw => ?_
          rw [Nat.zero_add]
          have hq : q < i := by have := (List.getElem?_eq_some_iff.1 hx).1; omega
          rw [List.getElem?_take, if_pos hq] at hx
          exact ⟨hupl q ((hent q x hx).1 hq ⟨j, by simpa using hw, hr⟩), fun _ => rfl⟩
        · intro q x hx hw
          rw [htl, Nat.zero_add]
          cases q with
          | zero => exact hunf
          | succ q =>
            simp only [List.getElem?_cons_succ] at hx
            rw [List.getElem?_drop] at hx
            exact hlater (i + (q + 1)) x (by rw [← hx]; congr 1; omega) (by omega) ⟨j, by simpa using hw, .inl hr⟩

/-- a region whose first n operations come in whatever order, with a pool behind the first np entries, of which these only look at it; the others follow one by one -/
theorem Wp.drawT {rid : Nat} {l : List Oper} (n np : Nat) (hm : c.P.follows .mixedOrders = true) (hs : List Hd) (ds : List (Option Nat × List Nat × List Nat × List Nat)) (es : List Nat) (hds : dat hs = ds) (hes : E.map (·.1) = es) (hB : Gv.drawT l.toArray n ds es = true) (hw : (ds.all fun d => d.2.2.2.all fun j => Nat.blt j np) = true)
    (hh : HeadsDP c l.toArray Q hs E L np 0 (l.take n) hs) (ht : ∀ hd, Sq c l.toArray Q (l.drop n) (zipD (fun _ => true) hd E 0 hs) (Lf (fun _ => true) hd 0 hs L)) : Wp c Q (.region rid l.toArray true) E L := fun a W s => by
  subst hds hes
  have hw2 := wr_lt (L := L) (hs := hs) rfl hw
  refine wpIn_region_any hm ?_
  have hn : n ≤ l.toArray.size := by
    simp only [Gv.drawT, Bool.and_eq_true, decide_eq_true_eq] at hB
    exact hB.1.1.1.1.1.2
  have inv0 : HeadInv .any l.toArray n (Array.replicate l.toArray.size false) :=
    { size := by simp
      closed := fun j oj _ hl => by rw [getD_replicate_false] at hl; cases hl
      tail := fun t _ ht => by simp at ht; simp [ht] }
  have h := drawT_core hw2 (ops := l.toArray) (Q := Q) hB (by simpa using hh) (by simpa using ht) n (Array.replicate l.toArray.size false) (fun _ _ => none) a W.drew (Nat.le_trans (List.length_filter_le _ _) (by simp)) inv0 ?_
  · rw [show n + (l.toArray.size - n) = l.toArray.size by omega] at h
    exact h
  have h1 : ∀ (hs : List Hd) (k : Nat), zipD (fun i => (Array.replicate l.toArray.size false).getD i false) (fun _ _ => none) E k hs = E := by
    intro hs
    induction hs with
    | nil => intro k; rfl
    | cons h r ih =>
      intro k
      have h2 := ih (k + 1)
      simp only [getD_replicate_false] at h2
      unfold zipD
      simp only [getD_replicate_false]
      exact h2
  have h2 : ∀ (hs : List Hd) (k : Nat) (L : List Ent), Lf (fun i => (Array.replicate l.toArray.size false).getD i false) (fun _ _ => none) k hs L = L := by
    intro hs
    induction hs with
    | nil => intro k L; rfl
    | cons h r ih => intro k L; rw [Lf, ih]; simp only [getD_replicate_false, cond_false]
  rw [h1, h2]
  exact s.world (Fr.drew W)

/-- the operations from n on, where all ahead of them have come up -/
theorem AnyS.tail {l : List Oper} {f : Nat} {listed : Array Bool} (n : Nat) (hf : (l.drop n).length = f) (hs : Region.seqB .any l.toArray f n listed = true) (h : Sq c l.toArray Q (l.drop n) E L) : AnyS c l.toArray Q f listed E L := fun a W s => by
  subst hf
  exact wpAnyIn_of_seq (l.drop n) n listed a W (fun j => by simp) hs (h a W s)
/-- what a program that makes new blocks may leave, with what follows it -/
theorem Wm.ex {α β : Type} {m : Wm α} {k : α → Wm β} {R : β → Prop} (h : Wm.bind m k R) : ∃ K : α → Prop, m K ∧ ∀ r, K r → k r R := ⟨_, h, fun _ h => h⟩
end
end Gv

namespace Gv
open Go
set_option linter.unusedVariables false

theorem MeetsO.law {P : Program} {f : FuncId} {τs : List VP} {κ : Type} [Cl κ] {R : Bool × Pool κ → Prop} {Lo : {r : Bool × Pool κ // R r} × Unit → List Ent} (h : MeetsO P f τs ([] ++ Ents ([] : Pool κ)) (fun d : {r : Bool × Pool κ // R r} × Unit => VP.of d.1.1.1) Lo) (hR : ∀ r, R r → r.1 = true) : Meets P f τs (VP.of true) := by
  intro A W vs hA hv
  refine (h A W vs (fun k hk => ⟨hA k hk, by simp [Ents, ks]⟩) (by simp [Ents, ks]) (fun k hk => by simp [Ents, ks] at hk) (fun e he => by simp [Ents] at he) (by simpa [Ents, ks] using hv)).mono ?_
  intro e W' ⟨v, d, h1, h2, _, _, _, h3⟩
  refine ⟨v, h1, by simpa [Ents, ks] using h2, ?_⟩
  have h4 := hR d.1.1 d.1.2
  rw [of_bool] at h3 ⊢
  rw [h3, h4]
end Gv

