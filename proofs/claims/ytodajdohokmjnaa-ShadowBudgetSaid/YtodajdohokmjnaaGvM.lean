/-
  The library of the decompiler, part M: loops over iterators. The caller lends its own blocks to the iterator, the iterator to the rounds; a round turns the caller's state on. Conditions: none; it is about whatever program.
-/
import Derived.Test.YtodajdohokmjnaaGvZ
namespace Gv
open Go
set_option linter.unusedVariables false
set_option linter.unusedSimpArgs false

theorem wpIn_room {F : Fence} {n n' : Nat} {P : Program} {code : Code} {Q : Exit → Act → World → Prop} {a : Act} {W : World} (hd : F.depth = none) (h : code.wpIn F n P Q a W) : code.wpIn F n' P Q a W :=
  fun b k cs hro hb _ => h b k cs hro hb (fun d hd' => by rw [hd] at hd'; cases hd')

/-- the very object -/
def CP.is (o : Obj) : CP where
  holds _ _ x := x = o
  nilOk := False
  mono _ h := h
abbrev CP.dfr : CP := .is (.deferred (some []))

/-- a function's value with what it has captured -/
def VP.clo (f : FuncId) (τs : List VP) : VP where
  holds A W v := ∃ lb : List Value, v = .func (.func f) #[] lb.toArray ∧ HoldsAll A W τs lb
  mono e h := let ⟨lb, h1, h2⟩ := h; ⟨lb, h1, h2.mono e⟩

/-- an own block that is no cells is turned -/
theorem St.turn {c E L a W} (h : St c E L a W) {i p : Nat} {cp cp' : CP} (hi : L[i]? = some ⟨some p, cp⟩) {o' : Obj} (hc : cp'.holds (ks L ++ c.A0) W o') :
    St c E (L.set i ⟨some p, cp'⟩) a (W.putObj p o') := by
  have hks : ks (L.set i ⟨some p, cp'⟩) = ks L := ks_set (cp := cp') hi
  have hp : p ∈ ks L := mem_ks.2 ⟨_, List.mem_of_getElem? hi, rfl⟩
  have hext : Ext (ks L ++ c.A0) W (ks L ++ c.A0) (W.putObj p o') :=
    ⟨by simp, fun k _ ha => World.putObj_heap_other (fun e => ha (e ▸ List.mem_append.2 (.inl hp))), fun _ h _ => h⟩
  exact
  { defers := h.defers
    size := h.size
    env := fun t τ hl => by rw [hks]; exact let ⟨v, h1, h2⟩ := h.env t τ hl; ⟨v, h1, τ.mono hext h2⟩
    fr := ⟨h.fr.os, h.fr.tape, h.fr.output, by simpa using h.fr.size, fun k hk hx => by
      rw [World.putObj_heap_other (fun e : k = p => hx (by subst e; exact h.mine _ hp hk))]
      exact h.fr.block k hk hx⟩
    own := fun e he => by
      rw [hks]
      obtain ⟨j, hj⟩ := List.mem_iff_getElem?.1 he
      rw [List.getElem?_set] at hj
      split at hj
      · rename_i hij
        subst hij
        split at hj
        · simp only [Option.some.injEq] at hj
          subst hj
          exact ⟨_, World.putObj_heap_same (h.lt p hp), cp'.mono hext hc⟩
        · cases hj
      · rename_i hij
        have h1 := h.own e (List.mem_of_getElem? hj)
        unfold Ent.ok at *
        split at h1
        · rename_i q hq
          obtain ⟨o', ho', hh⟩ := h1
          have hne : q ≠ p := fun e' => hij (ks_inj h.nodup hi hj rfl (e' ▸ hq))
          exact ⟨o', by rw [World.putObj_heap_other hne]; exact ho', CP.mono _ hext hh⟩
        · exact h1
    nodup := by rw [hks]; exact h.nodup
    lt := by rw [hks]; simpa using h.lt
    mine := by rw [hks]; exact h.mine
    old := by rw [hks]; simpa using h.old }

theorem r_mkI {c : Cx} {E : List (Nat × VP)} {L : List Ent} {d : Option Tmp} {ty : TypeId} {pos : String} {af : Array Edge} {g : Option (Nat × Bool)} {f : FuncId} {xs : List Operand} {τs : List VP} (hx : Looks c E L xs τs) :
    HR c E L ⟨d, .makeFunc (.func f) #[] xs.toArray, ty, pos, af, g⟩ (.clo f τs) := .pure fun a W s =>
  ⟨.func (.func f) #[] (xs.map a.eval).toArray, by simp [execOp, Instr.makeFunc], _, rfl, hx.holds a W s⟩

/-- what a callee may do with entries of the caller's -/
structure Lent (A : List Nat) (W : World) (L : List Ent) : Prop where
  old : ∀ k ∈ A, k < W.heap.size ∧ k ∉ ks L
  nodup : (ks L).Nodup
  lt : ∀ k ∈ ks L, k < W.heap.size
  ok : ∀ e ∈ L, e.ok (ks L ++ A) W

/-- the value u is a yield: called with x it turns s to s' and says 'go on', or leaves with q and says 'no more' -/
def Yld (P : Program) (u : Value) {α σ ε γ : Type} (τ : α → VP) (Ls : σ → γ → List Ent) (Lx : ε → γ → List Ent) (step : α → σ → Option (σ ⊕ ε)) (R : List Nat → World → Prop) : Prop :=
  ∃ l, u = .func (.yield l) #[] #[] ∧ ∀ x s r, step x s = some r → ∀ g A W v, R (ks (Ls s g) ++ A) W → Lent A W (Ls s g) → (τ x).holds (ks (Ls s g) ++ A) W v →
    YieldAt Fence.wide 8 P l #[v] W (match r with
      | .inl s' => PostO (ks (Ls s g)) A W (fun _ : γ => VP.of true) (fun g => Ls s' g)
      | .inr q => PostO (ks (Ls s g)) A W (fun _ : γ => VP.of false) (fun g => Lx q g))

/-- the caller's entries behind a loop -/
def Lr {σ ε γ : Type} (Ls : σ → γ → List Ent) (Lx : ε → γ → List Ent) : σ ⊕ ε → γ → List Ent
  | .inl s, g => Ls s g
  | .inr q, g => Lx q g

/-- the function f is an iterator: called with a yield it does what 'run' says, the entries Lin being lent to it -/
structure MeetsI (P : Program) (f : FuncId) (τs : List VP) (Lin : List Ent) {α : Type} (τ : α → VP) (run : ∀ {σ ε : Type}, (α → σ → Option (σ ⊕ ε)) → σ → Option (σ ⊕ ε)) : Prop where
  go : ∀ {σ ε γ : Type} (Ls : σ → γ → List Ent) (Lx : ε → γ → List Ent) (step : α → σ → Option (σ ⊕ ε)) (s0 : σ) (g0 : γ) (r : σ ⊕ ε), run step s0 = some r →
    ∀ (A : List Nat) (W : World) (u : Value) (vs : List Value), Lent A W (Lin ++ Ls s0 g0) → HoldsAll (ks (Lin ++ Ls s0 g0) ++ A) W τs vs →
      Yld P u τ Ls Lx step (fun A' W' => Ext (ks (Lin ++ Ls s0 g0) ++ A) W A' W') →
      Calls P f (u :: vs).toArray W (PostO (ks (Lin ++ Ls s0 g0)) A W (fun _ : γ => .tup []) (fun g => Lin ++ Lr Ls Lx r g))

theorem MeetsI.of {P : Program} {f : FuncId} {fn : Func} {code : Code} {n : Nat} {τs : List VP} {Lin : List Ent} {α : Type} {τ : α → VP} {run : ∀ {σ ε : Type}, (α → σ → Option (σ ⊕ ε)) → σ → Option (σ ⊕ ε)}
    (hf : P.funcs[f]? = some fn) (hb : fn.body = some code) (hn : fn.ntmps = n) (hlen : Nat.ble (τs.length + 1) n = true)
    (h : ∀ {σ ε γ : Type} (Ls : σ → γ → List Ent) (Lx : ε → γ → List Ent) (step : α → σ → Option (σ ⊕ ε)) (s0 : σ) (g0 : γ) (r : σ ⊕ ε), run step s0 = some r →
      ∀ W A u, Yld P u τ Ls Lx step (fun A' W' => Ext (ks (Lin ++ Ls s0 g0) ++ A) W A' W') →
        Wp ⟨P, n, W, ks (Lin ++ Ls s0 g0), A, none, []⟩ (bodyPost P fn (PostO (ks (Lin ++ Ls s0 g0)) A W (fun _ : γ => .tup []) (fun g => Lin ++ Lr Ls Lx r g))) code (params 0 (.eq u :: τs)) (Lin ++ Ls s0 g0)) : MeetsI P f τs Lin τ run := by
  refine ⟨?_⟩
  intro σ ε γ Ls Lx step s0 g0 r hr A W u vs hl hv hy
  refine calls_of_wp hf hb (wpIn_wide.1 (h Ls Lx step s0 g0 r hr W A u hy _ _ ?_))
  have hv' : HoldsAll (ks (Lin ++ Ls s0 g0) ++ A) W (.eq u :: τs) (u :: vs) := .cons rfl hv
  have hl' := hv'.length
  have hle : τs.length + 1 ≤ n := Nat.le_of_ble_eq_true hlen
  exact
  { defers := rfl
    size := by simp at hl'; simp [hn, hl']; omega
    env := fun t τ hlk => by
      obtain ⟨_, v, h2, h3⟩ := look_params hv' 0 t τ hlk
      refine ⟨v, ?_, h3⟩
      have hlt : t < (u :: vs).length := (List.getElem?_eq_some_iff.1 h2).1
      rw [Array.getElem?_append_left (by simpa using hlt)]
      simpa using h2
    fr := .refl _ _
    own := hl.ok
    nodup := hl.nodup
    lt := hl.lt
    mine := fun k hk _ => hk
    old := hl.old }

section
variable {c : Cx} {E : List (Nat × VP)} {L : List Ent} {ops : Array Oper} {Q : Exit → Act → World → Prop}
variable {d : Option Tmp} {ty : TypeId} {pos : String} {af : Array Edge} {g : Option (Nat × Bool)} {x y : Operand} {t t2 : TypeId}

theorem St.sofar {a : Act} {W : World} (s : St c E L a W) : Ext (c.X ++ c.A0) c.W0 (ks L ++ c.A0) W :=
  ⟨s.fr.size, fun k hk ha => s.fr.block k hk fun hx => ha (List.mem_append.2 (.inl hx)), fun k hm hlt => by
    rcases List.mem_append.1 hm with hm | hm
    · exact List.mem_append.2 (.inl (s.mine k hm hlt))
    · exact List.mem_append.2 (.inr hm)⟩

theorem St.lent {a : Act} {W : World} {Lin Lr : List Ent} (s : St c E (Lin ++ Lr) a W) : Lent (ks Lr ++ c.A0) W Lin := by
  have hnd0 := s.nodup
  rw [ks_append] at hnd0
  obtain ⟨hn1, hn2, hn3⟩ := List.nodup_append.1 hnd0
  exact
  { old := fun k hm => by
      rcases List.mem_append.1 hm with hm | hm
      · exact ⟨s.lt k (by rw [ks_append]; exact List.mem_append.2 (.inr hm)), fun h => hn3 k h k hm rfl⟩
      · obtain ⟨h1, h2⟩ := s.old k hm
        exact ⟨h1, fun h => h2 (by rw [ks_append]; exact List.mem_append.2 (.inl h))⟩
    nodup := hn1
    lt := fun k hm => s.lt k (by rw [ks_append]; exact List.mem_append.2 (.inl hm))
    ok := fun e he => Ent.ok_mono (s.own e (List.mem_append.2 (.inl he))) (.drop fun k hm => by
      rw [ks_append]
      simp only [List.mem_append] at hm ⊢
      rcases hm with hm | hm | hm
      · exact .inl (.inl hm)
      · exact .inl (.inr hm)
      · exact .inr hm) fun _ _ => rfl }

theorem ks_swap {Lin Lr : List Ent} {A : List Nat} {W : World} : Ext (ks (Lin ++ Lr) ++ A) W (ks Lin ++ (ks Lr ++ A)) W := .drop fun k hm => by
  rw [ks_append]
  simp only [List.mem_append] at hm ⊢
  rcases hm with hm | hm | hm
  · exact .inl (.inl hm)
  · exact .inl (.inr hm)
  · exact .inr hm
theorem ks_swap' {Lin Lr : List Ent} {A : List Nat} {W : World} : Ext (ks Lin ++ (ks Lr ++ A)) W (ks (Lin ++ Lr) ++ A) W := .drop fun k hm => by
  rw [ks_append] at hm
  simp only [List.mem_append] at hm ⊢
  rcases hm with (hm | hm) | hm
  · exact .inl hm
  · exact .inr (.inl hm)
  · exact .inr (.inr hm)

/-- a round is asked for: yield is called -/
theorem Sq.yield {rest : List Oper} {dd tf : Nat} {ats : Array TypeId} {u : Value} {α σ ε γ : Type} {τ : α → VP} {Ls : σ → γ → List Ent} {Lx : ε → γ → List Ent} {step : α → σ → Option (σ ⊕ ε)} {Lin : List Ent} {x : Operand} {v : α} {s : σ} {gg : γ} {r : σ ⊕ ε}
    (hc : c.rd = none) (hy : Yld c.P u τ Ls Lx step (fun A' W' => Ext (c.X ++ c.A0) c.W0 A' W')) (hf : look E tf = some (.eq u)) (hx : Look c E (Lin ++ Ls s gg) x (τ v)) (hr : step v s = some r) (hn : Nat.blt dd c.n = true)
    (k1 : ∀ s', r = .inl s' → ∀ g', Sq c ops Q rest ((dd, .of true) :: E) (Lin ++ Ls s' g')) (k2 : ∀ q, r = .inr q → ∀ g', Sq c ops Q rest ((dd, .of false) :: E) (Lin ++ Lx q g')) :
    Sq c ops Q (⟨some dd, .call ⟨.value (.tmp tf), #[x], ats⟩, ty, pos, af, none⟩ :: rest) E (Lin ++ Ls s gg) := fun a W st => by
  obtain ⟨l, rfl, hy⟩ := hy
  obtain ⟨uf, h1, h2⟩ := st.env tf _ hf
  have hu : uf = .func (.yield l) #[] #[] := h2
  subst hu
  have st' : St c E (Ls s gg ++ Lin) a W := st.perm List.perm_append_comm
  have hv := hx a W st
  have hv' : (τ v).holds (ks (Ls s gg) ++ (ks Lin ++ c.A0)) W (a.eval x) := (τ v).mono (.drop fun k hm => by
    rw [ks_append]
    simp only [List.mem_append] at hm ⊢
    rcases hm with hm | hm | hm
    · exact .inl (.inr hm)
    · exact .inl (.inl hm)
    · exact .inr hm) hv
  obtain ⟨fn, tmps, assign, body, hrun, hR⟩ := hy v s r hr gg (ks Lin ++ c.A0) W (a.eval x) (st'.sofar.trans ks_swap) st'.lent hv'
  have hrun' : (execOp a.eval ⟨some dd, .call ⟨.value (.tmp tf), #[x], ats⟩, ty, pos, af, none⟩).run c.P W = .ok (.round l fn tmps assign body) W := by
    rw [← hrun]
    simp [execOp, resolve, Deferred.ofValue, Act.eval, h1, invoke, Sem.run_bind, Sem.run_pure, Result.andThen]
  refine wpListIn_plain rfl fun K hK => ?_
  refine ⟨fun _ _ => trivial, ?_⟩
  rw [Oper.semAt_eq _ _ _ (fun _ h => by cases h), hrun', Oper.uponIn_round]
  refine ⟨fun h => by simp at h, ?_⟩
  have hR' : RoundIn c.F (9 - 1) c.P l fn tmps assign body W _ := hR
  refine hR'.mono fun e W' he => ?_
  cases r with
  | inl s' =>
    obtain ⟨w, g', rfl, hf', h3, h4, h5, h6⟩ := he
    obtain rfl := of_bool.1 h6
    refine hK _ _ (k1 s' rfl g' _ _ ?_)
    exact (((st'.after hf' h3 h4 h5).perm List.perm_append_comm).put (by simpa using hn) (of_bool.2 rfl))
  | inr q =>
    obtain ⟨w, g', rfl, hf', h3, h4, h5, h6⟩ := he
    obtain rfl := of_bool.1 h6
    refine hK _ _ (k2 q rfl g' _ _ ?_)
    exact (((st'.after hf' h3 h4 h5).perm List.perm_append_comm).put (by simpa using hn) (of_bool.2 rfl))

/-- the same under a guard that holds -/
theorem Sq.yieldT {rest : List Oper} {dd tf j gt : Nat} {b : Bool} {ats : Array TypeId} {u : Value} {α σ ε γ : Type} {τ : α → VP} {Ls : σ → γ → List Ent} {Lx : ε → γ → List Ent} {step : α → σ → Option (σ ⊕ ε)} {Lin : List Ent} {x : Operand} {v : α} {s : σ} {gg : γ} {r : σ ⊕ ε}
    (hc : c.rd = none) (hy : Yld c.P u τ Ls Lx step (fun A' W' => Ext (c.X ++ c.A0) c.W0 A' W')) (hb : b = true) (hj : (ops[j]?).bind (·.dst) = some gt) (hl : look E gt = some (.of b)) (hf : look E tf = some (.cond (b = true) (.eq u))) (hx : Look c E (Lin ++ Ls s gg) x (τ v)) (hr : step v s = some r) (hn : Nat.blt dd c.n = true)
    (k1 : ∀ s', r = .inl s' → ∀ g', Sq c ops Q rest ((dd, .cond (b = true) (.of true)) :: E) (Lin ++ Ls s' g')) (k2 : ∀ q, r = .inr q → ∀ g', Sq c ops Q rest ((dd, .cond (b = true) (.of false)) :: E) (Lin ++ Lx q g')) :
    Sq c ops Q (⟨some dd, .call ⟨.value (.tmp tf), #[x], ats⟩, ty, pos, af, some (j, true)⟩ :: rest) E (Lin ++ Ls s gg) := fun a W st => by
  have hE : look ((tf, .eq u) :: E) tf = some (.eq u) := by simp [look, Nat.beq_refl]
  have st0 : St c ((tf, .eq u) :: E) (Lin ++ Ls s gg) a W := st.less fun t τ' h => by
    simp only [look] at h
    by_cases e : Nat.beq tf t = true
    · rw [e] at h
      simp only [cond_true, Option.some.injEq] at h
      subst h
      rw [← look_beq.1 e]
      exact ⟨_, hf, fun A W v hv => hv.1 hb⟩
    · simp only [Bool.not_eq_true] at e
      rw [e] at h
      exact ⟨_, h, fun _ _ _ h => h⟩
  have key := Sq.yield (c := c) (ops := ops) (Q := Q) (E := (tf, .eq u) :: E) (rest := rest) (ty := ty) (pos := pos) (af := af) (ats := ats) hc hy hE (fun a W s => hx a W (s.less fun t τ' h => by
    by_cases e : Nat.beq tf t = true
    · have := look_beq.1 e
      subst this
      rw [hf] at h
      cases h
      refine ⟨_, hE, fun A W v hv => ⟨fun _ => hv, fun h => absurd hb h⟩⟩
    · simp only [Bool.not_eq_true] at e
      exact ⟨τ', by simp only [look]; rw [e]; exact h, fun _ _ _ h => h⟩)) hr hn
    (fun s' e g' a W st => k1 s' e g' a W (st.less fun t τ' h => by
      simp only [look] at h ⊢
      by_cases e : Nat.beq dd t = true
      · rw [e] at h ⊢
        simp only [cond_true, Option.some.injEq] at h ⊢
        exact ⟨_, rfl, fun A W v hv => by subst h; exact ⟨fun _ => hv, fun h => absurd hb h⟩⟩
      · simp only [Bool.not_eq_true] at e
        rw [e] at h ⊢
        simp only [cond_false] at h ⊢
        by_cases e2 : Nat.beq tf t = true
        · have := look_beq.1 e2
          subst this
          rw [hf] at h
          cases h
          rw [e2]
          exact ⟨_, rfl, fun A W v hv => ⟨fun _ => hv, fun h => absurd hb h⟩⟩
        · simp only [Bool.not_eq_true] at e2
          rw [e2]
          exact ⟨τ', h, fun _ _ _ h => h⟩))
    (fun s' e g' a W st => k2 s' e g' a W (st.less fun t τ' h => by
      simp only [look] at h ⊢
      by_cases e : Nat.beq dd t = true
      · rw [e] at h ⊢
        simp only [cond_true, Option.some.injEq] at h ⊢
        exact ⟨_, rfl, fun A W v hv => by subst h; exact ⟨fun _ => hv, fun h => absurd hb h⟩⟩
      · simp only [Bool.not_eq_true] at e
        rw [e] at h ⊢
        simp only [cond_false] at h ⊢
        by_cases e2 : Nat.beq tf t = true
        · have := look_beq.1 e2
          subst this
          rw [hf] at h
          cases h
          rw [e2]
          exact ⟨_, rfl, fun A W v hv => ⟨fun _ => hv, fun h => absurd hb h⟩⟩
        · simp only [Bool.not_eq_true] at e2
          rw [e2]
          exact ⟨τ', h, fun _ _ _ h => h⟩))
  have := key a W st0
  unfold Cx.wpl wpListIn at this ⊢
  rw [if_pos (by simp [Region.wanted])] at this
  rw [if_pos (by simp [Region.wanted, yielded_of hj hl st, hb])]
  exact this

theorem Sq.eqL {l : List Oper} {L2 : List Ent} (h : L = L2) (k : Sq c ops Q l E L2) : Sq c ops Q l E L := by subst h; exact k

theorem Sq.cases {l : List Oper} (b : Bool) (h1 : b = true → Sq c ops Q l E L) (h2 : b = false → Sq c ops Q l E L) : Sq c ops Q l E L := by
  cases b
  · exact h2 rfl
  · exact h1 rfl
/-- a guard that does not hold -/
theorem Sq.skipG {o : Oper} {rest : List Oper} {dd j gt : Nat} {b : Bool} (τ : VP) (hb : b = false) (hg : o.guard = some (j, true)) (hd : o.dst = some dd) (hj : (ops[j]?).bind (·.dst) = some gt) (hl : look E gt = some (.of b)) (hn : Nat.blt dd c.n = true)
    (k : Sq c ops Q rest ((dd, .cond (b = true) τ) :: E) L) : Sq c ops Q (o :: rest) E L := fun a W s => by
  unfold Cx.wpl wpListIn
  rw [if_neg (by simp [Region.wanted, hg, yielded_of hj hl s, hb]), hd]
  exact ⟨fun _ _ => trivial, k _ _ (s.put (by simpa using hn) ⟨fun h => (by rw [hb] at h; cases h), fun _ => rfl⟩)⟩

theorem Wp.condT {x : Operand} {b : Bool} {y z : Code} (hl : Look c E L x (.of b)) (hb : b = true) (k : Wp c Q y E L) : Wp c Q (.cond x y z) E L := .cond hl (fun _ => k) fun h => by rw [hb] at h; cases h
theorem Wp.condF {x : Operand} {b : Bool} {y z : Code} (hl : Look c E L x (.of b)) (hb : b = false) (k : Wp c Q z E L) : Wp c Q (.cond x y z) E L := .cond hl (fun h => by rw [hb] at h; cases h) fun _ => k

/-! ### The loop over an iterator -/

def exitOf : Code → Exit
  | .ret => .ret
  | .exit id => .exit id
  | .goto t => .goto t
  | _ => .normal
def isJump : Code → Bool
  | .ret | .exit _ | .goto _ => true
  | _ => false

/-- how a round ends; l: the loop's record, D: the block for deferred calls -/
def RQ {σ ε γ : Type} (c : Cx) (js : ε → Code) (l D : Nat) (rec : Loop) (Ls : σ → γ → List Ent) (Lx : ε → γ → List Ent) : σ ⊕ ε → Exit → Act → World → Prop
  | .inl s', x, a, W => x = .normal ∧ ∃ g, St c [] (⟨some l, .is (.loop rec)⟩ :: ⟨some D, .dfr⟩ :: Ls s' g) a W
  | .inr q, x, a, W => isJump (js q) = true ∧ x = exitOf (js q) ∧ ∃ g, St c [] (⟨some l, .is (.loop rec)⟩ :: ⟨some D, .dfr⟩ :: Lx q g) a W

/-- behind the assignment to the loop's variable the round begins -/
def BR (c : Cx) (l : Nat) (body : Code) (Q : Exit → Act → World → Prop) (a : Act) (W : World) : Prop :=
  ∃ W2, (Instr.beginRound l).run c.P W = .ok () W2 ∧ c.wp body Q a W2

theorem To.begin {l : Nat} {body : Code} {Q' : Exit → Act → World → Prop} (i : Nat) {r : Loop} (hL : L[i]? = some ⟨some l, .is (.loop r)⟩) (hr : r.state = .ready)
    (k : Wp c Q body E (L.set i ⟨some l, .is (.loop { r with state := .busy })⟩)) : To c (Exit.then (BR c l body Q) Q') .normal E L := fun a W s => by
  obtain ⟨o, h1, h2⟩ := s.own _ (List.mem_of_getElem? hL)
  have h2' : o = .loop r := h2
  subst h2'
  exact ⟨_, run_beginRound h1 hr, k _ _ (s.turn hL rfl)⟩

theorem To.rnd {σ ε γ : Type} {js : ε → Code} {l D : Nat} {rec : Loop} {Ls : σ → γ → List Ent} {Lx : ε → γ → List Ent} {s' : σ} (g : γ) (n : Nat) (hL : L.drop n = ⟨some l, .is (.loop rec)⟩ :: ⟨some D, .dfr⟩ :: Ls s' g) :
    To c (RQ c js l D rec Ls Lx (.inl s')) .normal E L := fun a W s => ⟨rfl, g, by rw [← hL]; exact (s.dropL n).less (fun t τ h => by simp [look] at h)⟩
theorem To.rleave {σ ε γ : Type} {js : ε → Code} {l D : Nat} {rec : Loop} {Ls : σ → γ → List Ent} {Lx : ε → γ → List Ent} {q : ε} {x : Exit} (g : γ) (n : Nat) (hj : isJump (js q) = true) (hx : x = exitOf (js q)) (hL : L.drop n = ⟨some l, .is (.loop rec)⟩ :: ⟨some D, .dfr⟩ :: Lx q g) :
    To c (RQ c js l D rec Ls Lx (.inr q)) x E L := fun a W s => ⟨hj, hx, g, by rw [← hL]; exact (s.dropL n).less (fun t τ h => by simp [look] at h)⟩

theorem Wp.jump {j : Code} (hj : isJump j = true) (k : To c Q (exitOf j) E L) : Wp c Q j E L := by
  cases j <;> simp only [isJump] at hj <;> first | cases hj | skip
  all_goals first | exact .exit k | exact .ret k | exact fun a W s => wpIn_goto (k a W s)

theorem roundPost_jump {P : Program} {l : Nat} {R : Ending → World → Prop} {j : Code} {a : Act} {W W' : World} {v : Value} (hj : isJump j = true) (h6 : (Instr.endRound l (some j)).run P W = .ok v W') (hR : R (.returned v) W') :
    roundPost P l R (exitOf j) a W := by
  cases j <;> simp only [isJump] at hj <;> first | exact ⟨_, _, h6, hR⟩ | cases hj

theorem St.mark {a : Act} {W : World} (s : St c E L a W) (D : Nat) : St { c with ds := D :: c.ds } E L { a with defers := coll D :: a.defers } W :=
  { defers := by simp [s.defers], size := s.size, env := s.env, fr := s.fr, own := s.own, nodup := s.nodup, lt := s.lt, mine := s.mine, old := s.old }

theorem range_wp {gt p : Nat} {assign body : Code} {f : FuncId} {lbτ : List VP} {Lin : List Ent} {α σ ε γ : Type} {τ : α → VP} {run : ∀ {σ ε : Type}, (α → σ → Option (σ ⊕ ε)) → σ → Option (σ ⊕ ε)}
    {Ls : σ → γ → List Ent} {Lx : ε → γ → List Ent} {step : α → σ → Option (σ ⊕ ε)} {s0 : σ} {g0 : γ} {r : σ ⊕ ε} (js : ε → Code)
    (hc : c.rd = none) (en : En c.P f) (hg : look E gt = some (.clo f lbτ)) (hI : MeetsI c.P f lbτ Lin τ run) (hr : run step s0 = some r) (hL : L = Lin ++ Ls s0 g0) (hp : Nat.blt p c.n = true)
    (hround : ∀ x s r, step x s = some r → ∀ g (W0' : World) (X' A0' : List Nat) (l D : Nat) (rec : Loop), rec.state = .ready →
      Wp ⟨c.P, c.n, W0', X', A0', some l, []⟩ (Exit.then (BR ⟨c.P, c.n, W0', X', A0', some l, []⟩ l body (RQ ⟨c.P, c.n, W0', X', A0', some l, []⟩ js l D { rec with state := .busy } Ls Lx r)) (fun _ _ _ => False)) assign ((p, τ x) :: E) (⟨some l, .is (.loop rec)⟩ :: ⟨some D, .dfr⟩ :: Ls s g))
    (hdone : ∀ s', r = .inl s' → ∀ g D, To { c with ds := D :: c.ds } Q .normal E (⟨some D, .dfr⟩ :: (Lin ++ Ls s' g)))
    (hstop : ∀ q, r = .inr q → ∀ g D, Wp { c with ds := D :: c.ds } Q (js q) E (⟨some D, .dfr⟩ :: (Lin ++ Lx q g))) :
    Wp c Q (.rangeFunc (.tmp gt) #[p] assign body) E L := fun a W st => by
  subst hL
  refine wpIn_rangeFunc fun fn hfn => ?_
  show ∃ l mark w₁ d w₁' f' args w₂, (Instr.enterLoop fn a.tmps #[p] assign body c.rd).run c.P W = _ ∧ _
  rw [hc]
  obtain ⟨rec, hrec⟩ : ∃ rec : Loop, rec = { state := .ready, pending := none, fn, tmps := a.tmps, params := #[p], assign, body, defers := W.heap.size } := ⟨_, rfl⟩
  obtain ⟨v, hv1, lb, hv2, hlb⟩ := st.env gt _ hg
  -- the two blocks of book-keeping
  obtain ⟨W1, hW1⟩ : ∃ W1, (W.alloc (.deferred (some []))).alloc (.loop rec) = W1 := ⟨_, rfl⟩
  have s1 := (st.alloc (o := .deferred (some [])) (cp := .dfr) rfl).alloc (o := .loop rec) (cp := .is (.loop rec)) rfl
  rw [hW1, World.size_alloc] at s1
  obtain ⟨D, hD⟩ : ∃ D, D = W.heap.size := ⟨_, rfl⟩
  obtain ⟨l, hl⟩ : ∃ l, l = W.heap.size + 1 := ⟨_, rfl⟩
  have hen := run_enterLoop_outer (P := c.P) (w := W) fn a.tmps #[p] assign body
  rw [← hrec, hW1, ← hl, ← hD] at hen
  rw [← hl, ← hD] at s1
  -- the state that the iterator is handed
  obtain ⟨Ls', hLs⟩ : ∃ Ls' : σ → γ → List Ent, Ls' = fun s g => ⟨some l, .is (.loop rec)⟩ :: ⟨some D, .dfr⟩ :: Ls s g := ⟨_, rfl⟩
  obtain ⟨Lx', hLx⟩ : ∃ Lx' : ε → γ → List Ent, Lx' = fun q g => ⟨some l, .is (.loop { rec with state := .done, pending := some (js q) })⟩ :: ⟨some D, .dfr⟩ :: Lx q g := ⟨_, rfl⟩
  have s2 : St c E (Lin ++ Ls' s0 g0) a W1 := s1.perm (by
    rw [hLs]
    exact (List.perm_middle.trans (List.perm_middle.cons _)).symm)
  have hvs : HoldsAll (ks (Lin ++ Ls' s0 g0) ++ c.A0) W1 lbτ lb := by
    have h1 : (VP.clo f lbτ).holds (ks (Lin ++ Ls' s0 g0) ++ c.A0) W1 v := by
      obtain ⟨v', h1, h2⟩ := s2.env gt _ hg
      rw [hv1] at h1
      cases h1
      exact h2
    obtain ⟨lb', e1, e2⟩ := h1
    rw [hv2] at e1
    have : lb' = lb := by injection e1 with _ _ e1; injection e1 with e1; exact e1.symm
    rw [← this]; exact e2
  have s2' : St c E ((Lin ++ Ls' s0 g0) ++ []) a W1 := by rw [List.append_nil]; exact s2
  have hlent := s2'.lent
  simp only [ks, List.nil_append] at hlent
  have hyld : Yld c.P (.func (.yield l) #[] #[]) τ Ls' Lx' step (fun A' W' => Ext (ks (Lin ++ Ls' s0 g0) ++ c.A0) W1 A' W') := by
    refine ⟨l, rfl, fun x s r' hs g A W2 v2 hext hle hv => ?_⟩
    have hle' := hle
    rw [hLs] at hle'
    obtain ⟨o, ho1, ho2⟩ := hle'.ok ⟨some l, .is (.loop rec)⟩ (by simp)
    have ho2' : o = .loop rec := ho2
    subst ho2'
    have hy := run_yield (P := c.P) (args := #[v2]) ho1 (by rw [hrec]; rfl)
    refine ⟨_, _, _, _, hy, roundIn_of_wpIn trivial ?_⟩
    have e1 : rec.assign = assign := by rw [hrec]
    have e2 : rec.body = body := by rw [hrec]
    have e3 : rec.params = #[p] := by rw [hrec]
    have e4 : rec.tmps = a.tmps := by rw [hrec]
    rw [e1, e2, e3, e4]
    refine wpIn_room (n := 9) rfl ?_
    have hfold : ((#[p] : Array Tmp).zip #[v2]).foldl (fun tmps (t, a) => tmps.setIfInBounds t a) a.tmps = a.tmps.setIfInBounds p v2 := by simp
    rw [hfold]
    subst hLs hLx
    refine wpIn_mono ((hround x s r' hs g W2 (ks (⟨some l, .is (.loop rec)⟩ :: ⟨some D, .dfr⟩ :: Ls s g)) A l D rec (by rw [hrec])) { tmps := a.tmps.setIfInBounds p v2, defers := [] } W2 ?_) ?_
    · have hpn : p < c.n := by simpa using hp
      exact
      { defers := rfl
        size := by simp [s2.size]
        env := fun t τ' hlk => by
          simp only [look] at hlk
          by_cases e : Nat.beq p t = true
          · rw [e] at hlk
            simp only [cond_true, Option.some.injEq] at hlk
            subst hlk
            have := look_beq.1 e
            subst this
            exact ⟨v2, by simp [s2.size, hpn], hv⟩
          · simp only [Bool.not_eq_true] at e
            rw [e] at hlk
            simp only [cond_false] at hlk
            obtain ⟨u, h1, h2⟩ := s2.env t τ' hlk
            have hne : p ≠ t := fun h => by rw [look_beq.2 h] at e; cases e
            exact ⟨u, by rw [Array.getElem?_setIfInBounds_ne hne]; exact h1, τ'.mono hext h2⟩
        fr := .refl _ _
        own := hle.ok
        nodup := hle.nodup
        lt := hle.lt
        mine := fun k hk _ => hk
        old := hle.old }
    · intro e a3 W3 hq
      cases e with
      | normal =>
        obtain ⟨W4, hbr, hb⟩ := hq
        refine ⟨W4, hbr, wpIn_room (n := 9) rfl (wpIn_mono hb ?_)⟩
        intro e a5 W5 hq5
        -- the end of the round
        have fin : ∀ (jump : Option Code) {Lr : List Ent}, St ⟨c.P, c.n, W2, ks (⟨some l, .is (.loop rec)⟩ :: ⟨some D, .dfr⟩ :: Ls s g), A, some l, []⟩ [] (⟨some l, .is (.loop { rec with state := .busy })⟩ :: ⟨some D, .dfr⟩ :: Lr) a5 W5 →
            ∃ W6, (Instr.endRound l jump).run c.P W5 = .ok (.bool jump.isNone) W6 ∧ St ⟨c.P, c.n, W2, ks (⟨some l, .is (.loop rec)⟩ :: ⟨some D, .dfr⟩ :: Ls s g), A, some l, []⟩ [] (⟨some l, .is (.loop { rec with state := if jump.isNone then .ready else .done, pending := jump })⟩ :: ⟨some D, .dfr⟩ :: Lr) a5 W6 := fun jump Lr s5 => by
          obtain ⟨o, h1, h2⟩ := s5.own ⟨some l, .is (.loop { rec with state := .busy })⟩ (by simp)
          have h2' : o = .loop { rec with state := .busy } := h2
          subst h2'
          exact ⟨_, run_endRound jump h1, s5.turn (i := 0) rfl rfl⟩
        cases r' with
        | inl s' =>
          obtain ⟨rfl, g', s5⟩ := hq5
          obtain ⟨W6, h6, s6⟩ := fin none s5
          refine ⟨_, W6, h6, ?_⟩
          have hrr : ({ rec with state := if (none : Option Code).isNone then .ready else .done, pending := none } : Loop) = rec := by rw [hrec]; rfl
          rw [hrr] at s6
          exact s6.ends (ρ := fun _ : γ => VP.of true) (Lo := fun g => ⟨some l, .is (.loop rec)⟩ :: ⟨some D, .dfr⟩ :: Ls s' g) g' (List.Sublist.refl _) (of_bool.2 rfl)
        | inr q =>
          obtain ⟨hj, rfl, g', s5⟩ := hq5
          obtain ⟨W6, h6, s6⟩ := fin (some (js q)) s5
          have key : PostO (ks (⟨some l, .is (.loop rec)⟩ :: ⟨some D, .dfr⟩ :: Ls s g)) A W2 (fun _ : γ => VP.of false) (fun g => ⟨some l, .is (.loop { rec with state := .done, pending := some (js q) })⟩ :: ⟨some D, .dfr⟩ :: Lx q g) (.returned (.bool false)) W6 :=
            s6.ends (ρ := fun _ : γ => VP.of false) (Lo := fun g => ⟨some l, .is (.loop { rec with state := .done, pending := some (js q) })⟩ :: ⟨some D, .dfr⟩ :: Lx q g) g' (List.Sublist.refl _) (of_bool.2 rfl)
          exact roundPost_jump hj h6 key
      | exit id => exact hq.elim
      | goto t => exact hq.elim
      | ret => exact hq.elim
      | panic ch => exact hq.elim
      | outgrown => exact hq.elim
  have hcall := hI.go Ls' Lx' step s0 g0 r hr c.A0 W1 (.func (.yield l) #[] #[]) lb hlent hvs hyld
  have hcl : a.eval (.tmp gt) = .func (.func f) #[] lb.toArray := by simp [Act.eval, hv1, hv2]
  refine ⟨l, [coll D], W1, { target := .fn (.func f) lb.toArray, args := #[.func (.yield l) #[] #[]] }, W1, f, #[.func (.yield l) #[] #[]] ++ lb.toArray, W1, hen, ?_, fun _ _ => trivial, ?_, fun h => by simp at h, ?_⟩
  · simp only [resolve, hcl]
    simp [go_sem]
  · simp [invoke, go_sem, en.run]
  · refine CallsIn.ofCalls ?_
    have hargs : (#[.func (.yield l) #[] #[]] ++ lb.toArray : Array Value) = (.func (.yield l) #[] #[] :: lb).toArray := by simp
    rw [hargs]
    refine hcall.mono fun e W7 ⟨v7, g', he, hf, h3, h4, h5, h6⟩ => ?_
    subst he
    have s7 := s2'.after hf h3 (by simpa [ks] using h4) (by simpa [ks] using h5)
    rw [List.append_nil] at s7
    cases r with
    | inl s' =>
      simp only [Lr] at s7
      subst hLs
      have s8 : St c E (⟨some l, .is (.loop rec)⟩ :: ⟨some D, .dfr⟩ :: (Lin ++ Ls s' g')) a W7 := s7.perm (by
        exact List.perm_middle.trans (List.perm_middle.cons _))
      obtain ⟨o, ho1, ho2⟩ := s8.own ⟨some l, .is (.loop rec)⟩ (by simp)
      have ho2' : o = .loop rec := ho2
      subst ho2'
      have hend := run_endLoop (P := c.P) ho1 (by rw [hrec]; simp)
      have hpn : rec.pending = none := by rw [hrec]
      rw [hpn] at hend
      refine ⟨none, _, hend, ?_⟩
      have s9 := (s8.turn (i := 0) (cp' := .is (.loop { rec with state := .exhausted })) (o' := .loop { rec with state := .exhausted }) rfl rfl).dropL 1
      rw [hpn] at s9
      exact hdone s' rfl g' D _ _ (s9.mark D)
    | inr q =>
      simp only [Lr] at s7
      subst hLx
      have s8 : St c E (⟨some l, .is (.loop { rec with state := .done, pending := some (js q) })⟩ :: ⟨some D, .dfr⟩ :: (Lin ++ Lx q g')) a W7 := s7.perm (by
        exact List.perm_middle.trans (List.perm_middle.cons _))
      obtain ⟨o, ho1, ho2⟩ := s8.own ⟨some l, .is (.loop { rec with state := .done, pending := some (js q) })⟩ (by simp)
      have ho2' : o = .loop { rec with state := .done, pending := some (js q) } := ho2
      subst ho2'
      have hend := run_endLoop (P := c.P) ho1 (by simp)
      refine ⟨some (js q), _, hend, ?_⟩
      have s9 := (s8.turn (i := 0) (cp' := .is (.loop { rec with state := .exhausted, pending := some (js q) })) (o' := .loop { rec with state := .exhausted, pending := some (js q) }) rfl rfl).dropL 1
      exact hstop q rfl g' D _ _ (s9.mark D)

/-! ### The end of a function that holds such loops -/

theorem bodyPostM_of {P : Program} {fn : Func} {R : Ending → World → Prop} {a : Act} {W : World} (h : bodyPost P fn R .ret a W) : bodyPostM Fence.wide 9 P fn R .ret a W := by
  obtain ⟨h1, v, h2, h3⟩ := h
  show LeavesInM Fence.wide 9 P fn a.tmps R a.defers .returning W
  rw [h1]
  exact ⟨v, h2, h3⟩

theorem To.endn {P : Program} {fn : Func} {R : Ending → World → Prop} (k : To c (bodyPost P fn R) .ret E L) : To c (bodyPost P fn R) .normal E L := fun a W s => k a W s

/-- no loop has been on this way -/
theorem To.endM {fn : Func} {R : Ending → World → Prop} (k : To c (bodyPost c.P fn R) .ret E L) : To c (bodyPostM Fence.wide 9 c.P fn R) .ret E L := fun a W s => bodyPostM_of (k a W s)

/-- one loop has been on this way -/
theorem To.endD {fn : Func} {R : Ending → World → Prop} {D : Nat} (i : Nat) (hL : L[i]? = some ⟨some D, .dfr⟩) (hds : c.ds = [D]) (k : To { c with ds := [] } (bodyPost c.P fn R) .ret E (L.set i ⟨some D, .is (.deferred none)⟩)) :
    To c (bodyPostM Fence.wide 9 c.P fn R) .ret E L := fun a W s => by
  obtain ⟨o, h1, h2⟩ := s.own _ (List.mem_of_getElem? hL)
  have h2' : o = .deferred (some []) := h2
  subst h2'
  have s2 := s.turn hL (cp' := .is (.deferred none)) (o' := .deferred none) rfl
  have s3 : St { c with ds := [] } E (L.set i ⟨some D, .is (.deferred none)⟩) { a with defers := [] } (W.putObj D (.deferred none)) :=
    { defers := rfl, size := s2.size, env := s2.env, fr := s2.fr, own := s2.own, nodup := s2.nodup, lt := s2.lt, mine := s2.mine, old := s2.old }
  obtain ⟨_, v, h3, h4⟩ := k _ _ s3
  show LeavesInM Fence.wide 9 c.P fn a.tmps R a.defers .returning W
  rw [s.defers, hds]
  exact ⟨by simp, .inl ⟨D, _, rfl, run_takeDeferred h1, v, h3, h4⟩⟩
end

theorem Meets.enterM {P : Program} {f : FuncId} {fn : Func} {code : Code} {n : Nat} {τs : List VP} {ρ : VP} (hf : P.funcs[f]? = some fn) (hb : fn.body = some code) (hn : fn.ntmps = n) (hlen : Nat.ble τs.length n = true)
    (h : ∀ W A, Wp ⟨P, n, W, [], A, none, []⟩ (bodyPostM Fence.wide 9 P fn fun e W' => ∃ v, e = .returned v ∧ Fr [] W W' ∧ ρ.holds A W' v) code (params 0 τs) []) : Meets P f τs ρ := by
  intro A W vs hA hv
  refine (callsIn_wide (n := 9)).1 (callsIn_of_wp_marks hf hb trivial (h W A _ _ ?_))
  have hl := hv.length
  have hle : τs.length ≤ n := Nat.le_of_ble_eq_true hlen
  exact
  { defers := rfl
    size := by simp [hn, hl]; omega
    env := fun t τ hl' => by
      obtain ⟨_, v, h2, h3⟩ := look_params hv 0 t τ hl'
      refine ⟨v, ?_, h3⟩
      have hlt : t < vs.length := (List.getElem?_eq_some_iff.1 h2).1
      rw [Array.getElem?_append_left (by simpa using hlt)]
      simpa using h2
    fr := .refl _ _
    own := by simp
    nodup := by simp [ks]
    lt := by simp [ks]
    mine := by simp [ks]
    old := fun k hk => ⟨hA k hk, by simp [ks]⟩ }

theorem Meets.ofM {P : Program} {f : FuncId} {fn : Func} {code : Code} {n : Nat} {τs : List VP} {ρ : VP} (hf : P.funcs[f]? = some fn) (hb : fn.body = some code) (hn : fn.ntmps = n) (hlen : Nat.ble τs.length n = true)
    (h : ∀ W A, Wp ⟨P, n, W, [], A, none, []⟩ (bodyPostM Fence.wide 9 P fn (Post ⟨P, n, W, [], A, none, []⟩ ρ)) code (params 0 τs) []) : Meets P f τs ρ := Meets.enterM hf hb hn hlen h

theorem MeetsO.ofM {P : Program} {f : FuncId} {fn : Func} {code : Code} {n : Nat} {τs : List VP} {Lin : List Ent} {δ : Type} {ρ : δ → VP} {Lo : δ → List Ent} (hf : P.funcs[f]? = some fn) (hb : fn.body = some code) (hn : fn.ntmps = n) (hlen : Nat.ble τs.length n = true)
    (h : ∀ W A, Wp ⟨P, n, W, ks Lin, A, none, []⟩ (bodyPostM Fence.wide 9 P fn (PostO (ks Lin) A W ρ Lo)) code (params 0 τs) Lin) : MeetsO P f τs Lin ρ Lo := by
  intro A W vs hA hnd hlt hok hv
  refine (callsIn_wide (n := 9)).1 (callsIn_of_wp_marks hf hb trivial (h W A _ _ ?_))
  have hl := hv.length
  have hle : τs.length ≤ n := Nat.le_of_ble_eq_true hlen
  exact
  { defers := rfl
    size := by simp [hn, hl]; omega
    env := fun t τ hl' => by
      obtain ⟨_, v, h2, h3⟩ := look_params hv 0 t τ hl'
      refine ⟨v, ?_, h3⟩
      have hlt : t < vs.length := (List.getElem?_eq_some_iff.1 h2).1
      rw [Array.getElem?_append_left (by simpa using hlt)]
      simpa using h2
    fr := .refl _ _
    own := hok
    nodup := hnd
    lt := hlt
    mine := fun k hk _ => hk
    old := hA }
end Gv
