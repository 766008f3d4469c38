/-
  The library of the decompiler, part O: calls that take over slices of the caller's own and hand back slices of their own; elements of own slices; closures. Conditions: none; it is about whatever program.
-/
import Derived.Test.YtodajdohokmjnaaGvK
namespace Gv
open Go
set_option linter.unusedVariables false
set_option linter.unusedSimpArgs false

theorem ks_sublist {L' L : List Ent} (h : L'.Sublist L) : (ks L').Sublist (ks L) := by
  induction h with
  | slnil => simp [ks]
  | cons e _ ih => cases hk : e.key <;> simp only [ks, hk] <;> first | exact ih | exact ih.cons _
  | cons_cons e _ ih => cases hk : e.key <;> simp only [ks, hk] <;> first | exact ih | exact ih.cons_cons _

theorem Ent.ok_mono {e : Ent} {A A' W W'} (h : e.ok A W) (x : Ext A W A' W') (hb : ∀ p, e.key = some p → W'.heap[p]? = W.heap[p]?) : e.ok A' W' := by
  unfold Ent.ok at *
  cases hk : e.key with
  | none => rw [hk] at h; exact h
  | some p =>
    rw [hk] at h
    obtain ⟨o, h1, h2⟩ := h
    exact ⟨o, by rw [hb p hk]; exact h1, CP.mono _ x h2⟩

/-- what a call leaves behind that hands back blocks of its own -/
def PostO (X A0 : List Nat) (W0 : World) {δ : Type} (ρ : δ → VP) (Lo : δ → List Ent) : Ending → World → Prop := fun e W' =>
  ∃ v d, e = .returned v ∧ Fr X W0 W' ∧ (ks (Lo d)).Nodup ∧ (∀ k ∈ ks (Lo d), k < W'.heap.size ∧ (k < W0.heap.size → k ∈ X) ∧ k ∉ A0) ∧ (∀ e ∈ Lo d, e.ok (ks (Lo d) ++ A0) W') ∧ (ρ d).holds (ks (Lo d) ++ A0) W' v

/-- the function f, called with values that are as τs say and with the blocks of Lin, hands back a value as ρ says and the blocks of Lo -/
def MeetsO (P : Program) (f : FuncId) (τs : List VP) (Lin : List Ent) {δ : Type} (ρ : δ → VP) (Lo : δ → List Ent) : Prop :=
  ∀ (A : List Nat) (W : World) (vs : List Value), (∀ k ∈ A, k < W.heap.size ∧ k ∉ ks Lin) → (ks Lin).Nodup → (∀ k ∈ ks Lin, k < W.heap.size) → (∀ e ∈ Lin, e.ok (ks Lin ++ A) W) → HoldsAll (ks Lin ++ A) W τs vs →
    Calls P f vs.toArray W (PostO (ks Lin) A W ρ Lo)

theorem MeetsO.of {P : Program} {f : FuncId} {fn : Func} {code : Code} {n : Nat} {τs : List VP} {Lin : List Ent} {δ : Type} {ρ : δ → VP} {Lo : δ → List Ent} (hf : P.funcs[f]? = some fn) (hb : fn.body = some code) (hn : fn.ntmps = n) (hlen : Nat.ble τs.length n = true)
    (h : ∀ W A, Wp ⟨P, n, W, ks Lin, A, none, []⟩ (bodyPost P fn (PostO (ks Lin) A W ρ Lo)) code (params 0 τs) Lin) : MeetsO P f τs Lin ρ Lo := by
  intro A W vs hA hnd hlt hok hv
  refine calls_of_wp hf hb (wpIn_wide.1 (h W A _ _ ?_))
  have hl := hv.length
  have hle : τs.length ≤ n := Nat.le_of_ble_eq_true hlen
  exact
  { defers := rfl
    size := by simp [hn, hl]; omega
    env := fun t τ hl' => by
      obtain ⟨_, v, h2, h3⟩ := look_params hv 0 t τ hl'
      refine ⟨v, ?_, h3⟩
      have hlt : t < vs.length := (List.getElem?_eq_some_iff.1 h2).1
      rw [Array.getElem?_append_left (by simpa using hlt)]
      simpa using h2
    fr := .refl _ _
    own := hok
    nodup := hnd
    lt := hlt
    mine := fun k hk _ => hk
    old := hA }

section
variable {c : Cx} {E : List (Nat × VP)} {L : List Ent} {ops : Array Oper} {Q : Exit → Act → World → Prop}
variable {d : Option Tmp} {ty : TypeId} {pos : String} {af : Array Edge} {g : Option (Nat × Bool)} {x y : Operand} {t t2 : TypeId}

/-- the result that a slot or a variable holds -/
def RVO (c : Cx) (E : List (Nat × VP)) (L : List Ent) (r : ResultVar) (τ : VP) : Prop :=
  ∀ a W, St c E L a W → ∃ v, (resOne a.tmps r).run c.P W = .ok v W ∧ τ.holds (ks L ++ c.A0) W v

theorem rvo_t {t : Nat} {τ : VP} (h : look E t = some τ) : RVO c E L (.tmp t) τ := fun a W s => by
  obtain ⟨v, h1, h2⟩ := s.env t τ h
  exact ⟨v, by simp [resOne, h1], h2⟩
theorem rvo_c {t : Nat} {ty : TypeId} {i p : Nat} {α : Type} [Rp α] {x : α} (tt : Ty c.P ty α) (h : look E t = some (.eq (.pointer (some ⟨p, 0, none⟩)))) (hL : L[i]? = some ⟨some p, .var x⟩) : RVO c E L (.cell t ty) (.of x) := fun a W s => by
  obtain ⟨v, h1, h2⟩ := s.env t _ h
  subst h2
  obtain ⟨ob, hob, cs, T, rfl, hrep⟩ := s.own _ (List.mem_of_getElem? hL)
  have hl : cs.toList.length = Rp.size α := Rp.len hrep
  have hsz : cs.size = Rp.size α := by simpa using hl
  obtain ⟨v, h3, h4⟩ := run_loadVar_at (A := ks L ++ c.A0) (off := 0) tt hob (by omega) (by rw [List.drop_zero, ← hl, List.take_length]; exact hrep)
  exact ⟨v, by simp [resOne, h1, asAddr, h3], h4⟩

theorem St.ends {a : Act} {W : World} (s : St c E L a W) {δ : Type} {ρ : δ → VP} {Lo : δ → List Ent} (dd : δ) (hs : (Lo dd).Sublist L) {v : Value} (hv : (ρ dd).holds (ks L ++ c.A0) W v) : PostO c.X c.A0 c.W0 ρ Lo (.returned v) W := by
  have hsub := ks_sublist hs
  have hk : ∀ k ∈ ks (Lo dd), k ∈ ks L := fun k hk => hsub.subset hk
  have hext : Ext (ks L ++ c.A0) W (ks (Lo dd) ++ c.A0) W := .drop fun k hm => by
    rcases List.mem_append.1 hm with hm | hm
    · exact List.mem_append.2 (.inl (hk k hm))
    · exact List.mem_append.2 (.inr hm)
  exact ⟨v, dd, rfl, s.fr, s.nodup.sublist hsub, fun k hm => ⟨s.lt k (hk k hm), s.mine k (hk k hm), fun ha => (s.old k ha).2 (hk k hm)⟩,
    fun e he => Ent.ok_mono (s.own e (hs.subset he)) hext fun _ _ => rfl, VP.mono _ hext hv⟩

theorem To.endO1 {fn : Func} {r : ResultVar} {τ : VP} {δ : Type} {ρ : δ → VP} {Lo : δ → List Ent} (dd : δ) (hs : (Lo dd).Sublist L) (hr : fn.results = #[r]) (hρ : ρ dd = τ) (h : RVO c E L r τ) (hds : c.ds = [] := by rfl) : To c (bodyPost c.P fn (PostO c.X c.A0 c.W0 ρ Lo)) .ret E L := fun a W s => by
  subst hρ
  obtain ⟨v, h1, h2⟩ := h a W s
  exact ⟨s.nodefers hds, v, by simp [results_eq, hr, h1], s.ends dd hs h2⟩
theorem To.endO2 {fn : Func} {r r2 : ResultVar} {τ τ2 : VP} {δ : Type} {ρ : δ → VP} {Lo : δ → List Ent} (dd : δ) (hs : (Lo dd).Sublist L) (hr : fn.results = #[r, r2]) (hρ : ρ dd = .tup [τ, τ2]) (h : RVO c E L r τ) (h2 : RVO c E L r2 τ2) (hds : c.ds = [] := by rfl) : To c (bodyPost c.P fn (PostO c.X c.A0 c.W0 ρ Lo)) .ret E L := fun a W s => by
  obtain ⟨v, h3, h4⟩ := h a W s
  obtain ⟨v2, h5, h6⟩ := h2 a W s
  exact ⟨s.nodefers hds, .tuple #[v, v2], by simp [results_eq, hr, h3, h5], s.ends dd hs (by rw [hρ]; exact ⟨_, rfl, .cons h4 (.cons h6 .nil)⟩)⟩
theorem To.endO3 {fn : Func} {r r2 r3 : ResultVar} {τ τ2 τ3 : VP} {δ : Type} {ρ : δ → VP} {Lo : δ → List Ent} (dd : δ) (hs : (Lo dd).Sublist L) (hr : fn.results = #[r, r2, r3]) (hρ : ρ dd = .tup [τ, τ2, τ3]) (h : RVO c E L r τ) (h2 : RVO c E L r2 τ2) (h3 : RVO c E L r3 τ3) (hds : c.ds = [] := by rfl) : To c (bodyPost c.P fn (PostO c.X c.A0 c.W0 ρ Lo)) .ret E L := fun a W s => by
  obtain ⟨v, e1, f1⟩ := h a W s
  obtain ⟨v2, e2, f2⟩ := h2 a W s
  obtain ⟨v3, e3, f3⟩ := h3 a W s
  exact ⟨s.nodefers hds, .tuple #[v, v2, v3], by simp [results_eq, hr, e1, e2, e3], s.ends dd hs (by rw [hρ]; exact ⟨_, rfl, .cons f1 (.cons f2 (.cons f3 .nil))⟩)⟩

/-! ### A call that takes over own blocks -/

theorem bring_perm : ∀ {L : List Ent} {i : Nat} {e : Ent}, L[i]? = some e → L.Perm (e :: L.eraseIdx i)
  | [], i, e, h => by simp at h
  | x :: r, 0, e, h => by simp only [List.getElem?_cons_zero, Option.some.injEq] at h; subst h; exact .refl _
  | x :: r, i + 1, e, h => by
    simp only [List.getElem?_cons_succ] at h
    exact ((bring_perm h).cons x).trans (.swap e x _)
theorem St.bring {a : Act} {W : World} (s : St c E L a W) {i : Nat} {e : Ent} (h : L[i]? = some e) : St c E (e :: L.eraseIdx i) a W := s.perm (bring_perm h)
theorem Sq.bring {l : List Oper} (i : Nat) {e : Ent} (h : L[i]? = some e) (k : Sq c ops Q l E (e :: L.eraseIdx i)) : Sq c ops Q l E L := fun a W s => k a W (s.bring h)
theorem To.bring {z : Exit} (i : Nat) {e : Ent} (h : L[i]? = some e) (k : To c Q z E (e :: L.eraseIdx i)) : To c Q z E L := fun a W s => k a W (s.bring h)

theorem St.after {a : Act} {W W' : World} {Lin Lr : List Ent} (s : St c E (Lin ++ Lr) a W) {Lo : List Ent} (hf : Fr (ks Lin) W W') (hnd : (ks Lo).Nodup)
    (hk : ∀ k ∈ ks Lo, k < W'.heap.size ∧ (k < W.heap.size → k ∈ ks Lin) ∧ k ∉ ks Lr ++ c.A0) (hok : ∀ e ∈ Lo, e.ok (ks Lo ++ (ks Lr ++ c.A0)) W') : St c E (Lo ++ Lr) a W' := by
  have hext : Ext (ks (Lin ++ Lr) ++ c.A0) W (ks (Lo ++ Lr) ++ c.A0) W' :=
    ⟨hf.size, fun k hlt ha => hf.block k hlt fun hm => ha (by rw [ks_append]; simp [hm]), fun k hm hlt => by
      rw [ks_append] at hm ⊢
      simp only [List.mem_append] at hm ⊢
      rcases hm with (hm | hm) | hm
      · exact .inl (.inl ((hk k hm).2.1 hlt))
      · exact .inl (.inr hm)
      · exact .inr hm⟩
  have hnd0 := s.nodup
  rw [ks_append] at hnd0
  obtain ⟨hn1, hn2, hn3⟩ := List.nodup_append.1 hnd0
  have hlr : ∀ k ∈ ks Lr, k < W.heap.size ∧ k ∉ ks Lin := fun k hm => ⟨s.lt k (by rw [ks_append]; exact List.mem_append.2 (.inr hm)), fun h => hn3 k h k hm rfl⟩
  exact
  { defers := s.defers
    size := s.size
    env := fun t τ hl => let ⟨v, h1, h2⟩ := s.env t τ hl; ⟨v, h1, τ.mono hext h2⟩
    fr := ⟨hf.os.trans s.fr.os, hf.tape.trans s.fr.tape, hf.output.trans s.fr.output, Nat.le_trans s.fr.size hf.size, fun k hlt hx =>
      (hf.block k (Nat.lt_of_lt_of_le hlt s.fr.size) fun hm => hx (s.mine k (by rw [ks_append]; exact List.mem_append.2 (.inl hm)) hlt)).trans (s.fr.block k hlt hx)⟩
    own := fun e he => by
      rcases List.mem_append.1 he with he | he
      · have := hok e he
        refine Ent.ok_mono this (.drop fun k hm => ?_) fun _ _ => rfl
        rw [ks_append] at hm
        simp only [List.mem_append] at hm ⊢
        rcases hm with (hm | hm) | hm
        · exact .inl hm
        · exact .inr (.inl hm)
        · exact .inr (.inr hm)
      · exact Ent.ok_mono (s.own e (List.mem_append.2 (.inr he))) hext fun p hp => by
          have := hlr p (mem_ks.2 ⟨e, he, hp⟩)
          exact hf.block p this.1 this.2
    nodup := by
      rw [ks_append]
      exact List.nodup_append.2 ⟨hnd, hn2, fun k h1 j h2 e => by subst e; exact (hk k h1).2.2 (List.mem_append.2 (.inl h2))⟩
    lt := fun k hm => by
      rw [ks_append] at hm
      rcases List.mem_append.1 hm with hm | hm
      · exact (hk k hm).1
      · exact Nat.lt_of_lt_of_le (hlr k hm).1 hf.size
    mine := fun k hm h0 => by
      rw [ks_append] at hm
      have hlt : k < W.heap.size := Nat.lt_of_lt_of_le h0 s.fr.size
      rcases List.mem_append.1 hm with hm | hm
      · exact s.mine k (by rw [ks_append]; exact List.mem_append.2 (.inl ((hk k hm).2.1 hlt))) h0
      · exact s.mine k (by rw [ks_append]; exact List.mem_append.2 (.inr hm)) h0
    old := fun k hm => by
      obtain ⟨h1, h2⟩ := s.old k hm
      refine ⟨Nat.lt_of_lt_of_le h1 hf.size, fun h => ?_⟩
      rw [ks_append] at h h2
      rcases List.mem_append.1 h with h | h
      · exact (hk k h).2.2 (List.mem_append.2 (.inr hm))
      · exact h2 (List.mem_append.2 (.inr h)) }

theorem Looks.holdsO {xs : List Operand} {τs : List VP} (h : Looks c E L xs τs) {a : Act} {W : World} (s : St c E L a W) : HoldsAll (ks L ++ c.A0) W τs (xs.map a.eval) := h.holds a W s

theorem opto_callO {a : Act} {W : World} {f : FuncId} {xs : List Operand} {ats : Array TypeId} {τs : List VP} {Lin Lr : List Ent} {δ : Type} {ρ : δ → VP} {Lo : δ → List Ent} (en : En c.P f) (h : MeetsO c.P f τs Lin ρ Lo)
    (s : St c E (Lin ++ Lr) a W) (hx : HoldsAll (ks (Lin ++ Lr) ++ c.A0) W τs (xs.map a.eval)) :
    OpTo c.P ⟨d, .call ⟨.value (.func f), xs.toArray, ats⟩, ty, pos, af, g⟩ a W fun v W' => ∃ dd, St c E (Lo dd ++ Lr) a W' ∧ (ρ dd).holds (ks (Lo dd ++ Lr) ++ c.A0) W' v := by
  have hnd0 := s.nodup
  rw [ks_append] at hnd0
  obtain ⟨hn1, hn2, hn3⟩ := List.nodup_append.1 hnd0
  have hset : Ext (ks (Lin ++ Lr) ++ c.A0) W (ks Lin ++ (ks Lr ++ c.A0)) W := .drop fun k hm => by
    rw [ks_append]
    simp only [List.mem_append] at hm ⊢
    rcases hm with hm | hm | hm
    · exact .inl (.inl hm)
    · exact .inl (.inr hm)
    · exact .inr hm
  have hA : ∀ k ∈ ks Lr ++ c.A0, k < W.heap.size ∧ k ∉ ks Lin := fun k hm => by
    rcases List.mem_append.1 hm with hm | hm
    · exact ⟨s.lt k (by rw [ks_append]; exact List.mem_append.2 (.inr hm)), fun h => hn3 k h k hm rfl⟩
    · obtain ⟨h1, h2⟩ := s.old k hm
      exact ⟨h1, fun h => h2 (by rw [ks_append]; exact List.mem_append.2 (.inl h))⟩
  have hlt : ∀ k ∈ ks Lin, k < W.heap.size := fun k hm => s.lt k (by rw [ks_append]; exact List.mem_append.2 (.inl hm))
  refine .of_enter (f := f) (args := (xs.map a.eval).toArray) (W' := W) (by simp [execOp, resolve, Deferred.ofValue, Act.eval, invoke, en.run]) ?_
  refine (h (ks Lr ++ c.A0) W (xs.map a.eval) hA hn1 hlt (fun e he => Ent.ok_mono (s.own e (List.mem_append.2 (.inl he))) hset fun _ _ => rfl) (hx.mono hset)).mono fun e W' ⟨v, dd, he, hf, h1, h2, h3, h4⟩ => ?_
  refine ⟨v, he, dd, s.after hf h1 h2 h3, (ρ dd).mono (.drop fun k hm => ?_) h4⟩
  rw [ks_append] at hm
  simp only [List.mem_append] at hm ⊢
  rcases hm with (hm | hm) | hm
  · exact .inl hm
  · exact .inr (.inl hm)
  · exact .inr (.inr hm)

theorem Sq.callO {rest : List Oper} {dd : Nat} {f : FuncId} {xs : List Operand} {ats : Array TypeId} {τs : List VP} {Lin Lr : List Ent} {δ : Type} {ρ : δ → VP} {Lo : δ → List Ent} (en : En c.P f) (h : MeetsO c.P f τs Lin ρ Lo)
    (hx : Looks c E (Lin ++ Lr) xs τs) (hn : Nat.blt dd c.n = true) (k : ∀ q, Sq c ops Q rest ((dd, ρ q) :: E) (Lo q ++ Lr)) :
    Sq c ops Q (⟨some dd, .call ⟨.value (.func f), xs.toArray, ats⟩, ty, pos, af, none⟩ :: rest) E (Lin ++ Lr) := fun a W s =>
  wpList_op rfl (opto_callO en h s (hx.holds a W s)) fun v W' ⟨q, s', hv⟩ => k q _ _ (s'.put (by simpa using hn) hv)
end
end Gv
