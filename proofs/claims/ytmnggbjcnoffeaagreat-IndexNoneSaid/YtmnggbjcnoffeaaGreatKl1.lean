/-
  The library of the decompiler, as far as it is needed here. Conditions: none.
-/
import Derived.Lib.AppendZerosOnto
import Derived.Lib.Overlaps
import Derived.Test.YtmnggbjcnoffeaaGreatKl0
namespace Gv
open Go
set_option linter.unusedVariables false
set_option linter.unusedSimpArgs false

theorem ks_sublist {L' L : List Ent} (h : L'.Sublist L) : (ks L').Sublist (ks L) := by
  induction h with
  | slnil => simp [ks]
  | cons e _ ih => cases hk : e.key <;> simp only [ks, hk] <;> first | exact ih | exact ih.cons _
  | cons_cons e _ ih => cases hk : e.key <;> simp only [ks, hk] <;> first | exact ih | exact ih.cons_cons _

theorem Ent.ok_mono {e : Ent} {A A' W W'} (h : e.ok A W) (x : Ext A W A' W') (hb : ∀ p, e.key = some p → W'.heap[p]? = W.heap[p]?) : e.ok A' W' := by
  unfold Ent.ok at *
  cases hk : e.key with
  | none => rw [hk] at h; exact h
  | some p =>
    rw [hk] at h
    obtain ⟨o, h1, h2⟩ := h
    exact ⟨o, by rw [hb p hk]; exact h1, CP.mono _ x h2⟩

/-- what a call leaves behind that hands back blocks of its own -/
def PostO (X A0 : List Nat) (W0 : World) {δ : Type} (ρ : δ → VP) (Lo : δ → List Ent) : Ending → World → Prop := fun e W' =>
  ∃ v d, e = .returned v ∧ Fr X W0 W' ∧ (ks (Lo d)).Nodup ∧ (∀ k ∈ ks (Lo d), k < W'.heap.size ∧ (k < W0.heap.size → k ∈ X) ∧ k ∉ A0) ∧ (∀ e ∈ Lo d, e.ok (ks (Lo d) ++ A0) W') ∧ (ρ d).holds (ks (Lo d) ++ A0) W' v

/-- the function f, called with values that are as τs say and with the blocks of Lin, hands back a value as ρ says and the blocks of Lo -/
def MeetsO (P : Program) (f : FuncId) (τs : List VP) (Lin : List Ent) {δ : Type} (ρ : δ → VP) (Lo : δ → List Ent) : Prop :=
  ∀ (A : List Nat) (W : World) (vs : List Value), (∀ k ∈ A, k < W.heap.size ∧ k ∉ ks Lin) → (ks Lin).Nodup → (∀ k ∈ ks Lin, k < W.heap.size) → (∀ e ∈ Lin, e.ok (ks Lin ++ A) W) → HoldsAll (ks Lin ++ A) W τs vs →
    Calls P f vs.toArray W (PostO (ks Lin) A W ρ Lo)

theorem MeetsO.of {P : Program} {f : FuncId} {fn : Func} {code : Code} {n : Nat} {τs : List VP} {Lin : List Ent} {δ : Type} {ρ : δ → VP} {Lo : δ → List Ent} (hf : P.funcs[f]? = some fn) (hb : fn.body = some code) (hn : fn.ntmps = n) (hlen : Nat.ble τs.length n = true)
    (h : ∀ W A, Wp ⟨P, n, W, ks Lin, A, none, []⟩ (bodyPost P fn (PostO (ks Lin) A W ρ Lo)) code (params 0 τs) Lin) : MeetsO P f τs Lin ρ Lo := by
  intro A W vs hA hnd hlt hok hv
  refine calls_of_wp hf hb (wpIn_wide.1 (h W A _ _ ?_))
  have hl := hv.length
  have hle : τs.length ≤ n := Nat.le_of_ble_eq_true hlen
  exact
  { defers := rfl
    size := by simp [hn, hl]; omega
    env := fun t τ hl' => by
      obtain ⟨_, v, h2, h3⟩ := look_params hv 0 t τ hl'
      refine ⟨v, ?_, h3⟩
      have hlt : t < vs.length := (List.getElem?_eq_some_iff.1 h2).1
      rw [Array.getElem?_append_left (by simpa using hlt)]
      simpa using h2
    fr := .refl _ _
    own := hok
    nodup := hnd
    lt := hlt
    mine := fun k hk _ => hk
    old := hA }

section
variable {c : Cx} {E : List (Nat × VP)} {L : List Ent} {ops : Array Oper} {Q : Exit → Act → World → Prop}
variable {d : Option Tmp} {ty : TypeId} {pos : String} {af : Array Edge} {g : Option (Nat × Bool)} {x y : Operand} {t t2 : TypeId}

/-- the result that a slot or a variable holds -/
def RVO (c : Cx) (E : List (Nat × VP)) (L : List Ent) (r : ResultVar) (τ : VP) : Prop :=
  ∀ a W, St c E L a W → ∃ v, (resOne a.tmps r).run c.P W = .ok v W ∧ τ.holds (ks L ++ c.A0) W v

theorem rvo_t {t : Nat} {τ : VP} (h : look E t = some τ) : RVO c E L (.tmp t) τ := fun a W s => by
  obtain ⟨v, h1, h2⟩ := s.env t τ h
  exact ⟨v, by simp [resOne, h1], h2⟩
theorem rvo_c {t : Nat} {ty : TypeId} {i p : Nat} {α : Type} [Rp α] {x : α} (tt : Ty c.P ty α) (h : look E t = some (.eq (.pointer (some ⟨p, 0, none⟩)))) (hL : L[i]? = some ⟨some p, .var x⟩) : RVO c E L (.cell t ty) (.of x) := fun a W s => by
  obtain ⟨v, h1, h2⟩ := s.env t _ h
  subst h2
  obtain ⟨ob, hob, cs, T, rfl, hrep⟩ := s.own _ (List.mem_of_getElem? hL)
  have hl : cs.toList.length = Rp.size α := Rp.len hrep
  have hsz : cs.size = Rp.size α := by simpa using hl
  obtain ⟨v, h3, h4⟩ := run_loadVar_at (A := ks L ++ c.A0) (off := 0) tt hob (by omega) (by rw [List.drop_zero, ← hl, List.take_length]; exact hrep)
  exact ⟨v, by simp [resOne, h1, asAddr, h3], h4⟩

theorem St.ends {a : Act} {W : World} (s : St c E L a W) {δ : Type} {ρ : δ → VP} {Lo : δ → List Ent} (dd : δ) (hs : (Lo dd).Sublist L) {v : Value} (hv : (ρ dd).holds (ks L ++ c.A0) W v) : PostO c.X c.A0 c.W0 ρ Lo (.returned v) W := by
  have hsub := ks_sublist hs
  have hk : ∀ k ∈ ks (Lo dd), k ∈ ks L := fun k hk => hsub.subset hk
  have hext : Ext (ks L ++ c.A0) W (ks (Lo dd) ++ c.A0) W := .drop fun k hm => by
    rcases List.mem_append.1 hm with hm | hm
    · exact List.mem_append.2 (.inl (hk k hm))
    · exact List.mem_append.2 (.inr hm)
  exact ⟨v, dd, rfl, s.fr, s.nodup.sublist hsub, fun k hm => ⟨s.lt k (hk k hm), s.mine k (hk k hm), fun ha => (s.old k ha).2 (hk k hm)⟩,
    fun e he => Ent.ok_mono (s.own e (hs.subset he)) hext fun _ _ => rfl, VP.mono _ hext hv⟩

theorem To.endO1 {fn : Func} {r : ResultVar} {τ : VP} {δ : Type} {ρ : δ → VP} {Lo : δ → List Ent} (dd : δ) (hs : (Lo dd).Sublist L) (hr : fn.results = #[r]) (hρ : ρ dd = τ) (h : RVO c E L r τ) (hds : c.ds = [] := by rfl) : To c (bodyPost c.P fn (PostO c.X c.A0 c.W0 ρ Lo)) .ret E L := fun a W s => by
  subst hρ
  obtain ⟨v, h1, h2⟩ := h a W s
  exact ⟨s.nodefers hds, v, by simp [results_eq, hr, h1], s.ends dd hs h2⟩
theorem To.endO2 {fn : Func} {r r2 : ResultVar} {τ τ2 : VP} {δ : Type} {ρ : δ → VP} {Lo : δ → List Ent} (dd : δ) (hs : (Lo dd).Sublist L) (hr : fn.results = #[r, r2]) (hρ : ρ dd = .tup [τ, τ2]) (h : RVO c E L r τ) (h2 : RVO c E L r2 τ2) (hds : c.ds = [] := by rfl) : To c (bodyPost c.P fn (PostO c.X c.A0 c.W0 ρ Lo)) .ret E L := fun a W s => by
  obtain ⟨v, h3, h4⟩ := h a W s
  obtain ⟨v2, h5, h6⟩ := h2 a W s
  exact ⟨s.nodefers hds, .tuple #[v, v2], by simp [results_eq, hr, h3, h5], s.ends dd hs (by rw [hρ]; exact ⟨_, rfl, .cons h4 (.cons h6 .nil)⟩)⟩
theorem To.endO3 {fn : Func} {r r2 r3 : ResultVar} {τ τ2 τ3 : VP} {δ : Type} {ρ : δ → VP} {Lo : δ → List Ent} (dd : δ) (hs : (Lo dd).Sublist L) (hr : fn.results = #[r, r2, r3]) (hρ : ρ dd = .tup [τ, τ2, τ3]) (h : RVO c E L r τ) (h2 : RVO c E L r2 τ2) (h3 : RVO c E L r3 τ3) (hds : c.ds = [] := by rfl) : To c (bodyPost c.P fn (PostO c.X c.A0 c.W0 ρ Lo)) .ret E L := fun a W s => by
  obtain ⟨v, e1, f1⟩ := h a W s
  obtain ⟨v2, e2, f2⟩ := h2 a W s
  obtain ⟨v3, e3, f3⟩ := h3 a W s
  exact ⟨s.nodefers hds, .tuple #[v, v2, v3], by simp [results_eq, hr, e1, e2, e3], s.ends dd hs (by rw [hρ]; exact ⟨_, rfl, .cons f1 (.cons f2 (.cons f3 .nil))⟩)⟩

/-! ### A call that takes over own blocks -/

theorem bring_perm : ∀ {L : List Ent} {i : Nat} {e : Ent}, L[i]? = some e → L.Perm (e :: L.eraseIdx i)
  | [], i, e, h => by simp at h
  | x :: r, 0, e, h => by simp only [List.getElem?_cons_zero, Option.some.injEq] at h; subst h; exact .refl _
  | x :: r, i + 1, e, h => by
    simp only [List.getElem?_cons_succ] at h
    exact ((bring_perm h).cons x).trans (.swap e x _)
theorem St.bring {a : Act} {W : World} (s : St c E L a W) {i : Nat} {e : Ent} (h : L[i]? = some e) : St c E (e :: L.eraseIdx i) a W := s.perm (bring_perm h)
theorem Sq.bring {l : List Oper} (i : Nat) {e : Ent} (h : L[i]? = some e) (k : Sq c ops Q l E (e :: L.eraseIdx i)) : Sq c ops Q l E L := fun a W s => k a W (s.bring h)
theorem To.bring {z : Exit} (i : Nat) {e : Ent} (h : L[i]? = some e) (k : To c Q z E (e :: L.eraseIdx i)) : To c Q z E L := fun a W s => k a W (s.bring h)

theorem St.after {a : Act} {W W' : World} {Lin Lr : List Ent} (s : St c E (Lin ++ Lr) a W) {Lo : List Ent} (hf : Fr (ks Lin) W W') (hnd : (ks Lo).Nodup)
    (hk : ∀ k ∈ ks Lo, k < W'.heap.size ∧ (k < W.heap.size → k ∈ ks Lin) ∧ k ∉ ks Lr ++ c.A0) (hok : ∀ e ∈ Lo, e.ok (ks Lo ++ (ks Lr ++ c.A0)) W') : St c E (Lo ++ Lr) a W' := by
  have hext : Ext (ks (Lin ++ Lr) ++ c.A0) W (ks (Lo ++ Lr) ++ c.A0) W' :=
    ⟨hf.size, fun k hlt ha => hf.block k hlt fun hm => ha (by rw [ks_append]; simp [hm]), fun k hm hlt => by
      rw [ks_append] at hm ⊢
      simp only [List.mem_append] at hm ⊢
      rcases hm with (hm | hm) | hm
      · exact .inl (.inl ((hk k hm).2.1 hlt))
      · exact .inl (.inr hm)
      · exact .inr hm⟩
  have hnd0 := s.nodup
  rw [ks_append] at hnd0
  obtain ⟨hn1, hn2, hn3⟩ := List.nodup_append.1 hnd0
  have hlr : ∀ k ∈ ks Lr, k < W.heap.size ∧ k ∉ ks Lin := fun k hm => ⟨s.lt k (by rw [ks_append]; exact List.mem_append.2 (.inr hm)), fun h => hn3 k h k hm rfl⟩
  exact
  { defers := s.defers
    size := s.size
    env := fun t τ hl => let ⟨v, h1, h2⟩ := s.env t τ hl; ⟨v, h1, τ.mono hext h2⟩
    fr := ⟨hf.os.trans s.fr.os, hf.tape.trans s.fr.tape, hf.output.trans s.fr.output, Nat.le_trans s.fr.size hf.size, fun k hlt hx =>
      (hf.block k (Nat.lt_of_lt_of_le hlt s.fr.size) fun hm => hx (s.mine k (by rw [ks_append]; exact List.mem_append.2 (.inl hm)) hlt)).trans (s.fr.block k hlt hx)⟩
    own := fun e he => by
      rcases List.mem_append.1 he with he | he
      · have := hok e he
        refine Ent.ok_mono this (.drop fun k hm => ?_) fun _ _ => rfl
        rw [ks_append] at hm
        simp only [List.mem_append] at hm ⊢
        rcases hm with (hm | hm) | hm
        · exact .inl hm
        · exact .inr (.inl hm)
        · exact .inr (.inr hm)
      · exact Ent.ok_mono (s.own e (List.mem_append.2 (.inr he))) hext fun p hp => by
          have := hlr p (mem_ks.2 ⟨e, he, hp⟩)
          exact hf.block p this.1 this.2
    nodup := by
      rw [ks_append]
      exact List.nodup_append.2 ⟨hnd, hn2, fun k h1 j h2 e => by subst e; exact (hk k h1).2.2 (List.mem_append.2 (.inl h2))⟩
    lt := fun k hm => by
      rw [ks_append] at hm
      rcases List.mem_append.1 hm with hm | hm
      · exact (hk k hm).1
      · exact Nat.lt_of_lt_of_le (hlr k hm).1 hf.size
    mine := fun k hm h0 => by
      rw [ks_append] at hm
      have hlt : k < W.heap.size := Nat.lt_of_lt_of_le h0 s.fr.size
      rcases List.mem_append.1 hm with hm | hm
      · exact s.mine k (by rw [ks_append]; exact List.mem_append.2 (.inl ((hk k hm).2.1 hlt))) h0
      · exact s.mine k (by rw [ks_append]; exact List.mem_append.2 (.inr hm)) h0
    old := fun k hm => by
      obtain ⟨h1, h2⟩ := s.old k hm
      refine ⟨Nat.lt_of_lt_of_le h1 hf.size, fun h => ?_⟩
      rw [ks_append] at h h2
      rcases List.mem_append.1 h with h | h
      · exact (hk k h).2.2 (List.mem_append.2 (.inr hm))
      · exact h2 (List.mem_append.2 (.inr h)) }

theorem Looks.holdsO {xs : List Operand} {τs : List VP} (h : Looks c E L xs τs) {a : Act} {W : World} (s : St c E L a W) : HoldsAll (ks L ++ c.A0) W τs (xs.map a.eval) := h.holds a W s

theorem opto_callO {a : Act} {W : World} {f : FuncId} {xs : List Operand} {ats : Array TypeId} {τs : List VP} {Lin Lr : List Ent} {δ : Type} {ρ : δ → VP} {Lo : δ → List Ent} (en : En c.P f) (h : MeetsO c.P f τs Lin ρ Lo)
    (s : St c E (Lin ++ Lr) a W) (hx : HoldsAll (ks (Lin ++ Lr) ++ c.A0) W τs (xs.map a.eval)) :
    OpTo c.P ⟨d, .call ⟨.value (.func f), xs.toArray, ats⟩, ty, pos, af, g⟩ a W fun v W' => ∃ dd, St c E (Lo dd ++ Lr) a W' ∧ (ρ dd).holds (ks (Lo dd ++ Lr) ++ c.A0) W' v := by
  have hnd0 := s.nodup
  rw [ks_append] at hnd0
  obtain ⟨hn1, hn2, hn3⟩ := List.nodup_append.1 hnd0
  have hset : Ext (ks (Lin ++ Lr) ++ c.A0) W (ks Lin ++ (ks Lr ++ c.A0)) W := .drop fun k hm => by
    rw [ks_append]
    simp only [List.mem_append] at hm ⊢
    rcases hm with hm | hm | hm
    · exact .inl (.inl hm)
    · exact .inl (.inr hm)
    · exact .inr hm
  have hA : ∀ k ∈ ks Lr ++ c.A0, k < W.heap.size ∧ k ∉ ks Lin := fun k hm => by
    rcases List.mem_append.1 hm with hm | hm
    · exact ⟨s.lt k (by rw [ks_append]; exact List.mem_append.2 (.inr hm)), fun h => hn3 k h k hm rfl⟩
    · obtain ⟨h1, h2⟩ := s.old k hm
      exact ⟨h1, fun h => h2 (by rw [ks_append]; exact List.mem_append.2 (.inl h))⟩
  have hlt : ∀ k ∈ ks Lin, k < W.heap.size := fun k hm => s.lt k (by rw [ks_append]; exact List.mem_append.2 (.inl hm))
  refine .of_enter (f := f) (args := (xs.map a.eval).toArray) (W' := W) (by simp [execOp, resolve, Deferred.ofValue, Act.eval, invoke, en.run]) ?_
  refine (h (ks Lr ++ c.A0) W (xs.map a.eval) hA hn1 hlt (fun e he => Ent.ok_mono (s.own e (List.mem_append.2 (.inl he))) hset fun _ _ => rfl) (hx.mono hset)).mono fun e W' ⟨v, dd, he, hf, h1, h2, h3, h4⟩ => ?_
  refine ⟨v, he, dd, s.after hf h1 h2 h3, (ρ dd).mono (.drop fun k hm => ?_) h4⟩
  rw [ks_append] at hm
  simp only [List.mem_append] at hm ⊢
  rcases hm with (hm | hm) | hm
  · exact .inl hm
  · exact .inr (.inl hm)
  · exact .inr (.inr hm)

theorem Sq.callO {rest : List Oper} {dd : Nat} {f : FuncId} {xs : List Operand} {ats : Array TypeId} {τs : List VP} {Lin Lr : List Ent} {δ : Type} {ρ : δ → VP} {Lo : δ → List Ent} (en : En c.P f) (h : MeetsO c.P f τs Lin ρ Lo)
    (hx : Looks c E (Lin ++ Lr) xs τs) (hn : Nat.blt dd c.n = true) (k : ∀ q, Sq c ops Q rest ((dd, ρ q) :: E) (Lo q ++ Lr)) :
    Sq c ops Q (⟨some dd, .call ⟨.value (.func f), xs.toArray, ats⟩, ty, pos, af, none⟩ :: rest) E (Lin ++ Lr) := fun a W s =>
  wpList_op rfl (opto_callO en h s (hx.holds a W s)) fun v W' ⟨q, s', hv⟩ => k q _ _ (s'.put (by simpa using hn) hv)
end
end Gv

namespace Gv
open Go
set_option linter.unusedVariables false
set_option linter.unusedSimpArgs false

def lset {α : Type} (xs : List α) (k : Nat) (v : α) : List α := xs.set k v

section
variable {c : Cx} {E : List (Nat × VP)} {L : List Ent} {ops : Array Oper} {Q : Exit → Act → World → Prop}
variable {d : Option Tmp} {ty : TypeId} {pos : String} {af : Array Edge} {g : Option (Nat × Bool)} {x y : Operand} {t t2 : TypeId}

/-- the block behind an own row that is not empty -/
theorem St.rowAt {a : Act} {W : World} (s : St c E L a W) {i : Nat} {key : Option Nat} {T cap : Nat} {α : Type} [Rp α] {xs : List α} (hL : L[i]? = some ⟨key, .row T xs cap⟩) (hx : 0 < xs.length) :
    ∃ p cs, key = some p ∧ W.heap[p]? = some (.cells cs T (0, 0)) ∧ cs.size = cap * Rp.size α ∧ xs.length ≤ cap ∧ cap ≤ maxLen ∧ Reps (ks L ++ c.A0) W (cs.toList.take (xs.length * Rp.size α)) xs := by
  have ho := s.own _ (List.mem_of_getElem? hL)
  cases key with
  | none => have : xs = [] := ho.1; subst this; simp at hx
  | some p =>
    obtain ⟨o, hob, cs, rfl, h1, h2, h3, h4⟩ := ho
    exact ⟨p, cs, rfl, hob, h1, h2, h3, h4⟩

theorem r_iaO {e i k T cap : Nat} {key : Option Nat} {α : Type} [Rp α] {xs : List α} {z : Int} (hu : c.P.underlying t = some (.slice e)) (te : Ty c.P e α) (hx : Look c E L x (.eq (slv key xs.length cap))) (hy : Look c E L y (.of z))
    (hL : L[i]? = some ⟨key, .row T xs cap⟩) (hk : k < xs.length ∧ z = k) : HR c E L ⟨d, .indexAddr t x y, ty, pos, af, g⟩ (.eq (.pointer (some ⟨key.getD 0, k * Rp.size α, none⟩))) := .pure fun a W s => by
  obtain ⟨h6, rfl⟩ := hk
  obtain ⟨p, cs, rfl, _⟩ := s.rowAt hL (by omega)
  have h1 : a.eval x = _ := hx a W s
  have h5 := of_int.1 (hy a W s)
  obtain ⟨ie, hie, hsz⟩ := te.info
  exact ⟨_, by simp [execOp, Instr.indexAt, asIntOf, run_underlying hu, h1, h5, h6, Go.sizeOf, typeInfo, hie, hsz, addr_add, slv]; rfl, by simp [VP.eq]⟩

theorem row_in {k n s : Nat} (h : k < n) : k * s + s ≤ n * s := by rw [← Nat.succ_mul]; exact Nat.mul_le_mul_right _ h

theorem r_loadR {i k T cap o : Nat} {key : Option Nat} {α γ : Type} [Rp α] [Inhabited α] [Rp γ] {xs : List α} (l : Lens α γ) {r : γ} (tt : Ty c.P t γ) (hx : Look c E L x (.eq (.pointer (some ⟨key.getD 0, o, none⟩))))
    (hL : L[i]? = some ⟨key, .row T xs cap⟩) (hk : k < xs.length) (ho : o = k * Rp.size α + l.off) (hr : l.get (lget xs k) = r) : HR c E L ⟨d, .load t x, ty, pos, af, g⟩ (.of r) := .pure fun a W s => by
  subst ho; subst hr
  obtain ⟨p, cs, rfl, hob, h1, h2, h3, h4⟩ := s.rowAt hL (by omega)
  have hin := row_in (s := Rp.size α) hk
  have hl := l.inb
  have hle : xs.length * Rp.size α ≤ cap * Rp.size α := Nat.mul_le_mul_right _ h2
  have hrep := l.get_rep (h4.2 k hk)
  rw [take_drop_in _ _ _ _ _ l.inb, List.drop_take, List.take_take, Nat.min_eq_left (by omega)] at hrep
  rw [lget_eq xs hk]
  obtain ⟨v, h5, h6⟩ := run_loadVar_at (A := ks L ++ c.A0) tt hob (off := k * Rp.size α + l.off) (by omega) hrep
  have h7 : a.eval x = _ := hx a W s
  simp only [Option.getD_some] at h7
  exact ⟨v, by simp [execOp, Instr.loadAt, Instr.sureAddr, h7, h5], h6⟩

theorem Sq.storeR {rest : List Oper} {i k T cap o : Nat} {key : Option Nat} {α γ : Type} [Rp α] [Inhabited α] [Rp γ] {xs r : List α} {v : γ} (l : Lens α γ) (tt : Ty c.P t γ) (hx : Look c E L x (.eq (.pointer (some ⟨key.getD 0, o, none⟩)))) (hy : Look c E L y (.of v))
    (hL : L[i]? = some ⟨key, .row T xs cap⟩) (hk : k < xs.length) (ho : o = k * Rp.size α + l.off) (hr : lset xs k (l.set (lget xs k) v) = r)
    (k' : Sq c ops Q rest E (L.set i ⟨key, .row T r cap⟩)) : Sq c ops Q (⟨none, .store t x y, ty, pos, af, none⟩ :: rest) E L := fun a W s => by
  subst ho; subst hr
  obtain ⟨p, cs, rfl, hob, h1, h2, h3, h4⟩ := s.rowAt hL (by omega)
  have hin := row_in (s := Rp.size α) hk
  have hl := l.inb
  have hle : xs.length * Rp.size α ≤ cap * Rp.size α := Nat.mul_le_mul_right _ h2
  have hv := hy a W s
  have hvl : (a.eval y).cells.toList.length = Rp.size γ := Rp.len hv.2
  have h5 := run_storeVar_at (A := ks L ++ c.A0) tt hob (off := k * Rp.size α + l.off) (by omega) hv
  have h7 : a.eval x = _ := hx a W s
  simp only [Option.getD_some] at h7
  refine wpList_op rfl (R := fun v W' => W' = W.setRow p (splice cs.toList (k * Rp.size α + l.off) (a.eval y).cells.toList).toArray) (.of_skip ?_ rfl) fun u W' hw => ?_
  · simp [execOp, Instr.storeAt, Instr.sureAddr, h7, h5]
  · subst hw
    refine k' _ _ (s.store hL hob ?_)
    have hcl : cs.toList.length = cap * Rp.size α := by simpa using h1
    have hsl : (splice cs.toList (k * Rp.size α + l.off) (a.eval y).cells.toList).length = cs.toList.length := by
      simp only [splice, List.length_append, List.length_take, List.length_drop, hvl]; omega
    refine ⟨_, rfl, by simpa [hcl] using hsl, by simpa [lset] using h2, h3, ?_⟩
    have g1 := h4.2 k hk
    have g2 := l.set_rep g1 hv.2
    have g3 := reps_set h4 hk g2
    have hnl : (cs.toList.take (xs.length * Rp.size α)).length = xs.length * Rp.size α := by rw [List.length_take]; omega
    rw [splice_in _ _ _ _ _ _ l.inb (by omega)] at g3
    have hlen : (lset xs k (l.set (lget xs k) v)).length = xs.length := by simp [lset]
    rw [hlen, List.toList_toArray]
    have e : (splice cs.toList (k * Rp.size α + l.off) (a.eval y).cells.toList).take (xs.length * Rp.size α) =
        (cs.toList.take (xs.length * Rp.size α)).take (k * Rp.size α + l.off) ++ (a.eval y).cells.toList ++ (cs.toList.take (xs.length * Rp.size α)).drop (k * Rp.size α + l.off + Rp.size γ) := by
      have e1 : (cs.toList.take (k * Rp.size α + l.off)).length = k * Rp.size α + l.off := by rw [List.length_take]; omega
      have e2 : (cs.toList.take (k * Rp.size α + l.off) ++ (a.eval y).cells.toList).length = k * Rp.size α + l.off + Rp.size γ := by rw [List.length_append, e1, hvl]
      rw [splice, hvl, List.take_append, e2, List.take_of_length_le (by omega), List.take_take, Nat.min_eq_left (by omega), List.drop_take]
    rw [e, show lset xs k (l.set (lget xs k) v) = xs.set k (l.set xs[k] v) by rw [lset, lget_eq xs hk]]
    exact g3

/-- a part of an own row -/
def vslv (key : Option Nat) (lo n cap size : Nat) : Value := match key with
  | some p => .slice (some (if cap = lo then ⟨p, 0, none⟩ else ⟨p, lo * size, none⟩)) n (cap - lo)
  | none => .slice none 0 0

theorem vslv_zero {key : Option Nat} {n cap size : Nat} : vslv key 0 n cap size = slv key n cap := by
  cases key <;> simp [vslv, slv]

theorem r_sliceO {i T cap : Nat} {key : Option Nat} {α : Type} [Rp α] {xs : List α} {e : TypeId} {lo hi : Option Operand} {m n : Nat} {zi zj : Int} (hu : c.P.underlying t = some (.slice e)) (te : Ty c.P e α) (hx : Look c E L x (.eq (slv key xs.length cap)))
    (hL : L[i]? = some ⟨key, .row T xs cap⟩) (hlo : Bd c E L lo zi 0) (hhi : Bd c E L hi zj xs.length) (hm : zi = m) (hn : zj = n) (h : m ≤ n ∧ n ≤ xs.length) :
    HR c E L ⟨d, .slice t x lo hi none, ty, pos, af, g⟩ (.eq (vslv key m (n - m) cap (Rp.size α))) := .pure fun a W s => by
  subst hm; subst hn
  obtain ⟨hmn, hnx⟩ := h
  obtain ⟨ie, hie, hsz⟩ := te.info
  have h1 : a.eval x = _ := hx a W s
  have ho := s.own _ (List.mem_of_getElem? hL)
  cases key with
  | none =>
    have hxs : xs = [] := ho.1
    subst hxs
    have hn0 : n = 0 := by simpa using hnx
    have hm0 : m = 0 := by omega
    subst hn0
    subst hm0
    refine ⟨.slice none 0 0, ?_, rfl⟩
    have hL : (match lo.map a.eval with | some v => Instr.sliceBound v 0 .sliceB | none => pure 0 : Sem Nat).run c.P W = .ok 0 W := by
      cases hlo with
      | none => rfl
      | some hl => exact run_sliceB (Nat.le_refl _) (of_int.1 (hl a W s))
    have hH : (match hi.map a.eval, (none : Option Value) with | some v, some _ => Instr.sliceBound v 0 .slice3B | some v, none => Instr.sliceBound v 0 .sliceAcap | none, none => pure 0 | none, some _ => stuck "Slice: max without high" : Sem Nat).run c.P W = .ok 0 W := by
      cases hhi with
      | none => rfl
      | some hl => exact run_sliceB (Nat.le_refl _) (of_int.1 (hl a W s))
    cases hlo <;> cases hhi
    all_goals
      simp only [slv, execOp, Instr.sliceAt, Instr.slice, Instr.sliceBounds, h1, Sem.run_bind, run_underlying hu, Result.andThen_ok, Option.map_none, Option.map_some, Option.isSome_none, Bool.false_eq_true, if_false, if_true, Sem.run_pure] at hL hH ⊢
      try simp only [hL, hH, Result.andThen_ok, Go.sizeOf, typeInfo, Sem.run_bind, run_program, hie, Sem.run_pure]
      try simp [hie]
  | some p =>
    obtain ⟨o, hob, cs, rfl, g1, g2, g3, g4⟩ := ho
    refine ⟨_, ?_, rfl⟩
    simp only [vslv]
    have hL : ∀ v, v = Value.int .i64 m → (Instr.sliceBound v n .sliceB).run c.P W = .ok m W := fun v hv => run_sliceB hmn hv
    have hH : ∀ v, v = Value.int .i64 n → (Instr.sliceBound v cap .sliceAcap).run c.P W = .ok n W := fun v hv => run_sliceB (by omega) hv
    generalize hin : (n : Int) = nI at hhi
    generalize him : (m : Int) = mI at hlo
    generalize hxl : (xs.length : Int) = xl at hhi
    generalize hzz : (0 : Int) = zz at hlo
    cases hlo with
    | none =>
      have hm0 : m = 0 := by omega
      cases hhi with
      | none =>
        have hnx : n = xs.length := by omega
        subst hnx
        subst hm0
        simp [execOp, Instr.sliceAt, Instr.slice, Instr.sliceBounds, h1, slv, run_underlying hu, Go.sizeOf, typeInfo, hie, hsz, addr_add]
      | some hh =>
        subst hin
        subst hm0
        simp [execOp, Instr.sliceAt, Instr.slice, Instr.sliceBounds, h1, slv, run_underlying hu, Go.sizeOf, typeInfo, hie, hsz, addr_add, hH _ (of_int.1 (hh a W s))]
    | some hl =>
      subst him
      cases hhi with
      | none =>
        have hnx : n = xs.length := by omega
        subst hnx
        simp [execOp, Instr.sliceAt, Instr.slice, Instr.sliceBounds, h1, slv, run_underlying hu, Go.sizeOf, typeInfo, hie, hsz, addr_add, hL _ (of_int.1 (hl a W s))]
        split <;> rfl
      | some hh =>
        subst hin
        simp [execOp, Instr.sliceAt, Instr.slice, Instr.sliceBounds, h1, slv, run_underlying hu, Go.sizeOf, typeInfo, hie, hsz, addr_add, hL _ (of_int.1 (hl a W s)), hH _ (of_int.1 (hh a W s))]
        split <;> rfl

/-- an entry is known to hold something else besides -/
theorem St.again {a : Act} {W : World} (s : St c E L a W) {i : Nat} {key : Option Nat} {cp cp' : CP} (hL : L[i]? = some ⟨key, cp⟩) (h : ∀ A W o, cp.holds A W o → cp'.holds A W o) (hn : cp.nilOk → cp'.nilOk) : St c E (L.set i ⟨key, cp'⟩) a W := by
  have hks : ks (L.set i ⟨key, cp'⟩) = ks L := ks_set (e := ⟨key, cp⟩) (cp := cp') hL
  exact
  { defers := s.defers
    size := s.size
    env := fun t τ hl => by rw [hks]; exact s.env t τ hl
    fr := s.fr
    own := fun e he => by
      rw [hks]
      obtain ⟨j, hj⟩ := List.mem_iff_getElem?.1 he
      rw [List.getElem?_set] at hj
      split at hj
      · split at hj
        · simp only [Option.some.injEq] at hj
          subst hj
          have ho := s.own _ (List.mem_of_getElem? hL)
          cases key with
          | none => exact hn ho
          | some p => obtain ⟨o, h1, h2⟩ := ho; exact ⟨o, h1, h _ _ _ h2⟩
        · cases hj
      · exact s.own e (List.mem_of_getElem? hj)
    nodup := by rw [hks]; exact s.nodup
    lt := by rw [hks]; exact s.lt
    mine := by rw [hks]; exact s.mine
    old := by rw [hks]; exact s.old }

theorem row_take {T cap n : Nat} {α : Type} [Rp α] {xs : List α} (hn : n ≤ xs.length) {A W o} (h : (CP.row T xs cap).holds A W o) : (CP.row T (xs.take n) cap).holds A W o := by
  obtain ⟨cs, rfl, h1, h2, h3, h4⟩ := h
  have hl : (xs.take n).length = n := by rw [List.length_take]; omega
  have hle : n * Rp.size α ≤ xs.length * Rp.size α := Nat.mul_le_mul_right _ hn
  have hle2 : xs.length * Rp.size α ≤ cap * Rp.size α := Nat.mul_le_mul_right _ h2
  refine ⟨cs, rfl, h1, by omega, h3, ?_⟩
  rw [hl]
  have hcl : cs.toList.length = cap * Rp.size α := by simpa using h1
  refine ⟨by rw [List.length_take, hl]; omega, fun i hi => ?_⟩
  have hi' : i < n := by omega
  have hin := row_in (s := Rp.size α) hi'
  have := h4.2 i (by omega)
  rw [List.drop_take, List.take_take, Nat.min_eq_left (by omega)] at this ⊢
  rw [List.getElem_take]
  exact this

end
end Gv

namespace Gv
open Go
set_option linter.unusedVariables false
set_option linter.unusedSimpArgs false

def lclear {α : Type} [Inhabited α] (xs : List α) (lo n : Nat) : List α := xs.take lo ++ List.replicate n default ++ xs.drop (lo + n)

theorem reps_part {α : Type} [Rp α] {A W} {cs ds : List Value} {xs ys : List α} {lo : Nat} (h : Reps A W cs xs) (h' : Reps A W ds ys) (hk : lo + ys.length ≤ xs.length) :
    Reps A W (cs.take (lo * Rp.size α) ++ ds ++ cs.drop (lo * Rp.size α + ds.length)) (xs.take lo ++ ys ++ xs.drop (lo + ys.length)) := by
  have hl := h.1
  have hle : lo * Rp.size α ≤ xs.length * Rp.size α := Nat.mul_le_mul_right _ (by omega)
  have t1 : Reps A W (cs.take (lo * Rp.size α)) (xs.take lo) := by
    have e : (xs.take lo).length = lo := by rw [List.length_take]; omega
    refine ⟨by rw [List.length_take, e]; omega, fun i hi => ?_⟩
    have hi' : i < lo := by omega
    have := h.2 i (by omega)
    have hin := row_in (s := Rp.size α) hi'
    rw [List.drop_take, List.take_take, Nat.min_eq_left (by omega), List.getElem_take]
    exact this
  have t3 : Reps A W (cs.drop (lo * Rp.size α + ds.length)) (xs.drop (lo + ys.length)) := by
    have e : lo * Rp.size α + ds.length = (lo + ys.length) * Rp.size α := by rw [h'.1, Nat.add_mul]
    rw [e]
    refine ⟨by rw [List.length_drop, List.length_drop, hl, ← Nat.sub_mul], fun i hi => ?_⟩
    rw [List.length_drop] at hi
    have := h.2 (lo + ys.length + i) (by omega)
    rw [List.drop_drop, ← Nat.add_mul, List.getElem_drop]
    exact this
  exact reps_append (reps_append t1 h') t3

section
variable {c : Cx} {E : List (Nat × VP)} {L : List Ent} {ops : Array Oper} {Q : Exit → Act → World → Prop}
variable {d : Option Tmp} {ty : TypeId} {pos : String} {af : Array Edge} {g : Option (Nat × Bool)} {x y : Operand} {t t2 : TypeId}

theorem Sq.clear {rest : List Oper} {i e T cap lo n : Nat} {key : Option Nat} {α : Type} [Rp α] [Inhabited α] {xs r : List α} (hu : c.P.underlying t = some (.slice e)) (te : Ty c.P e α) (zr : Zr c.P e (default : α)) (hsz : Nat.beq (Rp.size α) 0 = false)
    (hx : Look c E L x (.eq (vslv key lo n cap (Rp.size α)))) (hL : L[i]? = some ⟨key, .row T xs cap⟩) (hn : lo + n ≤ xs.length) (hr : lclear xs lo n = r)
    (k : Sq c ops Q rest E (L.set i ⟨key, .row T r cap⟩)) : Sq c ops Q (⟨none, .call ⟨.builtin .clear, #[x], #[t]⟩, ty, pos, af, none⟩ :: rest) E L := fun a W s => by
  subst hr
  have h1 : a.eval x = _ := hx a W s
  have ho := s.own _ (List.mem_of_getElem? hL)
  have hset : ∀ cp, L.set i ⟨key, cp⟩ = L.set i ⟨key, cp⟩ := fun _ => rfl
  by_cases h0 : n = 0 ∨ key = none
  · have hxs : lclear xs lo n = xs := by
      rcases h0 with h0 | h0
      · subst h0; simp [lclear]
      · subst h0
        have : xs = [] := ho.1
        subst this
        have : n = 0 := by simp at hn; omega
        subst this; simp [lclear]
    have hrun : (execOp a.eval ⟨none, .call ⟨.builtin .clear, #[x], #[t]⟩, ty, pos, af, none⟩).run c.P W = .ok (.value (.tuple #[])) W := by
      rcases h0 with h0 | h0
      · subst h0
        cases key <;> simp [execOp, resolve, invoke, builtin, Builtin.clear_, h1, vslv, run_underlying hu]
      · subst h0
        simp [execOp, resolve, invoke, builtin, Builtin.clear_, h1, vslv, run_underlying hu]
    refine wpList_op rfl (R := fun v W' => W' = W) (.of_run hrun rfl) fun v W' hw => ?_
    subst hw
    rw [hxs] at k
    have : L.set i ⟨key, .row T xs cap⟩ = L := by
      apply List.ext_getElem?
      intro j
      rw [List.getElem?_set]
      split
      · rename_i hij; subst hij
        have := (List.getElem?_eq_some_iff.1 hL).1
        rw [if_pos this, hL]
      · rfl
    rw [this] at k
    exact k _ _ s
  · have hn0 : 0 < n := by
      rcases Nat.eq_zero_or_pos n with h | h
      · exact absurd (.inl h) h0
      · exact h
    obtain ⟨p, cs, rfl, hob, g1, g2, g3, g4⟩ := s.rowAt hL (by omega)
    obtain ⟨ie, zv, hie, hz, hzr⟩ := zr.zero
    have hzv := hzr (ks L ++ c.A0) W
    have hzl : zv.cells.toList.length = Rp.size α := Rp.len hzv.2
    have hs0 : Rp.size α ≠ 0 := fun h => by rw [h] at hsz; cases hsz
    have hrz := reps_zero hzv n hs0
    have hzs : zv.cells.size = Rp.size α := by simpa using hzl
    have hzc : Builtin.zeroCells zv.cells n = (Array.range (n * Rp.size α)).map (zv.cells[· % zv.cells.size]!) := by rw [Builtin.zeroCells, hzs]
    rw [← hzc] at hrz
    generalize hD : (Builtin.zeroCells zv.cells n).toList = D at hrz
    have hDl : D.length = n * Rp.size α := by rw [hrz.1]; simp
    have hlo : cap ≠ lo := by omega
    have hle : (lo + n) * Rp.size α ≤ cap * Rp.size α := Nat.mul_le_mul_right _ (by omega)
    rw [Nat.add_mul] at hle
    have hst := run_storeCells_at (P := c.P) p (lo * Rp.size α) _ D 0 cs W hob (by omega) hrz.one
    have hrun : (execOp a.eval ⟨none, .call ⟨.builtin .clear, #[x], #[t]⟩, ty, pos, af, none⟩).run c.P W = .ok (.value (.tuple #[])) (W.setRow p (splice cs.toList (lo * Rp.size α) D).toArray) := by
      obtain ⟨m, rfl⟩ : ∃ m, n = m + 1 := ⟨n - 1, by omega⟩
      simp only [Nat.add_zero] at hst
      simp [execOp, resolve, invoke, builtin, Builtin.clear_, h1, vslv, run_underlying hu, hlo, zeroValue, typeInfo, run_program, hie, hz, hD, hst, splice]
    refine wpList_op rfl (R := fun v W' => W' = W.setRow p (splice cs.toList (lo * Rp.size α) D).toArray) (.of_run hrun rfl) fun v W' hw => ?_
    subst hw
    refine k _ _ (s.store hL hob ?_)
    have hcl : cs.toList.length = cap * Rp.size α := by simpa using g1
    have hlen : (lclear xs lo n).length = xs.length := by simp [lclear]; omega
    have hnl : (cs.toList.take (xs.length * Rp.size α)).length = xs.length * Rp.size α := by
      rw [List.length_take]
      have : xs.length * Rp.size α ≤ cap * Rp.size α := Nat.mul_le_mul_right _ g2
      omega
    have hle3 : (lo + n) * Rp.size α ≤ xs.length * Rp.size α := Nat.mul_le_mul_right _ hn
    rw [Nat.add_mul] at hle3
    have hle4 : xs.length * Rp.size α ≤ cap * Rp.size α := Nat.mul_le_mul_right _ g2
    refine ⟨_, rfl, ?_, by rw [hlen]; exact g2, g3, ?_⟩
    · simp only [List.size_toArray, splice, List.length_append, List.length_take, List.length_drop]; omega
    · rw [hlen, List.toList_toArray]
      have g5 := reps_part (lo := lo) g4 hrz (by simpa using hn)
      have e : (splice cs.toList (lo * Rp.size α) D).take (xs.length * Rp.size α) = (cs.toList.take (xs.length * Rp.size α)).take (lo * Rp.size α) ++ D ++ (cs.toList.take (xs.length * Rp.size α)).drop (lo * Rp.size α + D.length) := by
        have e1 : (cs.toList.take (lo * Rp.size α)).length = lo * Rp.size α := by rw [List.length_take]; omega
        have e2 : (cs.toList.take (lo * Rp.size α) ++ D).length = lo * Rp.size α + D.length := by rw [List.length_append, e1]
        rw [splice, List.take_append, e2, List.take_of_length_le (by omega), List.take_take, Nat.min_eq_left (by omega), List.drop_take]
      rw [e]
      simpa [lclear] using g5

/-- a variable that is written no more: its pointer may go where it will -/
theorem St.share {a : Act} {W : World} (s : St c E L a W) {i sl p : Nat} {α : Type} [Rp α] {z : α} (hl : look E sl = some (.eq (.pointer (some ⟨p, 0, none⟩)))) (hL : L[i]? = some ⟨some p, .var z⟩) : St c ((sl, .ptr z) :: E) (L.set i ⟨none, .dead⟩) a W := by
  have hk := s.kill i
  refine { hk with env := fun t τ hlk => ?_ }
  simp only [look] at hlk
  by_cases e : Nat.beq sl t = true
  · rw [e] at hlk
    simp only [cond_true, Option.some.injEq] at hlk
    subst hlk
    have := look_beq.1 e
    subst this
    obtain ⟨v, h1, h2⟩ := s.env sl _ hl
    have h2' : v = _ := h2
    subst h2'
    obtain ⟨o, hob, cs, T, rfl, hr⟩ := s.own _ (List.mem_of_getElem? hL)
    have hlen : cs.toList.length = Rp.size α := Rp.len hr
    refine ⟨_, h1, p, 0, cs, T, (0, 0), rfl, s.not_left hL, hob, by simp at hlen; omega, ?_⟩
    rw [List.drop_zero, ← hlen, List.take_length]
    have hsub := ks_set_none_sub (L := L) (i := i) (cp := .dead)
    exact Rp.mono (.drop fun k hm => by
      rcases List.mem_append.1 hm with hm | hm
      · exact List.mem_append.2 (.inl (hsub.subset hm))
      · exact List.mem_append.2 (.inr hm)) hr
  · simp only [Bool.not_eq_true] at e
    rw [e] at hlk
    exact hk.env t τ hlk
theorem Sq.share {l : List Oper} {p : Nat} {α : Type} [Rp α] {z : α} (i sl : Nat) (hl : look E sl = some (.eq (.pointer (some ⟨p, 0, none⟩)))) (hL : L[i]? = some ⟨some p, .var z⟩) (k : Sq c ops Q l ((sl, .ptr z) :: E) (L.set i ⟨none, .dead⟩)) : Sq c ops Q l E L :=
  fun a W s => k a W (s.share hl hL)
theorem Wp.share {code : Code} {p : Nat} {α : Type} [Rp α] {z : α} (i sl : Nat) (hl : look E sl = some (.eq (.pointer (some ⟨p, 0, none⟩)))) (hL : L[i]? = some ⟨some p, .var z⟩) (k : Wp c Q code ((sl, .ptr z) :: E) (L.set i ⟨none, .dead⟩)) : Wp c Q code E L :=
  fun a W s => k a W (s.share hl hL)

/-- a closure -/
theorem r_clo1 {α β : Type} [Rp α] [Rp β] {F : α → Option β} {f : FuncId} {xs : List Operand} {τs : List VP} (en : En c.P f) (hx : Looks c E L xs τs) (h : ∀ x r, F x = some r → Meets c.P f (.of x :: τs) (.of r)) :
    HR c E L ⟨d, .makeFunc (.func f) #[] xs.toArray, ty, pos, af, g⟩ (.fn1 c.P F) := .pure fun a W s => by
  have hh := hx.holds a W s
  refine ⟨.func (.func f) #[] (xs.map a.eval).toArray, by simp [execOp, Instr.makeFunc], f, _, _, rfl, en, fun A' W' e hA x r vx hF hv => ?_⟩
  simpa using h x r hF A' W' (vx :: xs.map a.eval) hA (.cons hv (hh.mono e))
/-- what says nothing of the memory -/
def VP.Flat (τ : VP) : Prop := ∀ A W A' W' v, τ.holds A W v → τ.holds A' W' v
theorem flat_bool {b : Bool} : (VP.of b).Flat := fun _ _ _ _ _ h => h
theorem flat_int {b : Int} : (VP.of b).Flat := fun _ _ _ _ _ h => h
/-- an own slice is lent to an operation that hands back nothing of it -/
theorem HR.lend {o : Oper} {τ : VP} {T cap : Nat} {key : Option Nat} {α : Type} [Rp α] {xs : List α} (i s : Nat) (hl : look E s = some (.eq (slv key xs.length cap))) (hL : L[i]? = some ⟨key, .row T xs cap⟩) (hf : τ.Flat)
    (h : HR c ((s, .of xs) :: E) (L.set i ⟨none, .dead⟩) o τ) : HR c E L o τ := fun a W st => by
  have := h a W (st.freeze hl hL)
  unfold OpTo at this ⊢
  exact Oper.wp_mono (fun a' W' ⟨v, h1, h2, h3⟩ => ⟨v, h1, h2, hf _ _ _ _ _ h3⟩) this

/-- the test for nil of a list that is read: nil is empty, but not all that is empty is nil -/
def VP.nilb {α : Type} (xs : List α) : VP where
  holds _ _ v := ∃ b : Bool, v = .bool b ∧ (b = true → xs = [])
  mono _ h := h
theorem run_eq_nil {P : Program} {e : TypeId} (W : World) (d : Nat) {t : TypeId} (a : Option Addr) (l cp : Nat) (h : P.underlying t = some (.slice e)) : (Op.equalIn (d + 1) t (.slice a l cp) (.slice none 0 0)).run P W = .ok a.isNone W := by
  cases a <;> simp [Op.equalIn, run_underlying h]
theorem r_nil {α : Type} [Rp α] {xs : List α} {e : TypeId} (hu : c.P.underlying t = some (.slice e)) (hx : Look c E L x (.of xs)) : HR c E L ⟨d, .binOp .eql t x (.const (.slice none 0 0)) t2, ty, pos, af, g⟩ (.nilb xs) := .pure fun a W s => by
  have hn : a.eval (.const (.slice none 0 0)) = .slice none 0 0 := rfl
  rcases of_list.1 (hx a W s) with ⟨h1, rfl⟩ | ⟨b, off, cap, cur, T, fz, h1, h2⟩
  · exact ⟨.bool true, by
      simp only [execOp, eqGuard, binOp, h1, hn, Op.equal, Op.maxDepth]
      simp [run_eq_nil W 9999 none 0 0 hu], true, rfl, fun _ => rfl⟩
  · exact ⟨.bool false, by
      simp only [execOp, eqGuard, binOp, h1, hn, Op.equal, Op.maxDepth]
      simp [run_eq_nil W 9999 (some ⟨b, off, none⟩) xs.length cap hu], false, rfl, fun h => by cases h⟩
theorem Wp.condN {α : Type} {y z : Code} {xs : List α} (hl : Look c E L x (.nilb xs)) (ht : xs = [] → Wp c Q y E L) (hf : Wp c Q z E L) : Wp c Q (.cond x y z) E L := fun a W s => by
  obtain ⟨b, h1, h2⟩ := hl a W s
  exact wpIn_cond_split h1 (fun h => ht (h2 h) a W s) (fun _ => hf a W s)
end

end Gv

namespace Gv
open Go
set_option linter.unusedVariables false
set_option linter.unusedSimpArgs false

/-- the region goes on from here, whatever order it draws; 'listed': what has come up -/
def AnyS (c : Cx) (ops : Array Oper) (Q : Exit → Act → World → Prop) (f : Nat) (listed : Array Bool) (E : List (Nat × VP)) (L : List Ent) : Prop :=
  ∀ a W, St c E L a W → wpAnyIn c.F 9 c.P .any ops Q f listed a W

/-- what holds where an operation ends: the region goes on; other ways out as they were -/
def QK (K : Act → World → Prop) (Q : Exit → Act → World → Prop) : Exit → Act → World → Prop
  | .normal, a, W => K a W
  | x, a, W => Q x a W

section
variable {c : Cx} {E : List (Nat × VP)} {L : List Ent} {ops : Array Oper} {Q : Exit → Act → World → Prop}

theorem Oper.uponIn_QK {F : Fence} {n : Nat} {P : Program} {o : Oper} {a : Act} {K : Act → World → Prop} {r : Result Next} (h : o.uponIn F n P a K (QK K Q) r) : o.uponIn F n P a K Q r := by
  cases r with
  | ok m w' =>
    cases m <;> simp only [Oper.uponIn] at h ⊢ <;>
      first
        | exact h
        | exact ⟨h.1, CallsIn.mono h.2 (fun e w'' he => by cases e <;> exact he)⟩
        | exact ⟨h.1, RoundIn.mono h.2 (fun e w'' he => by cases e <;> exact he)⟩
  | halt x w' => cases x <;> simp only [Oper.uponIn] at h ⊢ <;> exact h

theorem wpOp_of_list {i : Nat} {o : Oper} {K : Act → World → Prop} {a : Act} {W : World} (hi : ops[i]? = some o) (h : c.wpl ops (QK K Q) [o] a W) : wpOpIn c.F 9 c.P ops Q i K a W := by
  unfold wpOpIn
  simp only [hi]
  simp only [Cx.wpl, wpListIn] at h
  split
  · rename_i hw
    rw [if_pos hw] at h
    exact ⟨h.1, Oper.uponIn_QK h.2⟩
  · rename_i hw
    rw [if_neg hw] at h
    exact h

/-- each operation that may come up next -/
def NextS (c : Cx) (ops : Array Oper) (Q : Exit → Act → World → Prop) (f : Nat) (listed : Array Bool) (E : List (Nat × VP)) (L : List Ent) : List Nat → Prop
  | [] => True
  | i :: r => (∃ o, ops[i]? = some o ∧ Sq c ops (QK (wpAnyIn c.F 9 c.P .any ops Q f (listed.setIfInBounds i true)) Q) [o] E L) ∧ NextS c ops Q f listed E L r

theorem NextS.get {f : Nat} {listed : Array Bool} : ∀ {rl : List Nat}, NextS c ops Q f listed E L rl → ∀ i ∈ rl, ∃ o, ops[i]? = some o ∧ Sq c ops (QK (wpAnyIn c.F 9 c.P .any ops Q f (listed.setIfInBounds i true)) Q) [o] E L
  | _ :: _, h, i, hi => by
    rcases List.mem_cons.1 hi with rfl | hi
    · exact h.1
    · exact NextS.get h.2 i hi

theorem AnyS.step {f : Nat} {listed : Array Bool} (rl : List Nat) (hr : Region.ready .any ops listed = rl) (hne : rl.isEmpty = false) (h : NextS c ops Q f listed E L rl) : AnyS c ops Q (f + 1) listed E L := fun a W s =>
  ⟨fun h0 => (by rw [← hr, h0] at hne; exact absurd hne (by simp)), fun i hi => (by
    rw [hr] at hi
    obtain ⟨o, h1, h2⟩ := h.get i hi
    exact wpOp_of_list h1 (h2 a W s))⟩

theorem AnyS.le {f : Nat} {listed : Array Bool} {E' : List (Nat × VP)} (h : Le E E') (k : AnyS c ops Q f listed E' L) : AnyS c ops Q f listed E L := fun a W s => k a W (s.less h.look)

/-- where an operation has ended -/
theorem To.any {f : Nat} {listed listed' : Array Bool} (hl : listed = listed') (k : AnyS c ops Q f listed' E L) : To c (QK (wpAnyIn c.F 9 c.P .any ops Q f listed) Q) .normal E L := fun a W s => by
  subst hl
  exact k a W s

theorem AnyS.cut {γ : Type} (f' : Nat) (listed' : Array Bool) (E' : γ → List (Nat × VP)) (L' : γ → List Ent) {f : Nat} {listed : Array Bool} (h1 : ∀ g, AnyS c ops Q f' listed' (E' g) (L' g))
    (h2 : (∀ g, AnyS c ops Q f' listed' (E' g) (L' g)) → AnyS c ops Q f listed E L) : AnyS c ops Q f listed E L := h2 h1

theorem Wp.drawE {rid : Nat} {l : List Oper} (hm : c.P.follows .mixedOrders = true) (n : Nat) (ls : Array Bool) (hn : l.length = n) (hls : Array.replicate n false = ls) (h : AnyS c l.toArray Q n ls E L) : Wp c Q (.region rid l.toArray true) E L := fun a W s => by
  subst hn hls
  refine wpIn_region_any hm ?_
  have := h a W.drew (s.world (Fr.drew W))
  simpa using this

theorem To.perm {x : Exit} {L' : List Ent} (h : L.Perm L') (k : To c Q x E L') : To c Q x E L := fun a W s => k a W (s.perm h)
end
end Gv

namespace Gv
open Go
set_option linter.unusedVariables false
set_option linter.unusedSimpArgs false
section
variable {c : Cx} {E : List (Nat × VP)} {L : List Ent} {ops : Array Oper} {Q : Exit → Act → World → Prop}
variable {d : Option Tmp} {ty : TypeId} {pos : String} {af : Array Edge} {g : Option (Nat × Bool)} {x y : Operand} {t t2 : TypeId}

theorem Sq.bslO {α : Type} [Rp α] {rest : List Oper} {dd e n : Nat} {z : α} {r : List α} {ps : List (Nat × Operand)} (hu : c.P.underlying t = some (.slice e)) (te : Ty c.P e α) (zr : Zr c.P e z) (hs : Nat.beq (Rp.size α) 0 = false) (hn : Nat.ble (n * Rp.size α) 16777216 = true)
    (hf : FillsL c E L (List.replicate n z) ps r) (hN : Nat.blt dd c.n = true) (k : ∀ p, Sq c ops Q rest ((dd, .eq (slv p r.length n)) :: E) (⟨p, .row e r n⟩ :: L)) :
    Sq c ops Q (⟨some dd, .buildSlice t n ps.toArray, ty, pos, af, none⟩ :: rest) E L := fun a W s => by
  obtain ⟨ie, zv, hie, hz, hzh⟩ := zr.zero
  have hie2 : ie.size = Rp.size α := by
    obtain ⟨i2, h1, h2⟩ := te.info
    rw [hie] at h1; cases h1; exact h2
  have hs' : Rp.size α ≠ 0 := fun h => by rw [h] at hs; cases hs
  have hz0 := reps_zero (hzh (ks L ++ c.A0) W) n hs'
  obtain ⟨cs', h3, h4, h5⟩ := hf.run a W s _ hz0
  have hlen : r.length = n := by rw [h5]; simp
  have hm : (ps.toArray.map fun (x : Nat × Operand) => (x.1, a.eval x.2)).toList = ps.map fun (i, x) => (i, a.eval x) := by simp
  have hble := Nat.le_of_ble_eq_true hn
  refine wpList_op rfl (R := fun v W' => v = .slice (some ⟨W.heap.size, 0, none⟩) n n ∧ W' = W.alloc (.cells cs' e)) (.of_run (v := .slice (some ⟨W.heap.size, 0, none⟩) n n) (W' := W.alloc (.cells cs' e)) ?_ ⟨rfl, rfl⟩) fun v W' ⟨h1, h2⟩ => ?_
  · simp only [execOp, Instr.buildSlice, Sem.run_bind, run_underlying hu, Result.andThen_ok, Go.sizeOf, typeInfo, run_program, hie, Sem.run_pure, hie2]
    rw [if_neg (by omega)]
    try simp only [Sem.run_pure, Result.andThen_ok, Sem.run_bind]
    by_cases h0 : n * Rp.size α = 0
    · have hn0 : n = 0 := by
        rcases Nat.mul_eq_zero.1 h0 with h | h
        · exact h
        · exact absurd h hs'
      subst hn0
      simp only [Nat.zero_mul, if_true, Sem.run_pure, Result.andThen_ok]
      try simp only [Nat.zero_mul] at h3
      have e0 : ((Array.range 0).map (fun x => (#[] : Array Value)[x % (#[] : Array Value).size]!)) = ((Array.range 0).map (zv.cells[· % zv.cells.size]!)) := by simp
      simp only [pure_bind]
      rw [e0, hm, h3]
      simp [newRow]
    · simp only [h0, if_false, Sem.run_bind, zeroValue, typeInfo, run_program, Result.andThen_ok, hie, hz, Sem.run_pure]
      rw [hm, h3]
      simp [newRow]
  · subst h1 h2
    have hcap : n ≤ maxLen := by
      have : n * 1 ≤ n * Rp.size α := Nat.mul_le_mul_left _ (by omega)
      have : maxLen = 9223372036854775807 := rfl
      omega
    have hsz : cs'.size = n * Rp.size α := by have := h4.1; rw [hlen] at this; simpa using this
    have s' := s.alloc (o := .cells cs' e) (cp := .row e r n) ⟨cs', rfl, hsz, by omega, hcap, by
      have h6 := h4.1
      rw [← h6, List.take_length]
      exact h4⟩
    refine k (some W.heap.size) _ _ (s'.put (τ := .eq (slv (some W.heap.size) r.length n)) (by simpa using hN) ?_)
    show _ = _
    rw [hlen]; rfl

theorem Sq.relen {l : List Oper} {key : Option Nat} {n m cap : Nat} (sl : Nat) (hl : look E sl = some (.eq (slv key n cap))) (hn : n = m) (k : Sq c ops Q l ((sl, .eq (slv key m cap)) :: E) L) : Sq c ops Q l E L := fun a W s => by
  subst hn
  refine k a W (s.less fun t τ h => ?_)
  simp only [look] at h
  by_cases e : Nat.beq sl t = true
  · rw [e] at h
    simp only [cond_true] at h
    have := look_beq.1 e
    subst this
    exact ⟨τ, by rw [hl, h], fun _ _ _ h => h⟩
  · simp only [Bool.not_eq_true] at e
    rw [e] at h
    exact ⟨τ, h, fun _ _ _ h => h⟩
end
theorem lset_len {α : Type} {xs r : List α} {k : Nat} {v : α} (h : lset xs k v = r) : xs.length = r.length := by rw [← h]; simp [lset]
theorem clone_nil {α : Type} {b : Nat} {r : List α} (h : ((appM b [] ([] : List α)).bind fun y => some y) = some r) : r = [] := by
  obtain ⟨y, h1, h2⟩ := bind_some h
  obtain ⟨_, _, h3⟩ := appM_some h1
  rw [h3] at h2
  exact (some_in h2).symm
end Gv

namespace Gv
open Go
set_option linter.unusedVariables false
set_option linter.unusedSimpArgs false

def nilS : Value := .slice none 0 0

/-- the cells, with nil in place of the call's own slices -/
def blank : List (Nat × Value) → List Value → List Value
  | [], cs => cs
  | o :: r, cs => blank r (cs.set o.1 nilS)
theorem blank_length : ∀ {os : List (Nat × Value)} {cs : List Value}, (blank os cs).length = cs.length
  | [], _ => rfl
  | o :: r, cs => by rw [blank, blank_length, List.length_set]
theorem blank_get : ∀ {os : List (Nat × Value)} {cs : List Value} (i : Nat), (blank os cs)[i]? = if os.any (fun h => Nat.beq h.1 i) = true then cs[i]?.map (fun _ => nilS) else cs[i]?
  | [], _, i => by simp [blank]
  | o :: r, cs, i => by
    rw [blank, blank_get i, List.any_cons]
    by_cases h : o.1 = i
    · subst h
      simp only [Nat.beq_refl, Bool.true_or, if_true, List.getElem?_set]
      by_cases hl : o.1 < cs.length
      · simp [hl]
      · simp [hl]
    · have hb : Nat.beq o.1 i = false := by
        cases hb : Nat.beq o.1 i
        · rfl
        · exact absurd (look_beq.1 hb) h
      rw [hb, Bool.false_or, List.getElem?_set_ne h]

/-- none of the own slices lies among n cells from off on -/
def apartB (os : List (Nat × Value)) (off n : Nat) : Bool := os.all fun h => Nat.blt h.1 off || Nat.ble (off + n) h.1
theorem apartB_any {os : List (Nat × Value)} {off n i : Nat} (h : apartB os off n = true) (h1 : off ≤ i) (h2 : i < off + n) : os.any (fun h => Nat.beq h.1 i) = false := by
  rw [List.any_eq_false]
  intro x hx hb
  have h3 := List.all_eq_true.1 h x hx
  have h4 := look_beq.1 hb
  simp only [Bool.or_eq_true, Nat.blt_eq, Nat.ble_eq] at h3
  omega
theorem blank_cut {os : List (Nat × Value)} {off n : Nat} {cs : List Value} (h : apartB os off n = true) : ((blank os cs).drop off).take n = (cs.drop off).take n := by
  apply List.ext_getElem?
  intro i
  simp only [List.getElem?_take, List.getElem?_drop]
  split
  · rw [blank_get, apartB_any h (by omega) (by omega)]; rfl
  · rfl
theorem splice_get {cs ds : List Value} {off : Nat} (h : off + ds.length ≤ cs.length) (i : Nat) : (splice cs off ds)[i]? = if i < off then cs[i]? else if i < off + ds.length then ds[i - off]? else cs[i]? := by
  have h1 : (cs.take off).length = off := by rw [List.length_take]; omega
  unfold splice
  rw [List.append_assoc]
  by_cases hi : i < off
  · rw [if_pos hi, List.getElem?_append_left (by omega), List.getElem?_take, if_pos hi]
  · rw [if_neg hi, List.getElem?_append_right (by omega), h1]
    by_cases h2 : i < off + ds.length
    · rw [if_pos h2, List.getElem?_append_left (by omega)]
    · rw [if_neg h2, List.getElem?_append_right (by omega), List.getElem?_drop]
      congr 1; omega
theorem blank_splice {os : List (Nat × Value)} {off : Nat} {cs ds : List Value} (h : apartB os off ds.length = true) (hs : off + ds.length ≤ cs.length) : blank os (splice cs off ds) = splice (blank os cs) off ds := by
  apply List.ext_getElem?
  intro i
  rw [blank_get, splice_get hs, splice_get (by rw [blank_length]; exact hs), blank_get]
  by_cases h1 : i < off
  · simp only [if_pos h1]
  · simp only [if_neg h1]
    by_cases h2 : i < off + ds.length
    · simp only [if_pos h2, apartB_any h (Nat.not_lt.1 h1) h2]; rfl
    · simp only [if_neg h2]

/-- own slice u at o; those that were there before -/
def setHole (os : List (Nat × Value)) (o : Nat) (u : Value) : List (Nat × Value) :=
  bif os.any (fun h => Nat.beq h.1 o) then os.map (fun h => bif Nat.beq h.1 o then (o, u) else h) else (o, u) :: os
theorem setHole_mem {os : List (Nat × Value)} {o : Nat} {u : Value} {h : Nat × Value} (hm : h ∈ setHole os o u) : h = (o, u) ∨ (h ∈ os ∧ h.1 ≠ o) := by
  unfold setHole at hm
  cases hb : os.any (fun h => Nat.beq h.1 o)
  · rw [hb] at hm
    simp only [cond_false] at hm
    rcases List.mem_cons.1 hm with hm | hm
    · exact .inl hm
    · refine .inr ⟨hm, fun e => ?_⟩
      have := List.any_eq_false.1 hb h hm
      exact this (look_beq.2 e)
  · rw [hb] at hm
    simp only [cond_true] at hm
    obtain ⟨x, hx, he⟩ := List.mem_map.1 hm
    cases h1 : Nat.beq x.1 o
    · rw [h1] at he
      simp only [cond_false] at he
      subst he
      exact .inr ⟨hx, fun e => by rw [look_beq.2 e] at h1; cases h1⟩
    · rw [h1] at he
      exact .inl he.symm
theorem setHole_any {os : List (Nat × Value)} {o i : Nat} {u : Value} : (setHole os o u).any (fun h => Nat.beq h.1 i) = (Nat.beq o i || os.any (fun h => Nat.beq h.1 i)) := by
  unfold setHole
  cases hb : os.any (fun h => Nat.beq h.1 o)
  · simp only [cond_false, List.any_cons]
  · simp only [cond_true, List.any_map]
    rw [Bool.eq_iff_iff, Bool.or_eq_true, List.any_eq_true, List.any_eq_true]
    constructor
    · rintro ⟨x, hx, he⟩
      simp only [Function.comp] at he
      cases h1 : Nat.beq x.1 o
      · rw [h1] at he
        exact .inr ⟨x, hx, he⟩
      · rw [h1] at he
        exact .inl he
    · rintro (h | ⟨x, hx, he⟩)
      · obtain ⟨x, hx, h1⟩ := List.any_eq_true.1 hb
        exact ⟨x, hx, by simp only [Function.comp, h1, cond_true]; exact h⟩
      · refine ⟨x, hx, ?_⟩
        simp only [Function.comp]
        cases h1 : Nat.beq x.1 o
        · exact he
        · have e1 := look_beq.1 h1; have e2 := look_beq.1 he
          simp only [cond_true]; exact look_beq.2 (by omega)
def delHole (os : List (Nat × Value)) (o : Nat) : List (Nat × Value) := os.filter (fun h => !Nat.beq h.1 o)
theorem delHole_any {os : List (Nat × Value)} {o i : Nat} : (delHole os o).any (fun h => Nat.beq h.1 i) = (!(Nat.beq o i) && os.any (fun h => Nat.beq h.1 i)) := by
  rw [Bool.eq_iff_iff]
  simp only [List.any_eq_true, Bool.and_eq_true, Bool.not_eq_true', delHole, List.mem_filter]
  constructor
  · rintro ⟨x, ⟨h1, h2⟩, h3⟩
    refine ⟨?_, x, h1, h3⟩
    cases hb : Nat.beq o i
    · rfl
    · have := look_beq.1 hb; have h4 := look_beq.1 h3
      rw [h4, ← this, Nat.beq_refl] at h2; cases h2
  · rintro ⟨h0, x, h1, h3⟩
    refine ⟨x, ⟨h1, ?_⟩, h3⟩
    cases hb : Nat.beq x.1 o
    · rfl
    · have := look_beq.1 hb; have h4 := look_beq.1 h3
      rw [← this, h4, Nat.beq_refl] at h0; cases h0

/-- the cells represent x, apart from slices of the call's own, which are told one by one -/
def RepH {α : Type} [Rp α] (A : List Nat) (W : World) (cs : List Value) (x : α) (os : List (Nat × Value)) : Prop := Rp.rep A W (blank os cs) x ∧ ∀ h ∈ os, cs[h.1]? = some h.2 ∧ h.2.oneCell' = true
theorem RepH.len {α : Type} [Rp α] {A W} {cs : List Value} {x : α} {os : List (Nat × Value)} (h : RepH A W cs x os) : cs.length = Rp.size α := by rw [← blank_length (os := os)]; exact Rp.len h.1
theorem RepH.mono {α : Type} [Rp α] {A W A' W'} {cs : List Value} {x : α} {os : List (Nat × Value)} (e : Ext A W A' W') (h : RepH A W cs x os) : RepH A' W' cs x os := ⟨Rp.mono e h.1, h.2⟩
theorem RepH.one {α : Type} [Rp α] {A W} {cs : List Value} {x : α} {os : List (Nat × Value)} (h : RepH A W cs x os) : ∀ u ∈ cs, u.oneCell' = true := by
  intro u hu
  obtain ⟨i, hi⟩ := List.mem_iff_getElem?.1 hu
  by_cases hb : os.any (fun h => Nat.beq h.1 i) = true
  · obtain ⟨o, ho, he⟩ := List.any_eq_true.1 hb
    have he := look_beq.1 he
    obtain ⟨h1, h2⟩ := h.2 o ho
    rw [he, hi] at h1
    cases h1; exact h2
  · have h1 := blank_get (os := os) (cs := cs) i
    rw [if_neg hb, hi] at h1
    exact Rp.one h.1 u (List.mem_of_getElem? h1)

/-- a variable in a block of its own; slices of the call's own in its fields are told one by one, elsewhere it is as x says -/
def CP.varX {α : Type} [Rp α] (x : α) (os : List (Nat × Value)) : CP where
  holds A W o := ∃ cs T, o = .cells cs T (0, 0) ∧ RepH A W cs.toList x os
  nilOk := False
  mono e h := let ⟨cs, T, ho, hr⟩ := h; ⟨cs, T, ho, hr.mono e⟩

/-- a value with slices of the call's own in its fields -/
def VP.ofX {α : Type} [Rp α] (x : α) (os : List (Nat × Value)) : VP where
  holds A W v := shaped (Rp.agg α) v ∧ RepH A W v.cells.toList x os
  mono e h := ⟨h.1, h.2.mono e⟩

/-- the very value of one cell -/
structure Ex where
  v : Value
instance : Rp Ex where
  size := 1
  agg := false
  rep _ _ cs x := cs = [x.v] ∧ x.v.oneCell' = true
  len h := by rw [h.1]; rfl
  one h := by rw [h.1]; intro u hu; rw [List.mem_singleton.1 hu]; exact h.2
  flat _ := rfl
  mono _ h := h
theorem of_ex {A W v} {u : Value} : (VP.of (⟨u⟩ : Ex)).holds A W v ↔ v = u ∧ u.oneCell' = true := by
  constructor
  · rintro ⟨h1, h2, h3⟩
    have h1 : v.oneCell' = true := h1
    exact ⟨toList_one h1 h2, h3⟩
  · rintro ⟨rfl, h⟩
    exact ⟨h, by show v.cells.toList = [v] ∧ _; rw [cells_one h]; exact ⟨rfl, h⟩⟩
theorem Ty.ex {P : Program} {t : TypeId} {γ : Type} [Rp γ] (h : Ty P t (List γ)) : Ty P t Ex := ⟨h.size, h.und⟩
theorem slv_one {key : Option Nat} {n cap : Nat} : (slv key n cap).oneCell' = true := by cases key <;> rfl
theorem rep_nil {A W} {γ : Type} [Rp γ] : Rp.rep A W [nilS] ([] : List γ) := ⟨nilS, rfl, .inl ⟨rfl, rfl⟩⟩

theorem repH_set {α γ : Type} [Rp α] [Rp γ] {A W} {cs ds : List Value} {x : α} {v : γ} {os : List (Nat × Value)} (l : Lens α γ) (h : RepH A W cs x os) (hd : Rp.rep A W ds v) (ha : apartB os l.off (Rp.size γ) = true) : RepH A W (splice cs l.off ds) (l.set x v) os := by
  have h1 := h.len
  have hin := l.inb
  have hl := Rp.len hd
  refine ⟨?_, fun o hm => ?_⟩
  · have h6 := l.set_rep h.1 hd
    rw [blank_splice (by rw [hl]; exact ha) (by rw [hl]; omega)]
    simpa [splice, hl] using h6
  · refine ⟨?_, (h.2 o hm).2⟩
    rw [splice_get (by rw [hl]; omega)]
    have h7 := List.all_eq_true.1 ha o hm
    simp only [Bool.or_eq_true, Nat.blt_eq, Nat.ble_eq] at h7
    rw [hl]
    by_cases h8 : o.1 < l.off
    · rw [if_pos h8]; exact (h.2 o hm).1
    · rw [if_neg h8, if_neg (by omega)]; exact (h.2 o hm).1

theorem repH_hole {α γ : Type} [Rp α] [Rp γ] {A W} {cs : List Value} {x : α} {u : Value} {os : List (Nat × Value)} (l : Lens α (List γ)) (h : RepH A W cs x os) (hu : u.oneCell' = true) : RepH A W (splice cs l.off [u]) (l.set x []) (setHole os l.off u) := by
  have h1 := h.len
  have hin : l.off + 1 ≤ Rp.size α := l.inb
  refine ⟨?_, fun o hm => ?_⟩
  · have h6 : Rp.rep A W ((blank os cs).take l.off ++ [nilS] ++ (blank os cs).drop (l.off + 1)) (l.set x []) := l.set_rep h.1 (rep_nil (γ := γ))
    have e : blank (setHole os l.off u) (splice cs l.off [u]) = splice (blank os cs) l.off [nilS] := by
      apply List.ext_getElem?
      intro i
      rw [blank_get, splice_get (by simp; omega), splice_get (by rw [blank_length]; simp; omega), blank_get]
      rw [setHole_any]
      by_cases hi : l.off = i
      · subst hi
        simp
      · have hb : Nat.beq l.off i = false := by
          cases hb : Nat.beq l.off i
          · rfl
          · exact absurd (look_beq.1 hb) hi
        rw [hb]
        simp only [Bool.false_or, List.length_singleton]
        by_cases h2 : i < l.off
        · simp only [if_pos h2]
        · have h9 : ¬ i < l.off + 1 := by omega
          simp only [if_neg h2, if_neg h9]
    rw [e]
    simpa [splice] using h6
  · rw [splice_get (by simp; omega)]
    rcases setHole_mem hm with rfl | ⟨h3, hne⟩
    · exact ⟨by simp, hu⟩
    ·
      simp only [List.length_singleton]
      refine ⟨?_, (h.2 o h3).2⟩
      by_cases h8 : o.1 < l.off
      · rw [if_pos h8]; exact (h.2 o h3).1
      · rw [if_neg h8, if_neg (by omega)]; exact (h.2 o h3).1

/-- an own slice in a field becomes one that is read -/
theorem repH_fill {α γ : Type} [Rp α] [Rp γ] {A W} {cs : List Value} {x : α} {u : Value} {xs : List γ} {os : List (Nat × Value)} (l : Lens α (List γ)) (h : RepH A W cs x os) (hm : (l.off, u) ∈ os) (hs : Sl A W u xs) : RepH A W cs (l.set x xs) (delHole os l.off) := by
  have h1 := h.len
  have hin : l.off + 1 ≤ Rp.size α := l.inb
  have hcu := (h.2 _ hm).1
  refine ⟨?_, fun o ho => h.2 o (List.mem_filter.1 ho).1⟩
  have h6 : Rp.rep A W ((blank os cs).take l.off ++ [u] ++ (blank os cs).drop (l.off + 1)) (l.set x xs) := l.set_rep h.1 (ds := [u]) (g := xs) ⟨u, rfl, hs⟩
  have e : blank (delHole os l.off) cs = splice (blank os cs) l.off [u] := by
    apply List.ext_getElem?
    intro i
    rw [blank_get, splice_get (by rw [blank_length]; simp; omega), blank_get, delHole_any]
    by_cases hi : l.off = i
    · subst hi
      simp [hcu]
    · have hb : Nat.beq l.off i = false := by
        cases hb : Nat.beq l.off i
        · rfl
        · exact absurd (look_beq.1 hb) hi
      rw [hb]
      simp only [Bool.not_false, Bool.true_and, List.length_singleton]
      by_cases h2 : i < l.off
      · simp only [if_pos h2]
      · have h9 : ¬ i < l.off + 1 := by omega
        simp only [if_neg h2, if_neg h9]
  rw [e]
  simpa [splice] using h6

section
variable {c : Cx} {E : List (Nat × VP)} {L : List Ent} {ops : Array Oper} {Q : Exit → Act → World → Prop}
variable {d : Option Tmp} {ty : TypeId} {pos : String} {af : Array Edge} {g : Option (Nat × Bool)} {x y : Operand} {t t2 : TypeId}

/-- an entry is told in other words -/
theorem St.retell {a : Act} {W : World} (s : St c E L a W) {i : Nat} {key : Option Nat} {cp cp' : CP} (hL : L[i]? = some ⟨key, cp⟩) (h : ∀ o, cp.holds (ks L ++ c.A0) W o → cp'.holds (ks L ++ c.A0) W o) (hn : cp.nilOk → cp'.nilOk) : St c E (L.set i ⟨key, cp'⟩) a W := by
  have hks : ks (L.set i ⟨key, cp'⟩) = ks L := ks_set (e := ⟨key, cp⟩) (cp := cp') hL
  exact
  { defers := s.defers
    size := s.size
    env := fun t τ hl => by rw [hks]; exact s.env t τ hl
    fr := s.fr
    own := fun e he => by
      rw [hks]
      obtain ⟨j, hj⟩ := List.mem_iff_getElem?.1 he
      rw [List.getElem?_set] at hj
      split at hj
      · split at hj
        · simp only [Option.some.injEq] at hj
          subst hj
          have ho := s.own _ (List.mem_of_getElem? hL)
          cases key with
          | none => exact hn ho
          | some p => obtain ⟨o, h1, h2⟩ := ho; exact ⟨o, h1, h _ h2⟩
        · cases hj
      · exact s.own e (List.mem_of_getElem? hj)
    nodup := by rw [hks]; exact s.nodup
    lt := by rw [hks]; exact s.lt
    mine := by rw [hks]; exact s.mine
    old := by rw [hks]; exact s.old }

theorem Sq.fromX {l : List Oper} {p : Nat} {β : Type} [Rp β] {b : β} (i : Nat) (hL : L[i]? = some ⟨some p, .varX b []⟩) (k : Sq c ops Q l E (L.set i ⟨some p, .var b⟩)) : Sq c ops Q l E L := fun a W s =>
  k a W (s.retell hL (fun o ⟨cs, T, h1, h2⟩ => ⟨cs, T, h1, h2.1⟩) id)
theorem To.fromX {z : Exit} {p : Nat} {β : Type} [Rp β] {b : β} (i : Nat) (hL : L[i]? = some ⟨some p, .varX b []⟩) (k : To c Q z E (L.set i ⟨some p, .var b⟩)) : To c Q z E L := fun a W s =>
  k a W (s.retell hL (fun o ⟨cs, T, h1, h2⟩ => ⟨cs, T, h1, h2.1⟩) id)
theorem Wp.fromX {z : Code} {p : Nat} {β : Type} [Rp β] {b : β} (i : Nat) (hL : L[i]? = some ⟨some p, .varX b []⟩) (k : Wp c Q z E (L.set i ⟨some p, .var b⟩)) : Wp c Q z E L := fun a W s =>
  k a W (s.retell hL (fun o ⟨cs, T, h1, h2⟩ => ⟨cs, T, h1, h2.1⟩) id)

def isNilS : Option Value → Bool
  | some (.slice none 0 0) => true
  | _ => false
theorem isNilS_iff {v : Option Value} (h : isNilS v = true) : v = some nilS := by
  unfold isNilS at h
  split at h
  · rfl
  · cases h
/-- the zero value of a type has nil slices at these cells -/
def Zh (P : Program) (t : TypeId) (hs : List Nat) : Prop := ((P.info? t).bind (·.zero)).any (fun v => hs.all fun o => isNilS v.cells.toList[o]?) = true

theorem blank_self : ∀ {os : List (Nat × Value)} {cs : List Value}, (∀ h ∈ os, cs[h.1]? = some nilS) → blank os cs = cs
  | [], _, _ => rfl
  | o :: r, cs, h => by
    have h1 := h o (by simp)
    have e : cs.set o.1 nilS = cs := by
      apply List.ext_getElem?
      intro i
      rw [List.getElem?_set]
      split
      · rename_i he; subst he
        have := (List.getElem?_eq_some_iff.1 h1).1
        rw [if_pos this, h1]
      · rfl
    rw [blank, e]
    exact blank_self fun x hx => h x (by simp [hx])

theorem Sq.allocX {rest : List Oper} {dd : Nat} {α : Type} [Rp α] {z : α} (hs : List Nat) (zh : Zh c.P t hs) (zr : Zr c.P t z) (hn : Nat.blt dd c.n = true)
    (k : ∀ p, Sq c ops Q rest ((dd, .eq (.pointer (some ⟨p, 0, none⟩))) :: E) (⟨some p, .varX z (hs.map fun o => (o, nilS))⟩ :: L)) : Sq c ops Q (⟨some dd, .alloc t, ty, pos, af, none⟩ :: rest) E L := fun a W s => by
  obtain ⟨i, zv, h1, h2, h3⟩ := zr.zero
  have hh : ∀ o ∈ hs, zv.cells.toList[o]? = some nilS := fun o ho => by
    unfold Zh at zh
    rw [h1] at zh
    simp only [Option.bind_some, h2, Option.any_some] at zh
    exact isNilS_iff (List.all_eq_true.1 zh o ho)
  have hh2 : ∀ h ∈ hs.map (fun o => (o, nilS)), zv.cells.toList[h.1]? = some h.2 := fun h hm => by
    obtain ⟨o, ho, rfl⟩ := List.mem_map.1 hm
    exact hh o ho
  refine wpList_op rfl (R := fun v W' => v = .pointer (some ⟨W.heap.size, 0, none⟩) ∧ W' = W.alloc (.cells zv.cells t)) (.of_run ?_ ⟨rfl, rfl⟩) fun v W' ⟨hv, hw⟩ => ?_
  · simp [execOp, Instr.alloc, zeroValue, typeInfo, h1, h2, newVar, newRow]
  · subst hv
    subst hw
    refine k _ _ _ ((s.alloc (cp := .varX z (hs.map fun o => (o, nilS))) ⟨zv.cells, t, rfl, ?_, fun h hm => ⟨hh2 h hm, by obtain ⟨o, _, rfl⟩ := List.mem_map.1 hm; rfl⟩⟩).put (by simpa using hn) rfl)
    rw [blank_self fun h hm => by rw [hh2 h hm]; obtain ⟨o, _, rfl⟩ := List.mem_map.1 hm; rfl]
    exact (h3 _ _).2

/-- boxed: a value with own slices -/
theorem Sq.boxX {rest : List Oper} {dd : Nat} {α : Type} [Rp α] {z : α} {os : List (Nat × Value)} (hx : Look c E L x (.ofX z os)) (hn : Nat.blt dd c.n = true)
    (k : ∀ p, Sq c ops Q rest ((dd, .eq (.pointer (some ⟨p, 0, none⟩))) :: E) (⟨some p, .varX z os⟩ :: L)) : Sq c ops Q (⟨some dd, .box t x, ty, pos, af, none⟩ :: rest) E L := fun a W s => by
  refine wpList_op rfl (R := fun v W' => v = .pointer (some ⟨W.heap.size, 0, none⟩) ∧ W' = W.alloc (.cells (a.eval x).cells t)) (.of_run ?_ ⟨rfl, rfl⟩) fun v W' ⟨hv, hw⟩ => ?_
  · simp [execOp, Instr.box, newVar, newRow]
  · subst hv
    subst hw
    obtain ⟨h1, h2⟩ := hx a W s
    exact k _ _ _ ((s.alloc (cp := .varX z os) ⟨_, t, rfl, h2⟩).put (by simpa using hn) rfl)

theorem r_loadX {t : TypeId} {i p o : Nat} {β γ : Type} [Rp β] [Rp γ] {b : β} {os : List (Nat × Value)} (l : Lens β γ) {r : γ} (tt : Ty c.P t γ) (hx : Look c E L x (.eq (.pointer (some ⟨p, o, none⟩))))
    (hL : L[i]? = some ⟨some p, .varX b os⟩) (ho : o = l.off) (hr : l.get b = r) (ha : apartB os l.off (Rp.size γ) = true) : HR c E L ⟨d, .load t x, ty, pos, af, g⟩ (.of r) := .pure fun a W s => by
  subst ho
  subst hr
  obtain ⟨ob, hob, cs, T, rfl, hrep⟩ := s.own _ (List.mem_of_getElem? hL)
  have h1 : cs.toList.length = Rp.size β := hrep.len
  have h5 := l.get_rep hrep.1
  rw [blank_cut ha] at h5
  obtain ⟨v, h2, h3⟩ := run_loadVar_at (A := ks L ++ c.A0) tt hob (by have := l.inb; simp at h1; omega) h5
  refine ⟨v, ?_, h3⟩
  have h4 : a.eval x = _ := hx a W s
  simp [execOp, Instr.loadAt, Instr.sureAddr, h4, h2]

theorem cell_at {cs : List Value} {o : Nat} {u : Value} (h : cs[o]? = some u) : (cs.drop o).take 1 = [u] := by
  apply List.ext_getElem?
  intro i
  rw [List.getElem?_take, List.getElem?_drop]
  cases i with
  | zero => simpa using h
  | succ i => simp

/-- an own slice is read out of its field -/
theorem r_loadH {t : TypeId} {i p o q : Nat} {β γ : Type} [Rp β] [Rp γ] {b : β} {os : List (Nat × Value)} {u : Value} (tt : Ty c.P t (List γ)) (hx : Look c E L x (.eq (.pointer (some ⟨p, o, none⟩))))
    (hL : L[i]? = some ⟨some p, .varX b os⟩) (hq : os[q]? = some (o, u)) : HR c E L ⟨d, .load t x, ty, pos, af, g⟩ (.eq u) := .pure fun a W s => by
  obtain ⟨ob, hob, cs, T, rfl, hrep, hh⟩ := s.own _ (List.mem_of_getElem? hL)
  obtain ⟨h5, hu⟩ := hh _ (List.mem_of_getElem? hq)
  have hlt : o < cs.size := by have := (List.getElem?_eq_some_iff.1 h5).1; simpa using this
  obtain ⟨v, h2, h3⟩ := run_loadVar_at (α := Ex) (x := ⟨u⟩) (A := ks L ++ c.A0) tt.ex hob (show o + 1 ≤ cs.size by omega) ⟨cell_at h5, hu⟩
  refine ⟨v, ?_, (of_ex.1 h3).1⟩
  have h4 : a.eval x = _ := hx a W s
  simp [execOp, Instr.loadAt, Instr.sureAddr, h4, h2]

theorem Sq.storeX {t : TypeId} {rest : List Oper} {i p o : Nat} {β γ : Type} [Rp β] [Rp γ] {b b' : β} {v : γ} {os : List (Nat × Value)} (l : Lens β γ) (tt : Ty c.P t γ) (hx : Look c E L x (.eq (.pointer (some ⟨p, o, none⟩))))
    (hy : Look c E L y (.of v)) (hL : L[i]? = some ⟨some p, .varX b os⟩) (ho : o = l.off) (hb : l.set b v = b') (ha : apartB os l.off (Rp.size γ) = true)
    (k : Sq c ops Q rest E (L.set i ⟨some p, .varX b' os⟩)) : Sq c ops Q (⟨none, .store t x y, ty, pos, af, none⟩ :: rest) E L := fun a W s => by
  subst ho
  subst hb
  obtain ⟨ob, hob, cs, T, rfl, hrep⟩ := s.own _ (List.mem_of_getElem? hL)
  have h1 : cs.toList.length = Rp.size β := hrep.len
  have hin := l.inb
  have hv := hy a W s
  have h2 := run_storeVar_at (A := ks L ++ c.A0) tt hob (off := l.off) (by simp at h1; omega) hv
  have h4 : a.eval x = _ := hx a W s
  refine wpList_op rfl (R := fun v W' => W' = W.setRow p (splice cs.toList l.off (a.eval y).cells.toList).toArray) (.of_skip ?_ rfl) fun v W' hw => ?_
  · simp [execOp, Instr.storeAt, Instr.sureAddr, h4, h2]
  · subst hw
    exact k _ _ (s.store hL hob ⟨_, T, rfl, by rw [List.toList_toArray]; exact repH_set l hrep hv.2 ha⟩)

/-- an own slice is put into a field -/
theorem Sq.storeH {t : TypeId} {rest : List Oper} {i p o : Nat} {β γ : Type} [Rp β] [Rp γ] {b b' : β} {u : Value} {os os' : List (Nat × Value)} (l : Lens β (List γ)) (tt : Ty c.P t (List γ)) (hx : Look c E L x (.eq (.pointer (some ⟨p, o, none⟩))))
    (hy : Look c E L y (.eq u)) (hu : u.oneCell' = true) (hL : L[i]? = some ⟨some p, .varX b os⟩) (ho : o = l.off) (hb : l.set b [] = b') (hos : setHole os o u = os')
    (k : Sq c ops Q rest E (L.set i ⟨some p, .varX b' os'⟩)) : Sq c ops Q (⟨none, .store t x y, ty, pos, af, none⟩ :: rest) E L := fun a W s => by
  subst ho
  subst hb
  subst hos
  obtain ⟨ob, hob, cs, T, rfl, hrep⟩ := s.own _ (List.mem_of_getElem? hL)
  have h1 : cs.toList.length = Rp.size β := hrep.len
  have hin : l.off + 1 ≤ Rp.size β := l.inb
  have hyv : a.eval y = u := hy a W s
  have hv : (VP.of (⟨u⟩ : Ex)).holds (ks L ++ c.A0) W (a.eval y) := of_ex.2 ⟨hyv, hu⟩
  have h2 := run_storeVar_at (A := ks L ++ c.A0) tt.ex hob (off := l.off) (show l.off + 1 ≤ cs.size by simp at h1; omega) hv
  have h4 : a.eval x = _ := hx a W s
  have hcl : (a.eval y).cells.toList = [u] := by rw [hyv, cells_one hu]
  rw [hcl] at h2
  refine wpList_op rfl (R := fun v W' => W' = W.setRow p (splice cs.toList l.off [u]).toArray) (.of_skip ?_ rfl) fun v W' hw => ?_
  · simp [execOp, Instr.storeAt, Instr.sureAddr, h4, h2]
  · subst hw
    exact k _ _ (s.store hL hob ⟨_, T, rfl, by rw [List.toList_toArray]; exact repH_hole l hrep hu⟩)

theorem run_storeVar_raw {P : Program} {W : World} {b off : Nat} {cur : Array Value} {T t : TypeId} {α : Type} [Rp α] {v : Value} (ty : Ty P t α)
    (hb : W.heap[b]? = some (.cells cur T (0, 0))) (hs : off + Rp.size α ≤ cur.size) (hl : v.cells.toList.length = Rp.size α) (h1 : ∀ u ∈ v.cells.toList, u.oneCell' = true) :
    (storeVar t ⟨b, off, none⟩ v).run P W = .ok () (W.setRow b (splice cur.toList off v.cells.toList).toArray) := by
  have h2 := run_storeCells_at P b off T v.cells.toList 0 cur W hb (by rw [hl]; omega) h1
  have hsz : v.cells.size = Rp.size α := by simpa using hl
  simp only [Nat.add_zero] at h2
  simp only [storeVar, Sem.run_bind, ty.sizeOf, Result.andThen_ok, hsz]
  simp only [ne_eq, not_true_eq_false, ↓reduceIte, Sem.run_pure, Sem.run_bind, Result.andThen_ok]
  simpa [splice] using h2

/-- a value is put over all of the variable -/
theorem Sq.storeW {t : TypeId} {rest : List Oper} {i p : Nat} {β : Type} [Rp β] {b b' : β} {os os' : List (Nat × Value)} (tt : Ty c.P t β) (hx : Look c E L x (.eq (.pointer (some ⟨p, 0, none⟩))))
    (hy : Look c E L y (.ofX b' os')) (hL : L[i]? = some ⟨some p, .varX b os⟩)
    (k : Sq c ops Q rest E (L.set i ⟨some p, .varX b' os'⟩)) : Sq c ops Q (⟨none, .store t x y, ty, pos, af, none⟩ :: rest) E L := fun a W s => by
  obtain ⟨ob, hob, cs, T, rfl, hrep⟩ := s.own _ (List.mem_of_getElem? hL)
  have h1 : cs.toList.length = Rp.size β := hrep.len
  obtain ⟨g1, g2⟩ := hy a W s
  have hl := g2.len
  have h2 := run_storeVar_raw tt hob (off := 0) (by simp at h1; omega) hl g2.one
  have h4 : a.eval x = _ := hx a W s
  have e : splice cs.toList 0 (a.eval y).cells.toList = (a.eval y).cells.toList := by
    unfold splice
    rw [List.take_zero, List.nil_append, Nat.zero_add, hl, ← h1, List.drop_length, List.append_nil]
  rw [e] at h2
  refine wpList_op rfl (R := fun v W' => W' = W.setRow p (a.eval y).cells.toList.toArray) (.of_skip ?_ rfl) fun v W' hw => ?_
  · simp [execOp, Instr.storeAt, Instr.sureAddr, h4, h2]
  · subst hw
    exact k _ _ (s.store hL hob ⟨_, T, rfl, by rw [List.toList_toArray]; exact g2⟩)

theorem r_nck {p : Addr} (hx : Look c E L x (.eq (.pointer (some p)))) : HR c E L ⟨d, .nilCheck x, ty, pos, af, g⟩ (.eq (.pointer (some p))) := .pure fun a W s => by
  have h4 : a.eval x = _ := hx a W s
  exact ⟨_, by simp [execOp, h4], rfl⟩
theorem r_nckp {γ : Type} [Rp γ] {r : γ} (hx : Look c E L x (.ptr r)) : HR c E L ⟨d, .nilCheck x, ty, pos, af, g⟩ (.ptr r) := .pure fun a W s => by
  have hp := hx a W s
  obtain ⟨b, off, cur, T, fz, h4, h5⟩ := hp
  exact ⟨_, by simp [execOp, h4], b, off, cur, T, fz, rfl, h5⟩

/-- an own slice in a field is let go: it reads as a list from here on -/
theorem St.thaw {a : Act} {W : World} (s : St c E L a W) {i j p cap T : Nat} {key : Option Nat} {β γ : Type} [Rp β] [Rp γ] {b b' : β} {xs : List γ} {os os' : List (Nat × Value)} (l : Lens β (List γ)) (hij : i ≠ j) (hL : L[i]? = some ⟨some p, .varX b os⟩) (hJ : L[j]? = some ⟨key, .row T xs cap⟩)
    (q : Nat) (hq : os[q]? = some (l.off, slv key xs.length cap)) (hb : l.set b xs = b') (hos : delHole os l.off = os') : St c E ((L.set j ⟨none, .dead⟩).set i ⟨some p, .varX b' os'⟩) a W := by
  subst hb
  subst hos
  have hk := s.kill j
  have hi : (L.set j ⟨none, .dead⟩)[i]? = some ⟨some p, .varX b os⟩ := by rw [List.getElem?_set_ne (fun e => hij e.symm)]; exact hL
  have hsub := ks_set_none_sub (L := L) (i := j) (cp := .dead)
  have hsl : Sl (ks (L.set j ⟨none, .dead⟩) ++ c.A0) W (slv key xs.length cap) xs := by
    have ho := s.own _ (List.mem_of_getElem? hJ)
    cases key with
    | none => exact .inl ⟨rfl, ho.1⟩
    | some p =>
      obtain ⟨o, hob, cs, rfl, hsz, hn, hcm, hr⟩ := ho
      obtain ⟨h3, h4⟩ := reps_prefix hsz hn hr
      refine .inr ⟨p, 0, cap, cs, T, (0, 0), rfl, s.not_left hJ, hob, hn, by omega, h3, ?_⟩
      exact h4.mono (.drop fun k hm => by
        rcases List.mem_append.1 hm with hm | hm
        · exact List.mem_append.2 (.inl (hsub.subset hm))
        · exact List.mem_append.2 (.inr hm))
  exact hk.retell hi (fun o ⟨cs, T, h1, h2⟩ => ⟨cs, T, h1, repH_fill l h2 (List.mem_of_getElem? hq) hsl⟩) id
theorem Sq.thaw {l0 : List Oper} {p cap T : Nat} {key : Option Nat} {β γ : Type} [Rp β] [Rp γ] {b b' : β} {xs : List γ} {os os' : List (Nat × Value)} (l : Lens β (List γ)) (i j q : Nat) (hij : Nat.beq i j = false) (hL : L[i]? = some ⟨some p, .varX b os⟩) (hJ : L[j]? = some ⟨key, .row T xs cap⟩)
    (hq : os[q]? = some (l.off, slv key xs.length cap)) (hb : l.set b xs = b') (hos : delHole os l.off = os') (k : Sq c ops Q l0 E ((L.set j ⟨none, .dead⟩).set i ⟨some p, .varX b' os'⟩)) : Sq c ops Q l0 E L :=
  fun a W s => k a W (s.thaw l (fun e => by rw [e, Nat.beq_refl] at hij; cases hij) hL hJ q hq hb hos)
theorem To.thaw {z : Exit} {p cap T : Nat} {key : Option Nat} {β γ : Type} [Rp β] [Rp γ] {b b' : β} {xs : List γ} {os os' : List (Nat × Value)} (l : Lens β (List γ)) (i j q : Nat) (hij : Nat.beq i j = false) (hL : L[i]? = some ⟨some p, .varX b os⟩) (hJ : L[j]? = some ⟨key, .row T xs cap⟩)
    (hq : os[q]? = some (l.off, slv key xs.length cap)) (hb : l.set b xs = b') (hos : delHole os l.off = os') (k : To c Q z E ((L.set j ⟨none, .dead⟩).set i ⟨some p, .varX b' os'⟩)) : To c Q z E L :=
  fun a W s => k a W (s.thaw l (fun e => by rw [e, Nat.beq_refl] at hij; cases hij) hL hJ q hq hb hos)
theorem Wp.thaw {z : Code} {p cap T : Nat} {key : Option Nat} {β γ : Type} [Rp β] [Rp γ] {b b' : β} {xs : List γ} {os os' : List (Nat × Value)} (l : Lens β (List γ)) (i j q : Nat) (hij : Nat.beq i j = false) (hL : L[i]? = some ⟨some p, .varX b os⟩) (hJ : L[j]? = some ⟨key, .row T xs cap⟩)
    (hq : os[q]? = some (l.off, slv key xs.length cap)) (hb : l.set b xs = b') (hos : delHole os l.off = os') (k : Wp c Q z E ((L.set j ⟨none, .dead⟩).set i ⟨some p, .varX b' os'⟩)) : Wp c Q z E L :=
  fun a W s => k a W (s.thaw l (fun e => by rw [e, Nat.beq_refl] at hij; cases hij) hL hJ q hq hb hos)

/-- .. and a slot that holds it reads as a list, too -/
theorem St.thawS {a : Act} {W : World} (s : St c E L a W) {i j p cap T sl : Nat} {key : Option Nat} {β γ : Type} [Rp β] [Rp γ] {b b' : β} {xs : List γ} {os os' : List (Nat × Value)} (l : Lens β (List γ)) (hij : i ≠ j) (hL : L[i]? = some ⟨some p, .varX b os⟩) (hJ : L[j]? = some ⟨key, .row T xs cap⟩)
    (q : Nat) (hq : os[q]? = some (l.off, slv key xs.length cap)) (hb : l.set b xs = b') (hos : delHole os l.off = os') (hsl : look E sl = some (.eq (slv key xs.length cap))) : St c ((sl, .of xs) :: E) ((L.set j ⟨none, .dead⟩).set i ⟨some p, .varX b' os'⟩) a W := by
  have h1 := s.freeze hsl hJ
  subst hb
  subst hos
  have hi : (L.set j ⟨none, .dead⟩)[i]? = some ⟨some p, .varX b os⟩ := by rw [List.getElem?_set_ne (fun e => hij e.symm)]; exact hL
  obtain ⟨v, h2, h3⟩ := h1.env sl (.of xs) (by simp [look, Nat.beq_refl])
  obtain ⟨v', h4, h5⟩ := s.env sl _ hsl
  rw [h2] at h4
  cases h4
  have h5 : v = _ := h5
  subst h5
  exact h1.retell hi (fun o ⟨cs, T, g1, g2⟩ => ⟨cs, T, g1, repH_fill l g2 (List.mem_of_getElem? hq) (of_list.1 h3)⟩) id
theorem Sq.thawS {l0 : List Oper} {p cap T : Nat} {key : Option Nat} {β γ : Type} [Rp β] [Rp γ] {b b' : β} {xs : List γ} {os os' : List (Nat × Value)} (l : Lens β (List γ)) (i j q sl : Nat) (hij : Nat.beq i j = false) (hL : L[i]? = some ⟨some p, .varX b os⟩) (hJ : L[j]? = some ⟨key, .row T xs cap⟩)
    (hq : os[q]? = some (l.off, slv key xs.length cap)) (hb : l.set b xs = b') (hos : delHole os l.off = os') (hsl : look E sl = some (.eq (slv key xs.length cap))) (k : Sq c ops Q l0 ((sl, .of xs) :: E) ((L.set j ⟨none, .dead⟩).set i ⟨some p, .varX b' os'⟩)) : Sq c ops Q l0 E L :=
  fun a W s => k a W (s.thawS l (fun e => by rw [e, Nat.beq_refl] at hij; cases hij) hL hJ q hq hb hos hsl)
theorem Wp.thawS {z : Code} {p cap T : Nat} {key : Option Nat} {β γ : Type} [Rp β] [Rp γ] {b b' : β} {xs : List γ} {os os' : List (Nat × Value)} (l : Lens β (List γ)) (i j q sl : Nat) (hij : Nat.beq i j = false) (hL : L[i]? = some ⟨some p, .varX b os⟩) (hJ : L[j]? = some ⟨key, .row T xs cap⟩)
    (hq : os[q]? = some (l.off, slv key xs.length cap)) (hb : l.set b xs = b') (hos : delHole os l.off = os') (hsl : look E sl = some (.eq (slv key xs.length cap))) (k : Wp c Q z ((sl, .of xs) :: E) ((L.set j ⟨none, .dead⟩).set i ⟨some p, .varX b' os'⟩)) : Wp c Q z E L :=
  fun a W s => k a W (s.thawS l (fun e => by rw [e, Nat.beq_refl] at hij; cases hij) hL hJ q hq hb hos hsl)
theorem To.thawS {z : Exit} {p cap T : Nat} {key : Option Nat} {β γ : Type} [Rp β] [Rp γ] {b b' : β} {xs : List γ} {os os' : List (Nat × Value)} (l : Lens β (List γ)) (i j q sl : Nat) (hij : Nat.beq i j = false) (hL : L[i]? = some ⟨some p, .varX b os⟩) (hJ : L[j]? = some ⟨key, .row T xs cap⟩)
    (hq : os[q]? = some (l.off, slv key xs.length cap)) (hb : l.set b xs = b') (hos : delHole os l.off = os') (hsl : look E sl = some (.eq (slv key xs.length cap))) (k : To c Q z ((sl, .of xs) :: E) ((L.set j ⟨none, .dead⟩).set i ⟨some p, .varX b' os'⟩)) : To c Q z E L :=
  fun a W s => k a W (s.thawS l (fun e => by rw [e, Nat.beq_refl] at hij; cases hij) hL hJ q hq hb hos hsl)

/-- the parts of a struct that is built, some of them slices of the call's own -/
inductive FillsX (c : Cx) (E : List (Nat × VP)) (L : List Ent) (place : Nat → Option (Nat × Nat)) {β : Type} [Rp β] : β → List (Nat × Value) → List (Nat × Operand) → β → List (Nat × Value) → Prop
  | nil {b os} : FillsX c E L place b os [] b os
  | cons {b b1 b' : β} {os os' : List (Nat × Value)} {γ : Type} [Rp γ] {v : γ} {i : Nat} {x : Operand} {r : List (Nat × Operand)} (l : Lens β γ) : place i = some (l.off, Rp.size γ) → Look c E L x (.of v) → l.set b v = b1 → apartB os l.off (Rp.size γ) = true → FillsX c E L place b1 os r b' os' → FillsX c E L place b os ((i, x) :: r) b' os'
  | hole {b b1 b' : β} {os os1 os' : List (Nat × Value)} {γ : Type} [Rp γ] {u : Value} {i : Nat} {x : Operand} {r : List (Nat × Operand)} (l : Lens β (List γ)) : place i = some (l.off, 1) → Look c E L x (.eq u) → u.oneCell' = true → l.set b [] = b1 → setHole os l.off u = os1 → FillsX c E L place b1 os1 r b' os' → FillsX c E L place b os ((i, x) :: r) b' os'

theorem FillsX.run {place : Nat → Option (Nat × Nat)} {β : Type} [Rp β] {b b' : β} {os os' : List (Nat × Value)} {ps : List (Nat × Operand)} (h : FillsX c E L place b os ps b' os') : ∀ a W, St c E L a W → ∀ cs : Array Value, RepH (ks L ++ c.A0) W cs.toList b os →
    ∃ cs', Instr.fill place cs (ps.map fun (i, x) => (i, a.eval x)) = some cs' ∧ RepH (ks L ++ c.A0) W cs'.toList b' os' := by
  induction h with
  | nil => intro a W s cs hr; exact ⟨cs, rfl, hr⟩
  | @cons b b1 b' os os' γ _ v i x r l h1 h2 h3 h4 _ ih =>
    intro a W s cs hr
    subst h3
    have hv := h2 a W s
    have hsz : (a.eval x).cells.size = Rp.size γ := by have := Rp.len hv.2; simpa using this
    have hl : cs.toList.length = Rp.size β := hr.len
    have hin := l.inb
    rw [List.map_cons, run_fill h1 hsz (by simp at hl; omega)]
    refine ih a W s _ ?_
    have := repH_set l hr hv.2 h4
    simpa [splice, Rp.len hv.2] using this
  | @hole b b1 b' os os1 os' γ _ u i x r l h1 h2 h3 h4 h5 _ ih =>
    intro a W s cs hr
    subst h4
    subst h5
    have hv : a.eval x = u := h2 a W s
    have hc : (a.eval x).cells.toList = [u] := by rw [hv, cells_one h3]
    have hsz : (a.eval x).cells.size = 1 := by have := congrArg List.length hc; simpa using this
    have hl : cs.toList.length = Rp.size β := hr.len
    have hin : l.off + 1 ≤ Rp.size β := l.inb
    rw [List.map_cons, run_fill h1 hsz (by simp at hl; omega)]
    refine ih a W s _ ?_
    have := repH_hole l hr h3
    simpa [splice, hc] using this

theorem r_buildX {β : Type} [Rp β] {z b : β} {ps : List (Nat × Operand)} {pl : Array (Nat × Nat)} {os : List (Nat × Value)} (hs0 : List Nat) (zh : Zh c.P t hs0) (ha : Rp.agg β = true) (bu : Bu c.P t pl) (zr : Zr c.P t z)
    (hf : FillsX c E L (pl[·]?) z (hs0.map fun o => (o, nilS)) ps b os) : HR c E L ⟨d, .build t ps.toArray, ty, pos, af, g⟩ (.ofX b os) := .pure fun a W s => by
  obtain ⟨fs, hu, hs, rfl⟩ := bu.at_
  obtain ⟨i, zv, h1, h2, h3⟩ := zr.zero
  have hh : ∀ o ∈ hs0, zv.cells.toList[o]? = some nilS := fun o ho => by
    unfold Zh at zh
    rw [h1] at zh
    simp only [Option.bind_some, h2, Option.any_some] at zh
    exact isNilS_iff (List.all_eq_true.1 zh o ho)
  obtain ⟨cs', h4, h5⟩ := hf.run a W s zv.cells ⟨by
    rw [blank_self fun h hm => by obtain ⟨o, ho, rfl⟩ := List.mem_map.1 hm; exact hh o ho]
    exact (h3 _ _).2, fun h hm => by obtain ⟨o, ho, rfl⟩ := List.mem_map.1 hm; exact ⟨hh o ho, rfl⟩⟩
  refine ⟨.agg cs', ?_, by simp [shaped, ha], by simpa [Value.cells] using h5⟩
  have hm : (ps.toArray.map fun (x : Nat × Operand) => (x.1, a.eval x.2)).toList = ps.map fun (i, x) => (i, a.eval x) := by simp
  simp only [execOp, Instr.build, Sem.run_bind, zeroValue, typeInfo, run_program, Result.andThen_ok, h1, h2, Sem.run_pure, run_underlying hu, run_fieldSizes fs hs]
  rw [hm, h4]
  rfl
/-- 'make([]T, n)'; none: out of range -/
def mkM {α : Type} [Inhabited α] (bytes : Nat) (n : Int) : Option (List α) := if 0 ≤ n ∧ n ≤ 140737488355328 ∧ bytes * n ≤ 140737488355328 then some (List.replicate n.toNat default) else none
theorem mkM_some {α : Type} [Inhabited α] {bytes : Nat} {n : Int} {r : List α} (h : mkM bytes n = some r) : 0 ≤ n ∧ n ≤ 140737488355328 ∧ bytes * n ≤ 140737488355328 ∧ List.replicate n.toNat default = r := by
  unfold mkM at h
  split at h
  · rename_i hc; exact ⟨hc.1, hc.2.1, hc.2.2, some_in h⟩
  · cases h

theorem Sq.mks {α : Type} [Rp α] [Inhabited α] {rest : List Oper} {dd e bytes : Nat} {r : List α} {n : Int} (hu : c.P.underlying t = some (.slice e)) (te : Ty c.P e α) (zr : Zr c.P e (default : α)) (hs : Nat.beq (Rp.size α) 0 = false) (hb : (c.P.info? e).map (·.bytes) = some bytes)
    (hx : Look c E L x (.of n)) (hy : Look c E L y (.of n)) (hm : mkM bytes n = some r) (hN : Nat.blt dd c.n = true) (k : ∀ p, Sq c ops Q rest ((dd, .eq (slv p r.length r.length)) :: E) (⟨p, .row e r r.length⟩ :: L)) :
    Sq c ops Q (⟨some dd, .makeSlice t x y, ty, pos, af, none⟩ :: rest) E L := fun a W s => by
  obtain ⟨h0, hn, hbn, rfl⟩ := mkM_some hm
  obtain ⟨m, rfl⟩ := Int.eq_ofNat_of_zero_le h0
  obtain ⟨ie, zv, hie, hz, hzh⟩ := zr.zero
  have hie2 : ie.size = Rp.size α := by
    obtain ⟨i2, h1, h2⟩ := te.info
    rw [hie] at h1; cases h1; exact h2
  have hby : ie.bytes = bytes := by rw [hie] at hb; simpa using hb
  have hs' : Rp.size α ≠ 0 := fun h => by rw [h] at hs; cases hs
  have hz0 := reps_zero (hzh (ks L ++ c.A0) W) m hs'
  have h1 := of_int.1 (hx a W s)
  have h2 := of_int.1 (hy a W s)
  have hw : IntKind.i64.wrap (m : Int) = m := by have : w64 (m : Int) = m := w64_in (by omega) (by omega); exact this
  have hp : (2 : Int) ^ 48 = 281474976710656 := by decide
  simp only [Int.toNat_natCast, List.length_replicate] at k
  generalize hD : (Array.range (m * Rp.size α)).map (zv.cells[· % zv.cells.size]!) = D at hz0
  refine wpList_op rfl (R := fun v W' => v = .slice (some ⟨W.heap.size, 0, none⟩) m m ∧ W' = W.alloc (.cells D e)) (.of_run (v := .slice (some ⟨W.heap.size, 0, none⟩) m m) (W' := W.alloc (.cells D e)) ?_ ⟨rfl, rfl⟩) fun v W' ⟨h3, h4⟩ => ?_
  · have hc1 : ((decide ((m : Int) < 0) || decide ((ie.bytes : Int) * m > 2 ^ 48)) || decide ((m : Int) < 0) || decide ((m : Int) > m)) = false := by
      rw [hby, hp]; simp; omega
    have hD2 : ((Array.range (m * ie.size)).map fun i => (if m * ie.size = 0 then (#[] : Array Value) else zv.cells)[i % (if m * ie.size = 0 then (#[] : Array Value) else zv.cells).size]!) = D := by
      rw [← hD, hie2]
      by_cases hm0 : m * Rp.size α = 0
      · rw [hm0]; simp
      · simp only [if_neg hm0]
    have ha : (asInt (.int .i64 (m : Int)) : Sem Int).run c.P W = .ok (m : Int) W := by simp [asInt, asIntOf]
    simp only [execOp, Instr.makeSlice, Sem.run_bind, run_underlying hu, Result.andThen_ok, h1, h2, ha, Sem.run_pure, typeInfo, run_program, hie, hw, hc1, Bool.false_eq_true, if_false, run_askRoom, Go.sizeOf, Int.toNat_natCast]
    by_cases hm0 : m * ie.size = 0
    · simp only [hm0, if_true, Sem.run_pure, Result.andThen_ok, Sem.run_bind, newRow] at hD2 ⊢
      rw [hD2]
      simp
    · simp only [hm0, if_false, Sem.run_pure, Result.andThen_ok, Sem.run_bind, newRow, zeroValue, typeInfo, run_program, hie, hz] at hD2 ⊢
      rw [hD2]
      simp
  · subst h3 h4
    have hcap : m ≤ maxLen := by
      have : maxLen = 9223372036854775807 := rfl
      omega
    have hsz : D.size = m * Rp.size α := by have := hz0.1; simpa using this
    have s' := s.alloc (o := .cells D e) (cp := .row e (List.replicate m (default : α)) m) ⟨D, rfl, hsz, by simp, hcap, by
      have h6 := hz0.1
      rw [List.length_replicate] at h6 ⊢
      rw [← h6, List.take_length]
      exact hz0⟩
    exact k (some W.heap.size) _ _ (s'.put (τ := .eq (slv (some W.heap.size) m m)) (by simpa using hN) rfl)
theorem To.endO0 {fn : Func} {δ : Type} {ρ : δ → VP} {Lo : δ → List Ent} (dd : δ) (hs : (Lo dd).Sublist L) (hr : fn.results = #[]) (hρ : ρ dd = .tup []) (hds : c.ds = [] := by rfl) : To c (bodyPost c.P fn (PostO c.X c.A0 c.W0 ρ Lo)) .ret E L := fun a W s =>
  ⟨s.nodefers hds, .tuple #[], by simp [results_eq, hr], s.ends dd hs (by rw [hρ]; exact ⟨_, rfl, .nil⟩)⟩
end
end Gv

namespace Gv
open Go
set_option linter.unusedVariables false
set_option linter.unusedSimpArgs false

/-- what is hidden of an operation's effect: addresses, capacities -/
abbrev Hid := Nat → Option Nat
def gm (l : List (Option Nat)) : Hid := fun i => (l[i]?).getD none

/-- an operation of the region: the slot it fills, the operations that have come up ahead of it, the entries it leans on and those it leaves, its value -/
structure Hd where
  slot : Option Nat
  up : List Nat
  rd : List Nat
  wr : List Nat
  τ : (Nat → Hid) → VP
  ent : (Nat → Hid) → Nat → Ent

/-- what operation i knows of what is hidden: its own, and what those have left that came up ahead of it -/
def msk (up : List Nat) (i : Nat) (hd : Nat → Hid) : Nat → Hid := fun j => bif Nat.beq j i || up.any (fun k => Nat.beq k j) then hd j else fun _ => none
def upd (hd : Nat → Hid) (i : Nat) (x : Hid) : Nat → Hid := fun j => bif Nat.beq j i then x else hd j
theorem msk_congr {up : List Nat} {i : Nat} {hd hd' : Nat → Hid} (h : hd i = hd' i) (h' : ∀ k ∈ up, hd k = hd' k) : msk up i hd = msk up i hd' := by
  funext j
  unfold msk
  cases h1 : Nat.beq j i
  · cases h2 : up.any (fun k => Nat.beq k j)
    · rfl
    · obtain ⟨k, hk, he⟩ := List.any_eq_true.1 h2
      have := look_beq.1 he
      subst this
      simp only [Bool.false_or, cond_true]
      exact h' k hk
  · have := look_beq.1 h1
    subst this
    simp only [Bool.true_or, cond_true]
    exact h

def setE : List Ent → (Nat → Ent) → List Nat → List Ent
  | L, _, [] => L
  | L, f, j :: r => setE (L.set j (f j)) f r
theorem setE_length : ∀ {L : List Ent} {f : Nat → Ent} {js : List Nat}, (setE L f js).length = L.length
  | _, _, [] => rfl
  | L, f, j :: r => by rw [setE, setE_length, List.length_set]
theorem setE_get : ∀ {L : List Ent} {f : Nat → Ent} {js : List Nat} (i : Nat), (setE L f js)[i]? = if js.contains i = true then L[i]?.map (fun _ => f i) else L[i]?
  | _, _, [], i => by simp [setE]
  | L, f, j :: r, i => by
    rw [setE, setE_get i]
    by_cases h : j = i
    · subst h
      simp only [List.contains_cons, BEq.rfl, Bool.true_or, if_true, List.getElem?_set]
      by_cases hl : j < L.length
      · simp [hl]
      · simp [hl]
    · have hb : (i == j) = false := by simp; exact fun e => h e.symm
      rw [List.contains_cons, hb, Bool.false_or, List.getElem?_set_ne h]

/-- the entries, once these operations have come up -/
def Lf (ls : Nat → Bool) (hd : Nat → Hid) : Nat → List Hd → List Ent → List Ent
  | _, [], L => L
  | k, h :: r, L => Lf ls hd (k + 1) r (bif ls k then setE L (h.ent (msk h.up k hd)) h.wr else L)
/-- the slots -/
def zipD (ls : Nat → Bool) (hd : Nat → Hid) (E : List (Nat × VP)) : Nat → List Hd → List (Nat × VP)
  | _, [] => E
  | k, h :: r => match ls k, h.slot with
    | true, some s => (s, h.τ (msk h.up k hd)) :: zipD ls hd E (k + 1) r
    | _, _ => zipD ls hd E (k + 1) r

/-- entry j -/
def valD (ls : Nat → Bool) (hd : Nat → Hid) (j : Nat) : Nat → List Hd → Option Ent → Option Ent
  | _, [], v => v
  | k, h :: r, v => valD ls hd j (k + 1) r (bif ls k && h.wr.contains j then v.map (fun _ => h.ent (msk h.up k hd) j) else v)
theorem Lf_get {ls : Nat → Bool} {hd : Nat → Hid} (j : Nat) : ∀ {k : Nat} {hs : List Hd} {L : List Ent}, (Lf ls hd k hs L)[j]? = valD ls hd j k hs L[j]?
  | _, [], _ => rfl
  | k, h :: r, L => by
    rw [Lf, valD, Lf_get j]
    congr 1
    cases ls k
    · rfl
    · simp only [cond_true, Bool.true_and]
      rw [setE_get]
      cases h.wr.contains j <;> rfl
theorem valD_none {ls : Nat → Bool} {hd : Nat → Hid} {j : Nat} : ∀ {k : Nat} {hs : List Hd} {v : Option Ent}, (∀ m h, hs[m]? = some h → h.wr.contains j = true → ls (k + m) = false) → valD ls hd j k hs v = v
  | _, [], _, _ => rfl
  | k, h :: r, v, hn => by
    rw [valD, valD_none fun m x hm hx => by have := hn (m + 1) x (by simpa using hm) hx; rw [← this]; congr 1; omega]
    cases hw : h.wr.contains j
    · simp
    · have := hn 0 h rfl hw
      simp only [Nat.add_zero] at this
      rw [this]; rfl
theorem valD_append {ls : Nat → Bool} {hd : Nat → Hid} {j : Nat} : ∀ {k : Nat} {hs rs : List Hd} {v : Option Ent}, valD ls hd j k (hs ++ rs) v = valD ls hd j (k + hs.length) rs (valD ls hd j k hs v)
  | _, [], _, _ => rfl
  | k, h :: r, rs, v => by
    rw [List.cons_append, valD, valD_append, valD, List.length_cons]
    congr 1; omega
theorem valD_congr {ls ls' : Nat → Bool} {hd hd' : Nat → Hid} {j : Nat} : ∀ {k : Nat} {hs : List Hd} {v : Option Ent}, (∀ m h, hs[m]? = some h → h.wr.contains j = true → ls (k + m) = ls' (k + m) ∧ (ls (k + m) = true → msk h.up (k + m) hd = msk h.up (k + m) hd')) → valD ls hd j k hs v = valD ls' hd' j k hs v
  | _, [], _, _ => rfl
  | k, h :: r, v, hn => by
    have ih := valD_congr (ls := ls) (ls' := ls') (hd := hd) (hd' := hd') (j := j) (k := k + 1) (hs := r) (v := bif ls k && h.wr.contains j then v.map (fun _ => h.ent (msk h.up k hd) j) else v) fun m x hm hx => by
      have := hn (m + 1) x (by simpa using hm) hx
      rw [show k + 1 + m = k + (m + 1) by omega]; exact this
    rw [valD, valD, ih]
    congr 1
    cases hw : h.wr.contains j
    · simp
    · have := hn 0 h rfl hw
      simp only [Nat.add_zero] at this
      rw [← this.1]
      cases hl : ls k
      · rfl
      · rw [this.2 hl]

theorem zipD_base {ls : Nat → Bool} {hd : Nat → Hid} {E : List (Nat × VP)} {t : Nat} : ∀ {k : Nat} {hs : List Hd}, (∀ (m : Nat) (h : Hd), hs[m]? = some h → ls (k + m) = true → h.slot ≠ some t) → look (zipD ls hd E k hs) t = look E t
  | _, [], _ => rfl
  | k, h :: r, hn => by
    have ih := zipD_base (ls := ls) (hd := hd) (E := E) (t := t) (k := k + 1) (hs := r) fun m x hm hl => hn (m + 1) x (by simpa using hm) (by rw [← hl]; congr 1; omega)
    unfold zipD
    split
    · rename_i s h1 h2
      have hne : Nat.beq s t = false := by
        cases hb : Nat.beq s t
        · rfl
        · have := look_beq.1 hb; subst this; exact absurd h2 (hn 0 h rfl h1)
      simp only [look, hne, cond_false]
      exact ih
    · exact ih
theorem zipD_get {ls : Nat → Bool} {hd : Nat → Hid} {E : List (Nat × VP)} {s : Nat} : ∀ {k : Nat} {hs : List Hd} {j : Nat} {h : Hd}, hs[j]? = some h → ls (k + j) = true → h.slot = some s → (∀ m x, hs[m]? = some x → x.slot = some s → m = j) → look (zipD ls hd E k hs) s = some (h.τ (msk h.up (k + j) hd))
  | _, [], _, _, h, _, _, _ => by simp at h
  | k, x :: r, 0, h, hj, hl, hs, _ => by
    simp only [List.getElem?_cons_zero, Option.some.injEq] at hj
    subst hj
    simp only [Nat.add_zero] at hl
    unfold zipD
    rw [hl, hs]
    simp [look, Nat.beq_refl]
  | k, x :: r, j + 1, h, hj, hl, hs, hu => by
    have ih := zipD_get (ls := ls) (hd := hd) (E := E) (s := s) (k := k + 1) (hs := r) (j := j) (h := h) (by simpa using hj) (by rw [← hl]; congr 1; omega) hs fun m y hm hy => by
      have := hu (m + 1) y (by simpa using hm) hy; omega
    rw [show k + 1 + j = k + (j + 1) by omega] at ih
    unfold zipD
    split
    · rename_i s' h1 h2
      have hne : Nat.beq s' s = false := by
        cases hb : Nat.beq s' s
        · rfl
        · have := look_beq.1 hb; subst this
          have := hu 0 x rfl h2; omega
      simp only [look, hne, cond_false]
      exact ih
    · exact ih
theorem zipD_inv {ls : Nat → Bool} {hd : Nat → Hid} {E : List (Nat × VP)} {t : Nat} {τ : VP} : ∀ {k : Nat} {hs : List Hd}, look (zipD ls hd E k hs) t = some τ → (∃ (j : Nat) (h : Hd), hs[j]? = some h ∧ ls (k + j) = true ∧ h.slot = some t ∧ τ = h.τ (msk h.up (k + j) hd)) ∨ (look E t = some τ ∧ ∀ (m : Nat) (h : Hd), hs[m]? = some h → ls (k + m) = true → h.slot ≠ some t)
  | _, [], h => .inr ⟨h, fun m h hm => by simp at hm⟩
  | k, x :: r, h => by
    unfold zipD at h
    have go : (ls k = true → x.slot ≠ some t) → look (zipD ls hd E (k + 1) r) t = some τ → (∃ (j : Nat) (h : Hd), (x :: r)[j]? = some h ∧ ls (k + j) = true ∧ h.slot = some t ∧ τ = h.τ (msk h.up (k + j) hd)) ∨ (look E t = some τ ∧ ∀ (m : Nat) (h : Hd), (x :: r)[m]? = some h → ls (k + m) = true → h.slot ≠ some t) := fun hx h => by
      rcases zipD_inv h with ⟨j, y, h1, h2, h3, h4⟩ | ⟨h1, h2⟩
      · exact .inl ⟨j + 1, y, by simpa using h1, by rw [← h2]; congr 1; omega, h3, by rw [h4]; congr 2; omega⟩
      · refine .inr ⟨h1, fun m y hm hl => ?_⟩
        cases m with
        | zero => simp only [List.getElem?_cons_zero, Option.some.injEq] at hm; subst hm; exact hx hl
        | succ m => exact h2 m y (by simpa using hm) (by rw [← hl]; congr 1; omega)
    split at h
    · rename_i s h1 h2
      simp only [look] at h
      by_cases e : Nat.beq s t = true
      · rw [e] at h
        simp only [cond_true, Option.some.injEq] at h
        have := look_beq.1 e
        subst this
        exact .inl ⟨0, x, rfl, h1, h2, h.symm⟩
      · rw [Bool.not_eq_true] at e
        rw [e] at h
        exact go (fun _ hs' => by rw [h2] at hs'; cases hs'; rw [Nat.beq_refl] at e; cases e) h
    · rename_i hno
      exact go (fun hl hs' => hno t hl hs') h

/-- the slots that an operation may look at -/
def heD (hd : Nat → Hid) (hs : List Hd) (E : List (Nat × VP)) : List Nat → List (Nat × VP)
  | [] => E
  | j :: r => match hs[j]? with
    | some h => match h.slot with
      | some s => (s, h.τ (msk h.up j hd)) :: heD hd hs E r
      | none => heD hd hs E r
    | none => heD hd hs E r
theorem heD_inv {hd : Nat → Hid} {hs : List Hd} {E : List (Nat × VP)} {t : Nat} {τ : VP} : ∀ {ds : List Nat}, look (heD hd hs E ds) t = some τ → (∃ j ∈ ds, ∃ h : Hd, hs[j]? = some h ∧ h.slot = some t ∧ τ = h.τ (msk h.up j hd)) ∨ look E t = some τ
  | [], h => .inr h
  | j :: r, h => by
    have go : look (heD hd hs E r) t = some τ → (∃ i ∈ j :: r, ∃ h : Hd, hs[i]? = some h ∧ h.slot = some t ∧ τ = h.τ (msk h.up i hd)) ∨ look E t = some τ := fun h => by
      rcases heD_inv h with ⟨i, h1, h2⟩ | h1
      · exact .inl ⟨i, by simp [h1], h2⟩
      · exact .inr h1
    unfold heD at h
    split at h
    · rename_i x hx
      split at h
      · rename_i s hsl
        simp only [look] at h
        by_cases e : Nat.beq s t = true
        · rw [e] at h
          simp only [cond_true, Option.some.injEq] at h
          have := look_beq.1 e
          subst this
          exact .inl ⟨j, by simp, x, hx, hsl, h.symm⟩
        · simp only [Bool.not_eq_true] at e
          rw [e] at h
          exact go h
      · exact go h
    · exact go h

/-- these slots hold this very value -/
def AllEq (E : List (Nat × VP)) (v : Value) : List Nat → Prop
  | [] => True
  | s :: r => look E s = some (.eq v) ∧ AllEq E v r
theorem AllEq.get {E : List (Nat × VP)} {v : Value} : ∀ {ss : List Nat}, AllEq E v ss → ∀ s ∈ ss, look E s = some (.eq v)
  | _ :: _, h, s, hs => by
    rcases List.mem_cons.1 hs with rfl | hs
    · exact h.1
    · exact AllEq.get h.2 s hs
def asE (τ : VP) (E : List (Nat × VP)) : List Nat → List (Nat × VP)
  | [] => E
  | s :: r => (s, τ) :: asE τ E r
theorem look_asE {τ : VP} {E : List (Nat × VP)} {t : Nat} {σ : VP} : ∀ {ss : List Nat}, look (asE τ E ss) t = some σ → (t ∈ ss ∧ σ = τ) ∨ look E t = some σ
  | [], h => .inr h
  | s :: r, h => by
    simp only [asE, look] at h
    by_cases e : Nat.beq s t = true
    · rw [e] at h
      simp only [cond_true, Option.some.injEq] at h
      have := look_beq.1 e
      subst this
      exact .inl ⟨by simp, h.symm⟩
    · simp only [Bool.not_eq_true] at e
      rw [e] at h
      rcases look_asE h with ⟨h1, h2⟩ | h1
      · exact .inl ⟨by simp [h1], h2⟩
      · exact .inr h1

def addE : Option Nat → VP → List (Nat × VP) → List (Nat × VP)
  | some s, τ, E => (s, τ) :: E
  | none, _, E => E

section
variable {c : Cx} {E : List (Nat × VP)} {L : List Ent} {ops : Array Oper} {Q : Exit → Act → World → Prop}

/-- a slice of the call's own is let go, and each slot that holds it reads as a list -/
theorem St.freezeL {a : Act} {W : World} {α : Type} [Rp α] {i cap T : Nat} {ss : List Nat} {key : Option Nat} {xs : List α} (h : St c E L a W) (hl : AllEq E (slv key xs.length cap) ss) (hL : L[i]? = some ⟨key, .row T xs cap⟩) :
    St c (asE (.of xs) E ss) (L.set i ⟨none, .dead⟩) a W := by
  have hk := h.kill i
  refine { hk with env := fun t τ hlk => ?_ }
  rcases look_asE hlk with ⟨hm, rfl⟩ | h1
  · obtain ⟨v, h1, h2⟩ := h.env t _ (hl.get t hm)
    refine ⟨v, h1, of_list.2 ?_⟩
    have h2' : v = slv key xs.length cap := h2
    subst h2'
    have ho := h.own _ (List.mem_of_getElem? hL)
    cases key with
    | none => exact .inl ⟨rfl, ho.1⟩
    | some p =>
      obtain ⟨o, hob, cs, rfl, hsz, hn, hcm, hr⟩ := ho
      obtain ⟨h3, h4⟩ := reps_prefix hsz hn hr
      refine .inr ⟨p, 0, cap, cs, T, (0, 0), rfl, h.not_left hL, hob, hn, by omega, h3, ?_⟩
      have hsub := ks_set_none_sub (L := L) (i := i) (cp := .dead)
      exact h4.mono (.drop fun k hm => by
        rcases List.mem_append.1 hm with hm | hm
        · exact List.mem_append.2 (.inl (hsub.subset hm))
        · exact List.mem_append.2 (.inr hm))
  · exact hk.env t τ h1
theorem Sq.freezeL {l : List Oper} {α : Type} [Rp α] {key : Option Nat} {xs : List α} {cap T : Nat} (i : Nat) (ss : List Nat) (hl : AllEq E (slv key xs.length cap) ss) (hL : L[i]? = some ⟨key, .row T xs cap⟩)
    (k : Sq c ops Q l (asE (.of xs) E ss) (L.set i ⟨none, .dead⟩)) : Sq c ops Q l E L := fun a W st => k a W (st.freezeL hl hL)
theorem To.freezeL {x : Exit} {α : Type} [Rp α] {key : Option Nat} {xs : List α} {cap T : Nat} (i : Nat) (ss : List Nat) (hl : AllEq E (slv key xs.length cap) ss) (hL : L[i]? = some ⟨key, .row T xs cap⟩)
    (k : To c Q x (asE (.of xs) E ss) (L.set i ⟨none, .dead⟩)) : To c Q x E L := fun a W st => k a W (st.freezeL hl hL)
theorem Wp.freezeL {code : Code} {α : Type} [Rp α] {key : Option Nat} {xs : List α} {cap T : Nat} (i : Nat) (ss : List Nat) (hl : AllEq E (slv key xs.length cap) ss) (hL : L[i]? = some ⟨key, .row T xs cap⟩)
    (k : Wp c Q code (asE (.of xs) E ss) (L.set i ⟨none, .dead⟩)) : Wp c Q code E L := fun a W st => k a W (st.freezeL hl hL)

/-- operation number i, whatever has come up beside what it waits for -/
def HeadD (c : Cx) (ops : Array Oper) (Q : Exit → Act → World → Prop) (hs : List Hd) (E : List (Nat × VP)) (L : List Ent) (i : Nat) (o : Oper) (h : Hd) : Prop :=
  ∀ (hd : Nat → Hid) (E' : List (Nat × VP)) (L' : List Ent), (∀ t τ, look (heD hd hs E h.up) t = some τ → look E' t = some τ) →
    (∀ j e, (Lf (fun _ => true) hd 0 (hs.take i) L)[j]? = some e → h.rd.contains j = true → L'[j]? = some e) →
    Sq c ops (QK (fun a W => ∃ x, St c (addE h.slot (h.τ (msk h.up i (upd hd i x))) E') (setE L' (h.ent (msk h.up i (upd hd i x))) h.wr) a W) Q) [o] E' L'

def HeadsD (c : Cx) (ops : Array Oper) (Q : Exit → Act → World → Prop) (hs : List Hd) (E : List (Nat × VP)) (L : List Ent) : Nat → List Oper → List Hd → Prop
  | _, [], [] => True
  | i, o :: os, h :: r => HeadD c ops Q hs E L i o h ∧ HeadsD c ops Q hs E L (i + 1) os r
  | _, _, _ => False
theorem HeadsD.get {hs : List Hd} : ∀ {k : Nat} {os : List Oper} {rs : List Hd}, HeadsD c ops Q hs E L k os rs → ∀ i h o, rs[i]? = some h → os[i]? = some o → HeadD c ops Q hs E L (k + i) o h
  | k, [], [], _, i, h, o, hi, _ => by simp at hi
  | k, o0 :: os, h0 :: r, hh, i, h, o, hi, ho => by
    cases i with
    | zero =>
      simp only [List.getElem?_cons_zero, Option.some.injEq] at hi ho
      subst hi; subst ho; exact hh.1
    | succ i =>
      have := HeadsD.get hh.2 i h o (by simpa using hi) (by simpa using ho)
      rw [show k + 1 + i = k + (i + 1) by omega] at this
      exact this
  | k, [], _ :: _, hh, _, _, _, _, _ => hh.elim
  | k, _ :: _, [], hh, _, _, _, _, _ => hh.elim

/-- what is asked of the edges: whoever is said to have come up has; entries are read and left in order; no slot is filled twice -/
def drawD (ops : Array Oper) (hs : List (Option Nat × List Nat × List Nat × List Nat)) (E : List Nat) : Bool :=
  decide (hs.length = ops.size) && decide (hs.filterMap (·.1)).Nodup && ((List.range ops.size).all fun m => match hs[m]? with | some (some s, up, _) => !E.contains s || (List.range ops.size).all fun k => decide (k = m) || up.contains k | _ => true) &&
  ((List.range ops.size).all fun i => match hs[i]? with
    | none => false
    | some (_, up, rd, wr) =>
      (((ops[i]?).map fun o => (o.dst == (hs[i]?).bind (·.1)) && o.after.all fun e => !Region.binds .any e || decide (e.on < i)).getD false) &&
      (up.all fun k => Region.waitsFor .any ops i k || (List.range i).any fun m => Region.waitsFor .any ops i m && ((hs[m]?).map fun h => h.2.1.contains k).getD false) &&
      ((List.range ops.size).all fun k => match hs[k]? with
        | none => true
        | some (_, upk, _, wrk) =>
          (!(decide (k < i) && wrk.any rd.contains) || up.contains k) && (!(decide (i < k) && wrk.any fun j => rd.contains j || wr.contains j) || upk.contains i)))

theorem zipD_congr {ls ls' : Nat → Bool} {hd : Nat → Hid} : ∀ {k : Nat} {hs : List Hd}, (∀ m, m < hs.length → ls (k + m) = ls' (k + m)) → zipD ls hd E k hs = zipD ls' hd E k hs
  | _, [], _ => rfl
  | k, h :: r, hn => by
    have ih := zipD_congr (ls := ls) (ls' := ls') (hd := hd) (k := k + 1) (hs := r) fun m hm => by
      have := hn (m + 1) (by simp; omega)
      rw [show k + 1 + m = k + (m + 1) by omega]; exact this
    have h0 := hn 0 (by simp)
    simp only [Nat.add_zero] at h0
    unfold zipD
    rw [h0, ih]
theorem Lf_congr {ls ls' : Nat → Bool} {hd : Nat → Hid} : ∀ {k : Nat} {hs : List Hd} {L : List Ent}, (∀ m, m < hs.length → ls (k + m) = ls' (k + m)) → Lf ls hd k hs L = Lf ls' hd k hs L
  | _, [], _, _ => rfl
  | k, h :: r, L, hn => by
    have h0 := hn 0 (by simp)
    simp only [Nat.add_zero] at h0
    rw [Lf, Lf, h0]
    exact Lf_congr fun m hm => by
      have := hn (m + 1) (by simp; omega)
      rw [show k + 1 + m = k + (m + 1) by omega]; exact this

def dat (hs : List Hd) : List (Option Nat × List Nat × List Nat × List Nat) := hs.map fun h => (h.slot, h.up, h.rd, h.wr)
theorem dat_get {hs : List Hd} {i : Nat} {h : Hd} (hi : hs[i]? = some h) : (dat hs)[i]? = some (h.slot, h.up, h.rd, h.wr) := by simp [dat, hi]

/-- the same, and from np on the entries are those of the beginning -/
def HeadDP (c : Cx) (ops : Array Oper) (Q : Exit → Act → World → Prop) (hs : List Hd) (E : List (Nat × VP)) (L : List Ent) (np : Nat) (i : Nat) (o : Oper) (h : Hd) : Prop :=
  ∀ (hd : Nat → Hid) (E' : List (Nat × VP)) (L' : List Ent), (∀ t τ, look (heD hd hs E h.up) t = some τ → look E' t = some τ) →
    (∀ j e, (Lf (fun _ => true) hd 0 (hs.take i) L)[j]? = some e → h.rd.contains j = true → L'[j]? = some e) → L'.drop np = L.drop np →
    Sq c ops (QK (fun a W => ∃ x, St c (addE h.slot (h.τ (msk h.up i (upd hd i x))) E') (setE L' (h.ent (msk h.up i (upd hd i x))) h.wr) a W) Q) [o] E' L'
def HeadsDP (c : Cx) (ops : Array Oper) (Q : Exit → Act → World → Prop) (hs : List Hd) (E : List (Nat × VP)) (L : List Ent) (np : Nat) : Nat → List Oper → List Hd → Prop
  | _, [], [] => True
  | i, o :: os, h :: r => HeadDP c ops Q hs E L np i o h ∧ HeadsDP c ops Q hs E L np (i + 1) os r
  | _, _, _ => False
theorem HeadsDP.get {hs : List Hd} {np : Nat} : ∀ {k : Nat} {os : List Oper} {rs : List Hd}, HeadsDP c ops Q hs E L np k os rs → ∀ i h o, rs[i]? = some h → os[i]? = some o → HeadDP c ops Q hs E L np (k + i) o h
  | k, [], [], _, i, h, o, hi, _ => by simp at hi
  | k, o0 :: os, h0 :: r, hh, i, h, o, hi, ho => by
    cases i with
    | zero =>
      simp only [List.getElem?_cons_zero, Option.some.injEq] at hi ho
      subst hi; subst ho; exact hh.1
    | succ i =>
      have := HeadsDP.get hh.2 i h o (by simpa using hi) (by simpa using ho)
      rw [show k + 1 + i = k + (i + 1) by omega] at this
      exact this
  | k, [], _ :: _, hh, _, _, _, _, _ => hh.elim
  | k, _ :: _, [], hh, _, _, _, _, _ => hh.elim
theorem HeadsD.toP {hs : List Hd} {np : Nat} : ∀ {k : Nat} {os : List Oper} {rs : List Hd}, HeadsD c ops Q hs E L k os rs → HeadsDP c ops Q hs E L np k os rs
  | _, [], [], _ => trivial
  | _, _ :: _, _ :: _, h => ⟨fun hd E' L' h1 h2 _ => h.1 hd E' L' h1 h2, HeadsD.toP h.2⟩
  | _, [], _ :: _, h => h.elim
  | _, _ :: _, [], h => h.elim
theorem setE_drop {n : Nat} : ∀ {L : List Ent} {f : Nat → Ent} {js : List Nat}, (∀ j ∈ js, j < n ∨ L.length ≤ j) → (setE L f js).drop n = L.drop n
  | _, _, [], _ => rfl
  | L, f, j :: r, h => by
    rw [setE, setE_drop (fun k hk => by rw [List.length_set]; exact h k (by simp [hk]))]
    rcases h j (by simp) with h1 | h1
    · rw [List.drop_set_of_lt h1]
    · rw [List.set_eq_of_length_le h1]
theorem Lf_drop {ls : Nat → Bool} {hd : Nat → Hid} {n : Nat} : ∀ {k : Nat} {hs : List Hd} {L : List Ent}, (∀ h ∈ hs, ∀ j ∈ h.wr, j < n ∨ L.length ≤ j) → (Lf ls hd k hs L).drop n = L.drop n
  | _, [], _, _ => rfl
  | k, h :: r, L, hw => by
    rw [Lf]
    cases hl : ls k
    · exact Lf_drop fun x hx => hw x (by simp [hx])
    · simp only [cond_true]
      rw [Lf_drop (fun x hx j hj => by rw [setE_length]; exact hw x (by simp [hx]) j hj), setE_drop (hw h (by simp))]

theorem drawD_core {hs : List Hd} {np : Nat} (hw : ∀ h ∈ hs, ∀ j ∈ h.wr, j < np ∨ L.length ≤ j) (hB : drawD ops (dat hs) (E.map (·.1)) = true) (hh : HeadsDP c ops Q hs E L np 0 ops.toList hs)
    (ht : ∀ hd, To c Q .normal (zipD (fun _ => true) hd E 0 hs) (Lf (fun _ => true) hd 0 hs L)) :
    ∀ m (listed : Array Bool) (hd : Nat → Hid) (a : Act) (W : World), ((List.range ops.size).filter fun i => !listed.getD i true).length ≤ m → HeadInv .any ops ops.size listed →
      St c (zipD (fun i => listed.getD i false) hd E 0 hs) (Lf (fun i => listed.getD i false) hd 0 hs L) a W → wpAnyIn c.F 9 c.P .any ops Q m listed a W := by
  simp only [drawD, Bool.and_eq_true, decide_eq_true_eq] at hB
  obtain ⟨⟨⟨hlen0, hnd⟩, hdis⟩, hall⟩ := hB
  have hlen : hs.length = ops.size := by simpa [dat] using hlen0
  have hget : ∀ i, i < ops.size → ∃ h o, hs[i]? = some h ∧ ops[i]? = some o := fun i hi => ⟨hs[i]'(by omega), ops[i], by simp, by simp⟩
  -- what is asked of operation i
  have hcond : ∀ (i : Nat) (h : Hd) (o : Oper), hs[i]? = some h → ops[i]? = some o →
      o.dst = h.slot ∧ (∀ e ∈ o.after, Region.binds .any e = true → e.on < i) ∧
      (∀ k ∈ h.up, Region.waitsFor .any ops i k = true ∨ ∃ m, m < i ∧ Region.waitsFor .any ops i m = true ∧ ∃ x, hs[m]? = some x ∧ k ∈ x.up) ∧
      (∀ (k : Nat) (x : Hd), hs[k]? = some x → (k < i → (∃ j ∈ x.wr, h.rd.contains j = true) → k ∈ h.up) ∧ (i < k → (∃ j ∈ x.wr, h.rd.contains j = true ∨ h.wr.contains j = true) → i ∈ x.up)) := by
    intro i h o hi ho
    have hlt : i < ops.size := (Array.getElem?_eq_some_iff.1 ho).1
    have h1 := List.all_eq_true.1 hall i (List.mem_range.2 hlt)
    rw [dat_get hi] at h1
    simp only [Bool.and_eq_true] at h1
    obtain ⟨⟨h2, h3⟩, h4⟩ := h1
    simp only [ho, Option.map_some, Option.getD_some, Bool.and_eq_true, Option.bind_some, beq_iff_eq] at h2
    refine ⟨h2.1, fun e he hb => ?_, fun k hk => ?_, fun k x hx => ?_⟩
    · have := Array.all_eq_true_iff_forall_mem.1 h2.2 e he
      simp [hb] at this
      exact this
    · have := List.all_eq_true.1 h3 k hk
      simp only [Bool.or_eq_true, List.any_eq_true, Bool.and_eq_true, List.mem_range] at this
      rcases this with h5 | ⟨m, h5, h6, h7⟩
      · exact .inl h5
      · have hm : m < hs.length := by omega
        rw [dat_get (List.getElem?_eq_getElem hm)] at h7
        exact .inr ⟨m, h5, h6, hs[m], List.getElem?_eq_getElem hm, by simpa using h7⟩
    · have hkl : k < ops.size := by have := (List.getElem?_eq_some_iff.1 hx).1; omega
      have := List.all_eq_true.1 h4 k (List.mem_range.2 hkl)
      rw [dat_get hx] at this
      simp only [Bool.and_eq_true, Bool.or_eq_true, Bool.not_eq_true', Bool.and_eq_false_iff, decide_eq_false_iff_not, List.contains_iff_mem] at this
      refine ⟨fun hki ⟨j, hj, hr⟩ => ?_, fun hik ⟨j, hj, hr⟩ => ?_⟩
      · rcases this.1 with (h5 | h5) | h5
        · exact absurd hki h5
        · have := List.any_eq_false.1 h5 j hj
          exact absurd hr this
        · exact h5
      · rcases this.2 with (h5 | h5) | h5
        · exact absurd hik h5
        · have := List.any_eq_false.1 h5 j hj
          simp only [Bool.or_eq_true] at this
          exact absurd hr this
        · exact h5
  have huniq : ∀ (i j s : Nat) (x y : Hd), hs[i]? = some x → hs[j]? = some y → x.slot = some s → y.slot = some s → i = j := by
    have key : ∀ (l : List Hd), ((dat l).filterMap (·.1)).Nodup → ∀ (i j s : Nat) (x y : Hd), l[i]? = some x → l[j]? = some y → x.slot = some s → y.slot = some s → i = j := by
      intro l
      induction l with
      | nil => intro _ i j s x y h; simp at h
      | cons z r ih =>
        intro hnd i j s x y hi hj hx hy
        have hr : ((dat r).filterMap (·.1)).Nodup := by
          cases hz : z.slot with
          | none => simpa [dat, hz] using hnd
          | some w =>
            simp only [dat, List.map_cons, List.filterMap_cons, hz] at hnd
            exact (List.nodup_cons.1 hnd).2
        have hout : z.slot = some s → ∀ (q : Nat) (v : Hd), r[q]? = some v → v.slot ≠ some s := fun hz q v hq hv => by
          simp only [dat, List.map_cons, List.filterMap_cons, hz] at hnd
          exact (List.nodup_cons.1 hnd).1 (List.mem_filterMap.2 ⟨_, List.mem_map.2 ⟨v, List.mem_of_getElem? hq, rfl⟩, hv⟩)
        cases i with
        | zero =>
          simp only [List.getElem?_cons_zero, Option.some.injEq] at hi
          subst hi
          cases j with
          | zero => rfl
          | succ j => simp only [List.getElem?_cons_succ] at hj; exact absurd hy (hout hx j y hj)
        | succ i =>
          simp only [List.getElem?_cons_succ] at hi
          cases j with
          | zero =>
            simp only [List.getElem?_cons_zero, Option.some.injEq] at hj
            subst hj
            exact absurd hx (hout hy i x hi)
          | succ j => simp only [List.getElem?_cons_succ] at hj; rw [ih hr i j s x y hi hj hx hy]
    exact key hs hnd
  have hbase : ∀ (t : Nat) (τ : VP), look E t = some τ → ∀ (m : Nat) (h : Hd), hs[m]? = some h → h.slot = some t → ∀ k, k < ops.size → k ≠ m → k ∈ h.up := by
    intro t τ hl m h hm hs' k hk hkm
    have hml : m < ops.size := by have := (List.getElem?_eq_some_iff.1 hm).1; omega
    have h1 := List.all_eq_true.1 hdis m (List.mem_range.2 hml)
    rw [show (dat hs)[m]? = some (h.slot, h.up, h.rd, h.wr) by simp [dat, hm], hs'] at h1
    have hmem : t ∈ E.map (·.1) := by
      clear hdis h1 hh ht hm hs'
      induction E with
      | nil => simp [look] at hl
      | cons x r ih =>
        obtain ⟨s, σ⟩ := x
        simp only [look] at hl
        by_cases e : Nat.beq s t = true
        · have := look_beq.1 e; subst this; simp
        · simp only [Bool.not_eq_true] at e
          rw [e] at hl
          simp only [List.map_cons, List.mem_cons]
          exact .inr (ih hl)
    replace h1 : (!(E.map (·.1)).contains t || (List.range ops.size).all fun k => decide (k = m) || h.up.contains k) = true := h1
    rw [show (E.map (·.1)).contains t = true by simpa using hmem] at h1
    have h2 : ∀ x, x < ops.size → x = m ∨ x ∈ h.up := by simpa using h1
    exact (h2 k hk).resolve_left hkm
  have hup : ∀ (listed : Array Bool), HeadInv .any ops ops.size listed → ∀ (d i : Nat), i ≤ d → ∀ (h : Hd) (o : Oper), hs[i]? = some h → ops[i]? = some o → (∀ e ∈ o.after, Region.binds .any e = true → listed.getD e.on false = true) → ∀ k ∈ h.up, listed.getD k false = true := by
    intro listed inv d
    induction d with
    | zero =>
      intro i hi h o hhi hoi hw k hk
      rcases (hcond i h o hhi hoi).2.2.1 k hk with h1 | ⟨m, hm, _⟩
      · obtain ⟨oj, hoj, e, he, hb, hon⟩ := Region.waitsFor_spec h1
        rw [hoi] at hoj; cases hoj
        rw [← hon]; exact hw e he hb
      · omega
    | succ d ih =>
      intro i hi h o hhi hoi hw k hk
      rcases (hcond i h o hhi hoi).2.2.1 k hk with h1 | ⟨m, hm, h1, x, hx, hkx⟩
      · obtain ⟨oj, hoj, e, he, hb, hon⟩ := Region.waitsFor_spec h1
        rw [hoi] at hoj; cases hoj
        rw [← hon]; exact hw e he hb
      · obtain ⟨oj, hoj, e, he, hb, hon⟩ := Region.waitsFor_spec h1
        rw [hoi] at hoj; cases hoj
        have hml := hw e he hb
        rw [hon] at hml
        obtain ⟨x2, om, hx2, hom⟩ := hget m (by have := (Array.getElem?_eq_some_iff.1 hoi).1; omega)
        exact ih m (by omega) x om hx hom (fun e he hb => inv.closed m om hom hml e he hb) k hkx
  have hdone : ∀ (listed : Array Bool) (hd : Nat → Hid) (a : Act) (W : World), (∀ i, i < ops.size → listed.getD i true = true) → HeadInv .any ops ops.size listed →
      St c (zipD (fun i => listed.getD i false) hd E 0 hs) (Lf (fun i => listed.getD i false) hd 0 hs L) a W → Region.ready .any ops listed = [] ∧ Q .normal a W := by
    intro listed hd a W hall2 inv st
    refine ⟨?_, ?_⟩
    · refine List.eq_nil_iff_forall_not_mem.2 fun i hi => ?_
      obtain ⟨h1, o, ho, _⟩ := mem_ready.1 hi
      rw [hall2 i (Array.getElem?_eq_some_iff.1 ho).1] at h1
      cases h1
    · have hl : ∀ m, m < hs.length → listed.getD (0 + m) false = true := fun m hm => by
        have h1 := hall2 m (by omega)
        have h2 : m < listed.size := by rw [inv.size]; omega
        simpa [h2] using h1
      rw [zipD_congr (ls' := fun _ => true) hl, Lf_congr (ls' := fun _ => true) hl] at st
      exact ht hd a W st
  intro m
  induction m with
  | zero =>
    intro listed hd a W hm inv st
    refine hdone listed hd a W (fun i hi => ?_) inv st
    cases h : listed.getD i true with
    | true => rfl
    | false =>
      have : i ∈ (List.range ops.size).filter fun i => !listed.getD i true := List.mem_filter.2 ⟨List.mem_range.2 hi, by rw [h]; rfl⟩
      rw [List.length_eq_zero_iff.1 (Nat.le_zero.1 hm)] at this
      cases this
  | succ m ih =>
    intro listed hd a W hm inv st
    refine ⟨fun h0 => ?_, fun i hi => ?_⟩
    · refine (hdone listed hd a W (fun i hi => ?_) inv st).2
      -- the least that has not come up would be ready
      have key : ∀ d i, i ≤ d → i < ops.size → listed.getD i true = true := by
        intro d
        induction d with
        | zero =>
          intro i hi0 hi
          cases hl : listed.getD i true with
          | true => rfl
          | false =>
            obtain ⟨h, o, hhi, ho⟩ := hget i hi
            have : i ∈ Region.ready .any ops listed := mem_ready.2 ⟨hl, o, ho, fun e he hb => by have := (hcond i h o hhi ho).2.1 e he hb; omega⟩
            rw [h0] at this; cases this
        | succ d ihd =>
          intro i hi0 hi
          cases hl : listed.getD i true with
          | true => rfl
          | false =>
            obtain ⟨h, o, hhi, ho⟩ := hget i hi
            have : i ∈ Region.ready .any ops listed := mem_ready.2 ⟨hl, o, ho, fun e he hb => by
              have h1 := (hcond i h o hhi ho).2.1 e he hb
              have h2 := ihd e.on (by omega) (by omega)
              have h3 : e.on < listed.size := by rw [inv.size]; omega
              simpa [h3] using h2⟩
            rw [h0] at this; cases this
      exact key i i (Nat.le_refl _) hi
    · obtain ⟨hun, o, ho, hlisted⟩ := mem_ready.1 hi
      have hin : i < ops.size := (Array.getElem?_eq_some_iff.1 ho).1
      obtain ⟨h, _, hhi, _⟩ := hget i hin
      have hunf : listed.getD i false = false := getD_both hun
      have hilt : i < listed.size := by rw [inv.size]; omega
      have hcnt : ((List.range ops.size).filter fun j => !(listed.setIfInBounds i true).getD j true).length ≤ m := by
        have : ((List.range ops.size).filter fun j => !(listed.setIfInBounds i true).getD j true).length < ((List.range ops.size).filter fun j => !listed.getD j true).length := by
          refine cnt_lt (fun j => !listed.getD j true) (fun j => !(listed.setIfInBounds i true).getD j true) i (by simp only [hun]; rfl) ?_ (fun j hj => ?_) ops.size hin
          · simp [hilt]
          · by_cases e : i = j
            · subst e; simp only [hun]; rfl
            · rw [getD_set_ne true e] at hj; exact hj
        omega
      have inv' := inv.set hi hin
      obtain ⟨hdst, hedges, hclos, hent⟩ := hcond i h o hhi ho
      have hupl := hup listed inv i i (Nat.le_refl _) h o hhi ho hlisted
      -- whoever comes later and leaves an entry of i's has not come up
      have hlater : ∀ (k : Nat) (x : Hd), hs[k]? = some x → i < k → (∃ j ∈ x.wr, h.rd.contains j = true ∨ h.wr.contains j = true) → listed.getD k false = false := fun k x hx hik hj => by
        have h1 := (hent k x hx).2 hik hj
        cases hk : listed.getD k false with
        | false => rfl
        | true =>
          obtain ⟨_, ok, _, hok⟩ := hget k (by have := (List.getElem?_eq_some_iff.1 hx).1; omega)
          have := hup listed inv k k (Nat.le_refl _) x ok hx hok (fun e he hb => inv.closed k ok hok hk e he hb) i h1
          rw [hunf] at this; cases this
      have hsplit : hs = hs.take i ++ h :: hs.drop (i + 1) := by
        have hil : i < hs.length := by omega
        rw [List.getElem?_eq_getElem hil] at hhi
        cases hhi
        rw [List.getElem_cons_drop]
        exact (List.take_append_drop i hs).symm
      have htl : (hs.take i).length = i := by rw [List.length_take]; omega
      -- a slot that was known before is filled last, if ever
      have hbl : ∀ (t : Nat) (τ : VP), look E t = some τ → ∀ (m : Nat) (x : Hd), hs[m]? = some x → listed.getD (0 + m) false = true → x.slot ≠ some t := fun t τ hl m x hx hlm hs' => by
        rw [Nat.zero_add] at hlm
        have hmi : i ≠ m := fun e => by subst e; rw [hunf] at hlm; cases hlm
        obtain ⟨_, om, _, hom⟩ := hget m (by have := (List.getElem?_eq_some_iff.1 hx).1; omega)
        have := hup listed inv m m (Nat.le_refl _) x om hx hom (fun e he hb => inv.closed m om hom hlm e he hb) i (hbase t τ hl m x hx hs' i hin hmi)
        rw [hunf] at this; cases this
      have hspec := (HeadsDP.get hh i h o hhi (by rw [Array.getElem?_toList]; exact ho)) 
      rw [Nat.zero_add] at hspec
      have hsq := hspec hd (zipD (fun i => listed.getD i false) hd E 0 hs) (Lf (fun i => listed.getD i false) hd 0 hs L) (fun t τ hl => ?_) (fun j e hj hr => ?_) (Lf_drop hw)
      · have hw := wpOp_of_list (K := fun a W => ∃ x, St c (addE h.slot (h.τ (msk h.up i (upd hd i x))) (zipD (fun i => listed.getD i false) hd E 0 hs)) (setE (Lf (fun i => listed.getD i false) hd 0 hs L) (h.ent (msk h.up i (upd hd i x))) h.wr) a W) ho (hsq a W st)
        refine wpOpIn_mono (fun a' W' ⟨x, st'⟩ => ?_) hw
        have hdo : ∀ j, j ≠ i → upd hd i x j = hd j := fun j hj => by
          have : Nat.beq j i = false := by
            cases hb : Nat.beq j i
            · rfl
            · exact absurd (look_beq.1 hb) hj
          simp only [upd, this, cond_false]
        -- those that have come up do not know of i
        have hmo : ∀ (j : Nat) (y : Hd), hs[j]? = some y → listed.getD j false = true → msk y.up j (upd hd i x) = msk y.up j hd := fun j y hy hj => by
          obtain ⟨_, oj, _, hoj⟩ := hget j (by have := (List.getElem?_eq_some_iff.1 hy).1; omega)
          refine msk_congr (hdo j fun e => by subst e; rw [hunf] at hj; cases hj) fun k hk => hdo k fun e => ?_
          have := hup listed inv j j (Nat.le_refl _) y oj hy hoj (fun e he hb => inv.closed j oj hoj hj e he hb) k hk
          subst e
          rw [hunf] at this; cases this
        have hli : (listed.setIfInBounds i true).getD i false = true := by simp [hilt]
        have hlo : ∀ j, j ≠ i → (listed.setIfInBounds i true).getD j false = listed.getD j false := fun j hj => getD_set_ne false (fun e => hj e.symm)
        refine ih _ (upd hd i x) a' W' hcnt inv' ?_
        have hLeq : Lf (fun j => (listed.setIfInBounds i true).getD j false) (upd hd i x) 0 hs L = setE (Lf (fun i => listed.getD i false) hd 0 hs L) (h.ent (msk h.up i (upd hd i x))) h.wr := by
          apply List.ext_getElem?
          intro j
          rw [Lf_get, setE_get, Lf_get]
          by_cases hj : h.wr.contains j = true
          · rw [if_pos hj]
            have e1 : ∀ (ls : Nat → Bool) (g : Nat → Hid) (v : Option Ent), (∀ k x, hs[k]? = some x → i < k → x.wr.contains j = true → ls k = false) → valD ls g j 0 hs v = (bif ls i then (valD ls g j 0 (hs.take i) v).map (fun _ => h.ent (msk h.up i g) j) else valD ls g j 0 (hs.take i) v) := fun ls g v hls => by
              conv => lhs; rw [hsplit]
              rw [valD_append, htl, Nat.zero_add, valD, hj, Bool.and_true, valD_none]
              intro k x hx hw
              rw [List.getElem?_drop] at hx
              exact hls (i + 1 + k) x hx (by omega) hw
            have hno : ∀ k x, hs[k]? = some x → i < k → x.wr.contains j = true → listed.getD k false = false := fun k x hx hik hw => hlater k x hx hik ⟨j, by simpa using hw, .inr hj⟩
            rw [e1 (fun j => (listed.setIfInBounds i true).getD j false) (upd hd i x) _ (fun k x hx hik hw => by rw [hlo k (by omega)]; exact hno k x hx hik hw), e1 (fun j => listed.getD j false) hd _ hno]
            simp only [hli, hunf, cond_true, cond_false]
            rw [valD_congr (ls' := fun j => listed.getD j false) (hd' := hd) fun q x hx _ => by
              have hq : q < i := by have := (List.getElem?_eq_some_iff.1 hx).1; omega
              rw [List.getElem?_take, if_pos hq] at hx
              rw [Nat.zero_add]
              exact ⟨hlo q (by omega), fun hl => hmo q x hx (by rw [hlo q (by omega)] at hl; exact hl)⟩]
          · rw [if_neg hj]
            refine valD_congr fun q x hx hw => ?_
            rw [Nat.zero_add]
            have hq : q ≠ i := fun e => by subst e; rw [hhi] at hx; cases hx; exact hj hw
            exact ⟨hlo q hq, fun hl => hmo q x hx (by rw [hlo q hq] at hl; exact hl)⟩
        rw [hLeq]
        refine st'.less fun t τ hl => ?_
        rcases zipD_inv hl with ⟨j, y, h1, h2, h3, h4⟩ | ⟨h1, hno⟩
        · rw [Nat.zero_add] at h2 h4
          by_cases hji : j = i
          · subst hji
            rw [hhi] at h1
            cases h1
            exact ⟨τ, by rw [h3, h4]; simp [addE, look, Nat.beq_refl], fun _ _ _ h => h⟩
          · rw [hlo j hji] at h2
            rw [hmo j y h1 h2] at h4
            have h5 := zipD_get (ls := fun i => listed.getD i false) (hd := hd) (E := E) (k := 0) h1 (by rw [Nat.zero_add]; exact h2) h3 fun q z hq hz => huniq q j t z y hq h1 hz h3
            rw [Nat.zero_add, ← h4] at h5
            refine ⟨τ, ?_, fun _ _ _ h => h⟩
            cases hs2 : h.slot with
            | none => exact h5
            | some s =>
              have hne : Nat.beq s t = false := by
                cases hb : Nat.beq s t
                · rfl
                · have := look_beq.1 hb; subst this
                  exact absurd (huniq j i s y h h1 hhi h3 hs2) hji
              simp only [addE, look, hne, cond_false]
              exact h5
        · have hb := hbl t τ h1
          have h5 := zipD_base (ls := fun i => listed.getD i false) (hd := hd) (E := E) (k := 0) hb
          refine ⟨τ, ?_, fun _ _ _ h => h⟩
          cases hs2 : h.slot with
          | none => simp only [addE]; rw [h5]; exact h1
          | some s =>
            have hne : Nat.beq s t = false := by
              cases hb2 : Nat.beq s t
              · rfl
              · have := look_beq.1 hb2; subst this
                exact absurd hs2 (hno i h hhi (by rw [Nat.zero_add]; exact hli))
            simp only [addE, look, hne, cond_false]
            rw [h5]; exact h1
      · rcases heD_inv hl with ⟨j, hj, y, h1, h2, h3⟩ | h1
        · have h5 := zipD_get (ls := fun i => listed.getD i false) (hd := hd) (E := E) (k := 0) h1 (by rw [Nat.zero_add]; exact hupl j hj) h2 fun q z hq hz => huniq q j t z y hq h1 hz h2
          rw [Nat.zero_add, ← h3] at h5
          exact h5
        · rw [zipD_base (hbl t τ h1)]; exact h1
      · rw [Lf_get] at hj ⊢
        rw [← hj]
        conv => lhs; rw [hsplit]
        rw [valD_append, valD_none]
        · refine valD_congr fun q x hx hw => ?_
          rw [Nat.zero_add]
          have hq : q < i := by have := (List.getElem?_eq_some_iff.1 hx).1; omega
          rw [List.getElem?_take, if_pos hq] at hx
          exact ⟨hupl q ((hent q x hx).1 hq ⟨j, by simpa using hw, hr⟩), fun _ => rfl⟩
        · intro q x hx hw
          rw [htl, Nat.zero_add]
          cases q with
          | zero => exact hunf
          | succ q =>
            simp only [List.getElem?_cons_succ] at hx
            rw [List.getElem?_drop] at hx
            exact hlater (i + (q + 1)) x (by rw [← hx]; congr 1; omega) (by omega) ⟨j, by simpa using hw, .inl hr⟩

theorem Wp.drawDP {np : Nat} {rid : Nat} {l : List Oper} (hm : c.P.follows .mixedOrders = true) (hs : List Hd) (ds : List (Option Nat × List Nat × List Nat × List Nat)) (es : List Nat) (hds : dat hs = ds) (hes : E.map (·.1) = es) (hB : Gv.drawD l.toArray ds es = true) (hw : ∀ h ∈ hs, ∀ j ∈ h.wr, j < np ∨ L.length ≤ j)
    (hh : HeadsDP c l.toArray Q hs E L np 0 l hs) (ht : ∀ hd, To c Q .normal (zipD (fun _ => true) hd E 0 hs) (Lf (fun _ => true) hd 0 hs L)) : Wp c Q (.region rid l.toArray true) E L := fun a W s => by
  subst hds hes
  refine wpIn_region_any hm ?_
  have inv0 : HeadInv .any l.toArray l.toArray.size (Array.replicate l.toArray.size false) :=
    { size := by simp
      closed := fun j oj _ hl => by rw [getD_replicate_false] at hl; cases hl
      tail := fun t h1 h2 => by omega }
  refine drawD_core hw (ops := l.toArray) (Q := Q) hB (by simpa using hh) ht l.toArray.size (Array.replicate l.toArray.size false) (fun _ _ => none) a W.drew (Nat.le_trans (List.length_filter_le _ _) (by simp)) inv0 ?_
  have h1 : ∀ (hs : List Hd) (k : Nat), zipD (fun i => (Array.replicate l.toArray.size false).getD i false) (fun _ _ => none) E k hs = E := by
    intro hs
    induction hs with
    | nil => intro k; rfl
    | cons h r ih =>
      intro k
      have h2 := ih (k + 1)
      simp only [getD_replicate_false] at h2
      unfold zipD
      simp only [getD_replicate_false]
      exact h2
  have h2 : ∀ (hs : List Hd) (k : Nat) (L : List Ent), Lf (fun i => (Array.replicate l.toArray.size false).getD i false) (fun _ _ => none) k hs L = L := by
    intro hs
    induction hs with
    | nil => intro k L; rfl
    | cons h r ih => intro k L; rw [Lf, ih]; simp only [getD_replicate_false, cond_false]
  rw [h1, h2]
  exact s.world (Fr.drew W)

theorem Wp.drawD {rid : Nat} {l : List Oper} (hm : c.P.follows .mixedOrders = true) (hs : List Hd) (ds : List (Option Nat × List Nat × List Nat × List Nat)) (es : List Nat) (hds : dat hs = ds) (hes : E.map (·.1) = es) (hB : Gv.drawD l.toArray ds es = true)
    (hh : HeadsD c l.toArray Q hs E L 0 l hs) (ht : ∀ hd, To c Q .normal (zipD (fun _ => true) hd E 0 hs) (Lf (fun _ => true) hd 0 hs L)) : Wp c Q (.region rid l.toArray true) E L :=
  Wp.drawDP (np := L.length) hm hs ds es hds hes hB (fun _ _ j _ => by omega) hh.toP ht
theorem wr_lt {hs : List Hd} {ds : List (Option Nat × List Nat × List Nat × List Nat)} {np : Nat} (hds : dat hs = ds) (h : (ds.all fun d => d.2.2.2.all fun j => Nat.blt j np) = true) : ∀ h ∈ hs, ∀ j ∈ h.wr, j < np ∨ L.length ≤ j := fun x hx j hj => by
  subst hds
  have h1 := List.all_eq_true.1 h (x.slot, x.up, x.rd, x.wr) (List.mem_map.2 ⟨x, hx, rfl⟩)
  have h2 := List.all_eq_true.1 h1 j hj
  exact .inl (Nat.blt_eq.mp h2)
/-- the same with a pool behind the first np entries, of which the operations only look at it -/
theorem Wp.drawQ {rid : Nat} {l : List Oper} (np : Nat) (hm : c.P.follows .mixedOrders = true) (hs : List Hd) (ds : List (Option Nat × List Nat × List Nat × List Nat)) (es : List Nat) (hds : dat hs = ds) (hes : E.map (·.1) = es) (hB : Gv.drawD l.toArray ds es = true) (hw : (ds.all fun d => d.2.2.2.all fun j => Nat.blt j np) = true)
    (hh : HeadsDP c l.toArray Q hs E L np 0 l hs) (ht : ∀ hd, To c Q .normal (zipD (fun _ => true) hd E 0 hs) (Lf (fun _ => true) hd 0 hs L)) : Wp c Q (.region rid l.toArray true) E L :=
  Wp.drawDP hm hs ds es hds hes hB (wr_lt hds hw) hh ht

/-- where a head ends -/
theorem To.fin {slot : Option Nat} {up wr : List Nat} {i : Nat} {hd : Nat → Hid} {τ : (Nat → Hid) → VP} {ent : (Nat → Hid) → Nat → Ent} {E' E2 : List (Nat × VP)} {L' L2 : List Ent} (x : Hid) (hE : E2 = addE slot (τ (msk up i (upd hd i x))) E') (hL : L2 = setE L' (ent (msk up i (upd hd i x))) wr) :
    To c (QK (fun a W => ∃ x, St c (addE slot (τ (msk up i (upd hd i x))) E') (setE L' (ent (msk up i (upd hd i x))) wr) a W) Q) .normal E2 L2 := fun a W s => by
  subst hE hL
  exact ⟨x, s⟩

/-- a new entry goes to a place that is kept for it -/
theorem To.place {z : Exit} {e : Ent} (j : Nat) (hj : L[j]? = some ⟨none, .dead⟩) (k : To c Q z E (L.set j e)) : To c Q z E (e :: L) := fun a W s => by
  refine k a W (s.sub (fun x hx => ?_) ?_)
  · rcases List.mem_or_eq_of_mem_set hx with h | h
    · exact List.mem_cons.2 (.inr h)
    · exact List.mem_cons.2 (.inl h)
  · have h1 := bring_perm hj
    have h2 : (L.set j e).Perm (e :: L.eraseIdx j) := by
      have h3 : (L.set j e)[j]? = some e := by rw [List.getElem?_set_self (List.getElem?_eq_some_iff.1 hj).1]
      have h4 := bring_perm h3
      rwa [List.eraseIdx_set_eq] at h4
    have h5 := ks_perm (h1.cons e)
    have h6 : ks (e :: ⟨none, .dead⟩ :: L.eraseIdx j) = ks (e :: L.eraseIdx j) := by cases hk : e.key <;> simp [ks, hk]
    rw [h6] at h5
    exact (ks_perm h2).nodup_iff.2 (h5.nodup_iff.1 s.nodup)
/-- an entry that was brought to the front goes back -/
theorem To.back {z : Exit} {e e0 : Ent} (j : Nat) (hj : L[j]? = some e0) (k : To c Q z E (L.set j e)) : To c Q z E (e :: L.eraseIdx j) := fun a W s => by
  have h3 : (L.set j e)[j]? = some e := by rw [List.getElem?_set_self (List.getElem?_eq_some_iff.1 hj).1]
  have h4 := bring_perm h3
  rw [List.eraseIdx_set_eq] at h4
  exact k a W (s.perm h4.symm)
/-- places are kept for entries to come -/
theorem Wp.keep {z : Code} (n : Nat) (k : Wp c Q z E (L ++ List.replicate n ⟨none, .dead⟩)) : Wp c Q z E L := fun a W s => by
  refine k a W ?_
  have hk : ks (L ++ List.replicate n ⟨none, .dead⟩) = ks L := by
    rw [ks_append]
    have : ∀ n, ks (List.replicate n (⟨none, .dead⟩ : Ent)) = [] := fun n => by
      induction n with
      | zero => rfl
      | succ n ih => rw [List.replicate_succ]; simp [ks, ih]
    rw [this, List.append_nil]
  exact
  { defers := s.defers
    size := s.size
    env := fun t τ hl => by rw [hk]; exact s.env t τ hl
    fr := s.fr
    own := fun e he => by
      rw [hk]
      rcases List.mem_append.1 he with he | he
      · exact s.own e he
      · rw [(List.mem_replicate.1 he).2]; trivial
    nodup := by rw [hk]; exact s.nodup
    lt := by rw [hk]; exact s.lt
    mine := by rw [hk]; exact s.mine
    old := by rw [hk]; exact s.old }
theorem Wp.keepQ {z : Code} (n m : Nat) (k : Wp c Q z E (L.take m ++ (List.replicate n ⟨none, .dead⟩ ++ L.drop m))) : Wp c Q z E L := by
  refine Wp.keep n fun a W s => k a W (s.perm ?_)
  have e : L = L.take m ++ L.drop m := (List.take_append_drop m L).symm
  conv => lhs; rw [e]
  rw [List.append_assoc]
  exact List.perm_append_comm.append_left _
theorem To.eqL {z : Exit} {L2 : List Ent} (h : L = L2) (k : To c Q z E L2) : To c Q z E L := by subst h; exact k

theorem To.relen {z : Exit} {key : Option Nat} {n m cap : Nat} (sl : Nat) (hl : look E sl = some (.eq (slv key n cap))) (hn : n = m) (k : To c Q z ((sl, .eq (slv key m cap)) :: E) L) : To c Q z E L := fun a W s => by
  subst hn
  refine k a W (s.less fun t τ h => ?_)
  simp only [look] at h
  by_cases e : Nat.beq sl t = true
  · rw [e] at h
    simp only [cond_true] at h
    have := look_beq.1 e
    subst this
    exact ⟨τ, by rw [hl, h], fun _ _ _ h => h⟩
  · simp only [Bool.not_eq_true] at e
    rw [e] at h
    exact ⟨τ, h, fun _ _ _ h => h⟩

variable {hs : List Hd} {i d : Nat} {up rd : List Nat} {ent : (Nat → Hid) → Nat → Ent} {o : Oper}
/-- a head that yields a value and touches nothing -/
theorem hd_v {τ : VP} (hg : o.guard = none) (hd : o.dst = some d) (hn : Nat.blt d c.n = true)
    (h : ∀ (hd : Nat → Hid) (E' : List (Nat × VP)) (L' : List Ent), (∀ t τ, look (heD hd hs E up) t = some τ → look E' t = some τ) → (∀ j e, (Lf (fun _ => true) hd 0 (hs.take i) L)[j]? = some e → rd.contains j = true → L'[j]? = some e) → HR c E' L' o τ) :
    HeadD c ops Q hs E L i o ⟨some d, up, rd, [], fun _ => τ, ent⟩ := fun hdd E' L' hE hL =>
  Sq.v (h hdd E' L' hE hL) hg hd hn (Sq.nil (To.fin (fun _ => none) rfl rfl))
variable {ty t : TypeId} {pos : String} {af : Array Edge}
theorem Sq.bslN {α : Type} [Rp α] {rest : List Oper} {dd e n : Nat} {z : α} {r0 r : List α} {ps : List (Nat × Operand)} (hu : c.P.underlying t = some (.slice e)) (te : Ty c.P e α) (zr : Zr c.P e z) (hs : Nat.beq (Rp.size α) 0 = false) (hn : Nat.ble (n * Rp.size α) 16777216 = true)
    (hf : FillsL c E L (List.replicate n z) ps r0) (hr : r0 = r) (hN : Nat.blt dd c.n = true) (k : ∀ p, Sq c ops Q rest ((dd, .eq (slv p r.length n)) :: E) (⟨p, .row e r n⟩ :: L)) :
    Sq c ops Q (⟨some dd, .buildSlice t n ps.toArray, ty, pos, af, none⟩ :: rest) E L := by subst hr; exact Sq.bslO hu te zr hs hn hf hN k
variable {g : Option (Nat × Bool)} {x y : Operand}
end
end Gv

namespace Gv
open Go
set_option linter.unusedVariables false
set_option linter.unusedSimpArgs false

section
variable {c : Cx} {E : List (Nat × VP)} {L : List Ent} {ops : Array Oper} {Q : Exit → Act → World → Prop}
variable {d : Option Tmp} {ty : TypeId} {pos : String} {af : Array Edge} {g : Option (Nat × Bool)} {x y : Operand} {t t2 : TypeId}

/-- a slice of N elements, the first of which are known -/
def Src (c : Cx) (E : List (Nat × VP)) (L : List Ent) (y : Operand) (N : Nat) {α : Type} [Rp α] (vs : List α) : Prop :=
  ∀ a W, St c E L a W → (Builtin.lenOf (a.eval y)).run c.P W = .ok N W ∧ ∃ cells : List Value, (Builtin.firstCells (Rp.size α) vs.length (a.eval y)).run c.P W = .ok cells.toArray W ∧ Reps (ks L ++ c.A0) W cells vs ∧ ∀ v ∈ cells, v.oneCell' = true

theorem Sq.copyG {rest : List Oper} {i e p off dd dLen dCap N T : Nat} {cp cp' : CP} {α : Type} [Rp α] {vs : List α} (hu : c.P.underlying t = some (.slice e)) (te : Ty c.P e α)
    (hx : Look c E L x (.eq (.slice (some ⟨p, off, none⟩) dLen dCap))) (hy : Src c E L y N vs) (hmin : Nat.min N dLen = vs.length) (hL : L[i]? = some ⟨some p, cp⟩) (hn : Nat.blt dd c.n = true)
    (hcp : ∀ A W o cells, cp.holds A W o → Reps A W cells vs → ∃ cs, o = .cells cs T (0, 0) ∧ off + cells.length ≤ cs.size ∧ cp'.holds A W (.cells (cs.toList.take off ++ cells ++ cs.toList.drop (off + cells.length)).toArray T (0, 0)))
    (k : Sq c ops Q rest ((dd, .of (vs.length : Int)) :: E) (L.set i ⟨some p, cp'⟩)) :
    Sq c ops Q (⟨some dd, .call ⟨.builtin .copy, #[x, y], #[t, t2]⟩, ty, pos, af, none⟩ :: rest) E L := fun a W s => by
  have hN : dd < c.n := by simpa using hn
  have h1 : a.eval x = _ := hx a W s
  obtain ⟨hl, cells, hc, hr, h1c⟩ := hy a W s
  obtain ⟨o, ho, hh⟩ := s.own _ (List.mem_of_getElem? hL)
  obtain ⟨cs, rfl, hfit, hnew⟩ := hcp _ _ _ _ hh hr
  obtain ⟨ie, hie, hsz⟩ := te.info
  have hst := run_storeCells_at (P := c.P) p off T cells 0 cs W ho (by omega) h1c
  simp only [Nat.add_zero] at hst
  have hrun : (execOp a.eval ⟨some dd, .call ⟨.builtin .copy, #[x, y], #[t, t2]⟩, ty, pos, af, none⟩).run c.P W = .ok (.value (goInt vs.length)) (W.setRow p (cs.toList.take off ++ cells ++ cs.toList.drop (off + cells.length)).toArray) := by
    simp [execOp, resolve, invoke, builtin, Builtin.copy_, h1, run_underlying hu, hl, hmin, Go.sizeOf, typeInfo, hie, hsz, hc, hst]
  refine wpList_op rfl (R := fun v W1 => v = goInt vs.length ∧ W1 = W.setRow p (cs.toList.take off ++ cells ++ cs.toList.drop (off + cells.length)).toArray) (.of_run hrun ⟨rfl, rfl⟩) fun v W1 ⟨hv, hw⟩ => ?_
  subst hv
  subst hw
  exact k _ _ ((s.store hL ho hnew).put hN (of_int.2 rfl))

/-- a part of an own row, of which the first k elements are asked for -/
theorem src_own {i T cap lo N k : Nat} {key : Option Nat} {α : Type} [Rp α] {xs : List α} (hy : Look c E L y (.eq (vslv key lo N cap (Rp.size α)))) (hL : L[i]? = some ⟨key, .row T xs cap⟩) (hk : 0 < k) (hlo : lo + k ≤ xs.length) :
    Src c E L y N ((xs.drop lo).take k) := fun a W s => by
  obtain ⟨p, cs, rfl, hob, g1, g2, g3, g4⟩ := s.rowAt hL (by omega)
  have h1 : a.eval y = _ := hy a W s
  have hcl : cap ≠ lo := by omega
  have hv : a.eval y = .slice (some ⟨p, lo * Rp.size α, none⟩) N (cap - lo) := by rw [h1]; simp [vslv, hcl]
  have hlen : ((xs.drop lo).take k).length = k := by rw [List.length_take, List.length_drop]; omega
  have hcs : cs.toList.length = cap * Rp.size α := by simpa using g1
  have hle1 : (lo + k) * Rp.size α ≤ xs.length * Rp.size α := Nat.mul_le_mul_right _ hlo
  have hle2 : xs.length * Rp.size α ≤ cap * Rp.size α := Nat.mul_le_mul_right _ g2
  rw [Nat.add_mul] at hle1
  have hcl2 : ((cs.toList.drop (lo * Rp.size α)).take (k * Rp.size α)).length = k * Rp.size α := by rw [List.length_take, List.length_drop]; omega
  have hrep : Reps (ks L ++ c.A0) W ((cs.toList.drop (lo * Rp.size α)).take (k * Rp.size α)) ((xs.drop lo).take k) := by
    refine ⟨by rw [hcl2, hlen], fun j hj => ?_⟩
    rw [hlen] at hj
    have h5 := g4.2 (lo + j) (by omega)
    have hin := row_in (s := Rp.size α) hj
    have hin2 := row_in (s := Rp.size α) (show lo + j < xs.length by omega)
    rw [List.drop_take, List.take_take, Nat.min_eq_left (by omega)] at h5
    rw [List.drop_take, List.take_take, Nat.min_eq_left (by omega), List.drop_drop, ← Nat.add_mul]
    simpa using h5
  have h9 := run_loadCells_list (P := c.P) W ⟨p, lo * Rp.size α, none⟩ ((cs.toList.drop (lo * Rp.size α)).take (k * Rp.size α)) fun j v hv => by
    rw [addr_add, cell_of_row W p _ cs T (0, 0) hob]
    rw [List.getElem?_take] at hv
    split at hv
    · rw [List.getElem?_drop] at hv; simpa using hv
    · cases hv
  rw [hcl2] at h9
  refine ⟨by rw [hv]; rfl, (cs.toList.drop (lo * Rp.size α)).take (k * Rp.size α), ?_, hrep, hrep.one⟩
  rw [hv]
  simp only [Builtin.firstCells]
  rw [hlen]
  exact h9

theorem vslv_at {p lo n cap size : Nat} (h : cap ≠ lo) : vslv (some p) lo n cap size = Value.slice (some ⟨p, lo * size, none⟩) n (cap - lo) := by simp [vslv, h]
theorem src_row {i T cap : Nat} {key : Option Nat} {α : Type} [Rp α] {xs : List α} (hy : Look c E L y (.eq (slv key xs.length cap))) (hL : L[i]? = some ⟨key, .row T xs cap⟩) (hx : 0 < xs.length) : Src c E L y xs.length xs := by
  have := src_own (lo := 0) (k := xs.length) (N := xs.length) (by rw [vslv_zero]; exact hy) hL hx (by omega)
  simpa using this

theorem look_z {key : Option Nat} {n cap size : Nat} (h : Look c E L x (.eq (vslv key 0 n cap size))) : Look c E L x (.eq (slv key n cap)) := by rw [← vslv_zero (size := size)]; exact h
theorem look_a {p lo n cap size : Nat} (hc : cap ≠ lo) (h : Look c E L x (.eq (vslv (some p) lo n cap size))) : Look c E L x (.eq (.slice (some ⟨p, lo * size, none⟩) n (cap - lo))) := by rw [← vslv_at hc]; exact h

/-- a row whose first i elements are those of xs, and that has those behind them m places on -/
def CP.gap {α : Type} [Rp α] (T : TypeId) (xs : List α) (i m cap : Nat) : CP where
  holds A W o := ∃ cs, o = .cells cs T (0, 0) ∧ cs.size = cap * Rp.size α ∧ xs.length + m ≤ cap ∧ cap ≤ maxLen ∧ Reps A W (cs.toList.take (i * Rp.size α)) (xs.take i) ∧
    Reps A W ((cs.toList.drop ((i + m) * Rp.size α)).take ((xs.length - i) * Rp.size α)) (xs.drop i)
  nilOk := False
  mono e h := let ⟨cs, h1, h2, h3, h4, h5, h6⟩ := h; ⟨cs, h1, h2, h3, h4, h5.mono e, h6.mono e⟩

/-- what lies behind place i is copied m places on -/
theorem gap_new {α : Type} [Rp α] {T i m cap : Nat} {xs : List α} (hi : i ≤ xs.length) (hm : xs.length + m ≤ cap) {A W o cells} (h : (CP.row T xs cap).holds A W o) (hc : Reps A W cells (xs.drop i)) :
    ∃ cs, o = .cells cs T (0, 0) ∧ (i + m) * Rp.size α + cells.length ≤ cs.size ∧ (CP.gap T xs i m cap).holds A W (.cells (cs.toList.take ((i + m) * Rp.size α) ++ cells ++ cs.toList.drop ((i + m) * Rp.size α + cells.length)).toArray T (0, 0)) := by
  obtain ⟨cs, rfl, g1, g2, g3, g4⟩ := h
  have hcs : cs.toList.length = cap * Rp.size α := by simpa using g1
  have hcl : cells.length = (xs.length - i) * Rp.size α := by rw [hc.1, List.length_drop]
  have e1 : (i + m) * Rp.size α + (xs.length - i) * Rp.size α = (xs.length + m) * Rp.size α := by rw [← Nat.add_mul]; congr 1; omega
  have e2 : (xs.length + m) * Rp.size α ≤ cap * Rp.size α := Nat.mul_le_mul_right _ hm
  have e3 : i * Rp.size α ≤ (i + m) * Rp.size α := Nat.mul_le_mul_right _ (by omega)
  have e4 : i * Rp.size α ≤ xs.length * Rp.size α := Nat.mul_le_mul_right _ hi
  have e5 : (cs.toList.take ((i + m) * Rp.size α)).length = (i + m) * Rp.size α := by rw [List.length_take]; omega
  refine ⟨cs, rfl, by omega, _, rfl, ?_, hm, g3, ?_, ?_⟩
  · simp only [List.size_toArray, List.length_append, List.length_take, List.length_drop]; omega
  · rw [List.toList_toArray, List.append_assoc, List.take_append_of_le_length (by rw [e5]; omega), List.take_take, Nat.min_eq_left e3]
    have := row_take hi (⟨cs, rfl, g1, g2, g3, g4⟩ : (CP.row T xs cap).holds A W (.cells cs T (0, 0)))
    obtain ⟨cs2, h1, _, _, _, h5⟩ := this
    cases h1
    rwa [List.length_take, Nat.min_eq_left hi] at h5
  · rw [List.toList_toArray, List.append_assoc, List.drop_left' e5, ← hcl, List.take_left]
    exact hc

/-- what is to come between is laid there -/
theorem gap_fill {α : Type} [Rp α] {T i cap : Nat} {xs vs : List α} (hi : i ≤ xs.length) {A W o cells} (h : (CP.gap T xs i vs.length cap).holds A W o) (hc : Reps A W cells vs) :
    ∃ cs, o = .cells cs T (0, 0) ∧ i * Rp.size α + cells.length ≤ cs.size ∧ (CP.row T (xs.take i ++ vs ++ xs.drop i) cap).holds A W (.cells (cs.toList.take (i * Rp.size α) ++ cells ++ cs.toList.drop (i * Rp.size α + cells.length)).toArray T (0, 0)) := by
  obtain ⟨cs, rfl, g1, g2, g3, g4, g5⟩ := h
  have hcs : cs.toList.length = cap * Rp.size α := by simpa using g1
  have hcl : cells.length = vs.length * Rp.size α := hc.1
  have e0 : i * Rp.size α + vs.length * Rp.size α = (i + vs.length) * Rp.size α := by rw [← Nat.add_mul]
  have e1 : (i + vs.length) * Rp.size α + (xs.length - i) * Rp.size α = (xs.length + vs.length) * Rp.size α := by rw [← Nat.add_mul]; congr 1; omega
  have e2 : (xs.length + vs.length) * Rp.size α ≤ cap * Rp.size α := Nat.mul_le_mul_right _ g2
  have hlen : (xs.take i ++ vs ++ xs.drop i).length = xs.length + vs.length := by simp; omega
  refine ⟨cs, rfl, by omega, _, rfl, ?_, by rw [hlen]; exact g2, g3, ?_⟩
  · simp only [List.size_toArray, List.length_append, List.length_take, List.length_drop]; omega
  · rw [List.toList_toArray, hlen]
    have hall := reps_append (reps_append g4 hc) g5
    have e5 : (cs.toList.take (i * Rp.size α) ++ cells).length = (i + vs.length) * Rp.size α := by rw [List.length_append, List.length_take]; omega
    have e6 : (cs.toList.take (i * Rp.size α) ++ cells ++ cs.toList.drop (i * Rp.size α + cells.length)).take ((xs.length + vs.length) * Rp.size α) = cs.toList.take (i * Rp.size α) ++ cells ++ (cs.toList.drop ((i + vs.length) * Rp.size α)).take ((xs.length - i) * Rp.size α) := by
      rw [List.take_append, e5, List.take_of_length_le (by omega), hcl, e0]
      congr 2
      omega
    rw [e6]
    exact hall

/-- a part of an own row is overwritten -/
theorem row_part {α : Type} [Rp α] {T lo cap : Nat} {xs vs : List α} (hk : lo + vs.length ≤ xs.length) {A W o cells} (h : (CP.row T xs cap).holds A W o) (hc : Reps A W cells vs) :
    ∃ cs, o = .cells cs T (0, 0) ∧ lo * Rp.size α + cells.length ≤ cs.size ∧ (CP.row T (xs.take lo ++ vs ++ xs.drop (lo + vs.length)) cap).holds A W (.cells (cs.toList.take (lo * Rp.size α) ++ cells ++ cs.toList.drop (lo * Rp.size α + cells.length)).toArray T (0, 0)) := by
  obtain ⟨cs, rfl, g1, g2, g3, g4⟩ := h
  have hcs : cs.toList.length = cap * Rp.size α := by simpa using g1
  have hcl : cells.length = vs.length * Rp.size α := hc.1
  have e0 : lo * Rp.size α + vs.length * Rp.size α = (lo + vs.length) * Rp.size α := by rw [← Nat.add_mul]
  have e1 : (lo + vs.length) * Rp.size α ≤ xs.length * Rp.size α := Nat.mul_le_mul_right _ hk
  have e2 : xs.length * Rp.size α ≤ cap * Rp.size α := Nat.mul_le_mul_right _ g2
  have hlen : (xs.take lo ++ vs ++ xs.drop (lo + vs.length)).length = xs.length := by simp; omega
  refine ⟨cs, rfl, by omega, _, rfl, ?_, by rw [hlen]; exact g2, g3, ?_⟩
  · simp only [List.size_toArray, List.length_append, List.length_take, List.length_drop]; omega
  · rw [List.toList_toArray, hlen]
    have g5 := reps_part (lo := lo) g4 hc hk
    have e : (cs.toList.take (lo * Rp.size α) ++ cells ++ cs.toList.drop (lo * Rp.size α + cells.length)).take (xs.length * Rp.size α) = (cs.toList.take (xs.length * Rp.size α)).take (lo * Rp.size α) ++ cells ++ (cs.toList.take (xs.length * Rp.size α)).drop (lo * Rp.size α + cells.length) := by
      have e3 : (cs.toList.take (lo * Rp.size α) ++ cells).length = lo * Rp.size α + cells.length := by rw [List.length_append, List.length_take]; omega
      rw [List.take_append, e3, List.take_of_length_le (by omega), List.take_take, Nat.min_eq_left (by omega), List.drop_take]
    rw [e]
    exact g5

theorem r_capO {p n cap e : Nat} (hu : c.P.underlying t = some (.slice e)) (hx : Look c E L x (.eq (slv (some p) n cap))) : HR c E L ⟨d, .call ⟨.builtin .cap, #[x], #[t]⟩, ty, pos, af, g⟩ (.of (cap : Int)) := .pure fun a W s => by
  have h1 : a.eval x = _ := hx a W s
  exact ⟨.int .i64 cap, by simp [execOp, resolve, invoke, builtin, Builtin.cap_, h1, slv, run_underlying hu, goInt], of_int.2 rfl⟩

/-- a slice of a slice whose value is known -/
theorem r_sliceE {p n cap : Nat} {α : Type} [Rp α] {e : TypeId} {lo hi : Option Operand} {m h : Nat} {zi zj : Int} (hu : c.P.underlying t = some (.slice e)) (te : Ty c.P e α) (hx : Look c E L x (.eq (slv (some p) n cap)))
    (hlo : Bd c E L lo zi 0) (hhi : Bd c E L hi zj n) (hm : zi = m) (hn : zj = h) (hh : m ≤ h ∧ h ≤ cap) :
    HR c E L ⟨d, .slice t x lo hi none, ty, pos, af, g⟩ (.eq (vslv (some p) m (h - m) cap (Rp.size α))) := .pure fun a W s => by
  subst hm; subst hn
  obtain ⟨hmn, hnx⟩ := hh
  obtain ⟨ie, hie, hsz⟩ := te.info
  have h1 : a.eval x = _ := hx a W s
  refine ⟨_, ?_, rfl⟩
  simp only [vslv]
  have hL : ∀ v, v = Value.int .i64 m → (Instr.sliceBound v h .sliceB).run c.P W = .ok m W := fun v hv => run_sliceB hmn hv
  have hH : ∀ v, v = Value.int .i64 h → (Instr.sliceBound v cap .sliceAcap).run c.P W = .ok h W := fun v hv => run_sliceB (by omega) hv
  generalize hin : (h : Int) = nI at hhi
  generalize him : (m : Int) = mI at hlo
  generalize hxl : (n : Int) = xl at hhi
  generalize hzz : (0 : Int) = zz at hlo
  cases hlo with
  | none =>
    have hm0 : m = 0 := by omega
    cases hhi with
    | none =>
      have hnx : h = n := by omega
      subst hnx
      subst hm0
      simp [execOp, Instr.sliceAt, Instr.slice, Instr.sliceBounds, h1, slv, run_underlying hu, Go.sizeOf, typeInfo, hie, hsz, addr_add]
    | some hh =>
      subst hin
      subst hm0
      simp [execOp, Instr.sliceAt, Instr.slice, Instr.sliceBounds, h1, slv, run_underlying hu, Go.sizeOf, typeInfo, hie, hsz, addr_add, hH _ (of_int.1 (hh a W s))]
  | some hl =>
    subst him
    cases hhi with
    | none =>
      have hnx : h = n := by omega
      subst hnx
      simp [execOp, Instr.sliceAt, Instr.slice, Instr.sliceBounds, h1, slv, run_underlying hu, Go.sizeOf, typeInfo, hie, hsz, addr_add, hL _ (of_int.1 (hl a W s))]
      split <;> rfl
    | some hh =>
      subst hin
      simp [execOp, Instr.sliceAt, Instr.slice, Instr.sliceBounds, h1, slv, run_underlying hu, Go.sizeOf, typeInfo, hie, hsz, addr_add, hL _ (of_int.1 (hl a W s)), hH _ (of_int.1 (hh a W s))]
      split <;> rfl

/-- a call of slices.overlaps for two rows of the call's own -/
theorem r_ovl {f : FuncId} {fn : Func} {p q T U cap cap' i j e tR la ca lb cb oa ob : Nat} {α : Type} [Rp α] {xs vs : List α} (hsz0 : Nat.beq (Rp.size α) 0 = false)
    (hf : c.P.funcs[f]? = some fn) (hname : (fn.name == "runtime.NumGoroutine") = false) (hb : fn.body.isNone = true) (hn : Extern.findNext fn = none)
    (he : Extern.find fn = some (Extern.SlicesOverlaps.overlaps #[t, t] #[tR])) (hu : c.P.underlying t = some (.slice e)) (te : Ty c.P e α)
    (hx : Look c E L x (.eq (.slice (some ⟨q, oa, none⟩) la ca))) (hy : Look c E L y (.eq (.slice (some ⟨p, ob, none⟩) lb cb)))
    (hi : L[i]? = some ⟨some p, .row T xs cap⟩) (hj : L[j]? = some ⟨some q, .row U vs cap'⟩) (hpq : p ≠ q) (hcap : 0 < cap) :
    HR c E L ⟨d, .call ⟨.value (.func f), #[x, y], #[t, t]⟩, ty, pos, af, g⟩ (.of false) := .pure fun a W s => by
  obtain ⟨o, ho, cs, rfl, g1, g2, g3, g4⟩ := s.own _ (List.mem_of_getElem? hi)
  obtain ⟨o', ho', cs', rfl, k1, k2, k3, k4⟩ := s.own _ (List.mem_of_getElem? hj)
  obtain ⟨ie, hie, hsz⟩ := te.info
  have h1 : a.eval x = _ := hx a W s
  have h2 : a.eval y = _ := hy a W s
  have hs0 : Rp.size α ≠ 0 := fun h => by rw [h] at hsz0; cases hsz0
  have hne : cs.size ≠ 0 := by rw [g1]; exact Nat.mul_ne_zero (by omega) hs0
  have hov := Lib.run_overlaps_apart (P := c.P) W t tR e hu (Rp.size α) (fun w => by simp [Go.sizeOf, typeInfo, hie, hsz]) ⟨q, oa, none⟩ ⟨p, ob, none⟩ la ca lb cb (fun h => hpq h.symm) U T cs'.size cs.size
    (by simp [World.shape?, ho']) (by simp [World.shape?, ho]) hne (by simp [World.frozen?, ho']) (by simp [World.frozen?, ho'])
  refine ⟨.bool false, ?_, by exact of_bool.2 rfl⟩
  have h0 : a.eval (.func f) = .func (.func f) #[] #[] := rfl
  simp [execOp, resolve, Deferred.ofValue, h0, invoke, run_callFunc_extern hf hname hb hn he, h1, h2, hov]

/-- append(s[:m], make(S, k)...) where there is no room: a new row -/
theorem Sq.appZ {α : Type} [Rp α] {rest : List Oper} {dd i e bytes cap m k p T : Nat} {kn : IntKind} {xs : List α} {z : α} (hu : c.P.underlying t = some (.slice e)) (hun : c.P.underlying t2 = some (.int kn)) (te : Ty c.P e α) (zr : Zr c.P e z) (hsz0 : Nat.beq (Rp.size α) 0 = false)
    (hby : (c.P.info? e).map (·.bytes) = some bytes) (hx : Look c E L x (.eq (vslv (some p) 0 m cap (Rp.size α)))) (hy : Look c E L y (.of (k : Int))) (hL : L[i]? = some ⟨some p, .row T xs cap⟩) (hm : m ≤ xs.length) (hk : 0 < k) (hg : cap < m + k)
    (hb1 : (m + k) * bytes ≤ 140737488355328) (hb2 : m + k ≤ maxLen) (hn : Nat.blt dd c.n = true)
    (kk : ∀ q cap', Sq c ops Q rest ((dd, .eq (slv (some q) (m + k) cap')) :: E) (⟨some q, .row e (xs.take m ++ List.replicate k z) cap'⟩ :: L)) :
    Sq c ops Q (⟨some dd, .call ⟨.builtin .append, #[x, y], #[t, t2]⟩, ty, pos, af, none⟩ :: rest) E L := fun a W s => by
  obtain ⟨ie, zv, hie, hz, hzh⟩ := zr.zero
  have hie2 : ie.size = Rp.size α := by
    obtain ⟨i2, h1, h2⟩ := te.info
    rw [hie] at h1; cases h1; exact h2
  have hbytes : ie.bytes = bytes := by simpa [hie] using hby
  subst hbytes
  have hzs : zv.cells.size = Rp.size α := by have := Rp.len (hzh [] W).2; simpa using this
  have hs0 : Rp.size α ≠ 0 := fun h => by rw [h] at hsz0; cases hsz0
  have hN : dd < c.n := by simpa using hn
  have h1 : a.eval x = .slice (some ⟨p, 0, none⟩) m cap := by
    have := hx a W s
    rw [vslv_zero] at this
    exact this
  obtain ⟨o, ho, cs, rfl, g1, g2, g3, g4⟩ := s.own _ (List.mem_of_getElem? hL)
  have hml : maxLen = 9223372036854775807 := rfl
  have h2 : a.eval y = .int .i64 k := of_int.1 (hy a W s)
  have hrow := row_take hm (⟨cs, rfl, g1, g2, g3, g4⟩ : (CP.row T xs cap).holds (ks L ++ c.A0) W (.cells cs T (0, 0)))
  obtain ⟨cs2, e1, _, _, _, hrm⟩ := hrow
  cases e1
  have hml2 : (xs.take m).length = m := by rw [List.length_take]; omega
  rw [hml2] at hrm
  have hcell : ∀ (j : Nat) u, (cs.toList.take (m * Rp.size α))[j]? = some u → W.drew.cell? ((⟨p, 0, none⟩ : Addr).add j) = some u := by
    intro j u hu'
    rw [List.getElem?_take] at hu'
    split at hu'
    · rw [addr_add, Nat.zero_add, cell_of_row W.drew p j cs T (0, 0) ho]; simpa using hu'
    · cases hu'
  have hold := run_loadCells_list (P := c.P) W.drew ⟨p, 0, none⟩ _ hcell
  rw [hrm.1, hml2] at hold
  have hr := Lib.run_append_grow_zeros (P := c.P) W t t2 ty e ie zv .i64 kn hu hun hie hz (some ⟨p, 0, none⟩) m cap _ (by simp only [Builtin.firstCells]; rw [hie2]; exact hold) k hk (by omega) hg (by omega)
    (by have : k * ie.bytes ≤ (m + k) * ie.bytes := Nat.mul_le_mul_right _ (by omega)
        omega) (growslice_fits hg hb1)
  have hge := grownCap_ge W (m + k) cap e
  have hle := grownCap_le_maxLen W (m + k) cap e hb2
  have hzv := hzh (ks L ++ c.A0) W
  have hz0 := reps_zero hzv k hs0
  have hzc : Builtin.zeroCells zv.cells k = (Array.range (k * Rp.size α)).map (zv.cells[· % zv.cells.size]!) := by rw [Builtin.zeroCells, hzs]
  rw [← hzc] at hz0
  have hcat := (reps_append hrm hz0).mono (Ext.fr (Fr.drew W))
  have hlen : (xs.take m ++ List.replicate k z).length = m + k := by rw [List.length_append, hml2, List.length_replicate]
  have hst := (s.world (Fr.drew W)).alloc (o := .cells ((cs.toList.take (m * Rp.size α)).toArray ++ Builtin.zeroCells zv.cells k ++ Builtin.zeroCells zv.cells (grownCap W (m + k) cap e - (m + k))) e)
    (cp := .row e (xs.take m ++ List.replicate k z) (grownCap W (m + k) cap e))
    (row_new (T := e) hcat (ds := (Builtin.zeroCells zv.cells (grownCap W (m + k) cap e - (m + k))).toList) (by rw [Array.length_toList, size_zeroCells, hzs, hlen]) (by rw [hlen]; exact hge) hle (by simp))
  refine wpList_op rfl (R := fun v W1 => v = slv (some W.heap.size) (m + k) (grownCap W (m + k) cap e) ∧ W1 = W.drew.alloc (.cells ((cs.toList.take (m * Rp.size α)).toArray ++ Builtin.zeroCells zv.cells k ++ Builtin.zeroCells zv.cells (grownCap W (m + k) cap e - (m + k))) e)) (.of_run ?_ ⟨rfl, rfl⟩) fun v W1 ⟨hv, hw⟩ => ?_
  · simp only [execOp, resolve, invoke, builtin, Sem.run_bind, Sem.run_pure, Result.andThen_ok]
    have e1 : (#[x, y] : Array Operand).map a.eval = #[a.eval x, a.eval y] := by simp
    rw [e1, h1, h2, hr]
    rfl
  · subst hv
    subst hw
    exact kk _ _ _ _ (hst.put hN rfl)

/-- a pointer to a cell that nobody writes any more, which holds a value as τ says -/
def VP.pv (τ : VP) : VP where
  holds A W v := ∃ b cur T fz u, v = .pointer (some ⟨b, 0, none⟩) ∧ b ∉ A ∧ W.heap[b]? = some (.cells cur T fz) ∧ cur[0]? = some u ∧ u.oneCell' = true ∧ τ.holds A W u
  mono e h := by
    obtain ⟨b, cur, T, fz, u, rfl, hb, hh, hs, h1, hr⟩ := h
    have hlt : b < _ := (Array.getElem?_eq_some_iff.1 hh).1
    exact ⟨b, cur, T, fz, u, rfl, fun hm => hb (e.new b hm hlt), by rw [e.block b hlt hb]; exact hh, hs, h1, τ.mono e hr⟩

/-- a variable of a function's type, boxed, and written no more -/
theorem Sq.boxF {rest : List Oper} {dd : Nat} {τ : VP} (hx : Look c E L x τ) (h1 : ∀ A W v, τ.holds A W v → v.oneCell' = true) (hn : Nat.blt dd c.n = true)
    (k : Sq c ops Q rest ((dd, .pv τ) :: E) L) : Sq c ops Q (⟨some dd, .box t x, ty, pos, af, none⟩ :: rest) E L := fun a W s => by
  have hv := hx a W s
  have ho := h1 _ _ _ hv
  refine wpList_op rfl (R := fun v W' => v = .pointer (some ⟨W.heap.size, 0, none⟩) ∧ W' = W.alloc (.cells (a.eval x).cells t)) (.of_run ?_ ⟨rfl, rfl⟩) fun v W' ⟨hv', hw⟩ => ?_
  · simp [execOp, Instr.box, newVar, newRow]
  · subst hv'
    subst hw
    have s1 := ((s.alloc (o := .cells (a.eval x).cells t) (cp := .dead) trivial).kill 0).dropL 1
    refine k _ _ (St.put s1 (by simpa using hn) ?_)
    refine ⟨W.heap.size, (a.eval x).cells, t, (0, 0), a.eval x, rfl, fun hm => ?_, ha_new W _, by rw [cells_one ho]; rfl, ho, τ.mono (A := ks L ++ c.A0) (W := W) ⟨by simp, fun k hk _ => ha_old W _ k hk, fun k h _ => h⟩ hv⟩
    rcases List.mem_append.1 hm with hm | hm
    · exact Nat.lt_irrefl _ (s.lt _ hm)
    · exact Nat.lt_irrefl _ (s.old _ hm).1

theorem r_loadF {τ : VP} {D : TypeDesc} (hu : c.P.underlying t = some D) (hd : (match (motive := TypeDesc → Bool) D with | .struct _ | .array _ _ => true | _ => false) = false) (hx : Look c E L x (.pv τ)) : HR c E L ⟨d, .load t x, ty, pos, af, g⟩ τ := .pure fun a W s => by
  obtain ⟨b, cur, T, fz, u, h1, hb, hh, hs, h2, hr⟩ := hx a W s
  have hag : (isAgg t).run c.P W = .ok false W := by
    unfold Go.isAgg
    rw [Sem.run_bind, run_underlying hu W]
    simp only [Result.andThen_ok]
    cases D <;> simp_all
  have hcell : W.cell? ⟨b, 0, none⟩ = some u := by rw [cell_of_row W b 0 cur T fz hh]; exact hs
  refine ⟨u, ?_, hr⟩
  simp [execOp, Instr.loadAt, Instr.sureAddr, h1, loadVar, Sem.run_bind, hag, hcell]

/-- a row that is not empty has a block -/
theorem Wp.some {code : Code} {i T cap : Nat} {key : Option Nat} {α : Type} [Rp α] {xs : List α} (hL : L[i]? = Option.some ⟨key, .row T xs cap⟩) (hx : 0 < xs.length) (k : ∀ p, key = Option.some p → xs.length ≤ cap → cap ≤ maxLen → Wp c Q code E L) : Wp c Q code E L := fun a W s => by
  obtain ⟨p, cs, rfl, hob, g1, g2, g3, g4⟩ := s.rowAt hL hx
  exact k p rfl g2 g3 a W s
/-- two rows have two blocks -/
theorem Wp.apart {code : Code} {p q : Nat} {cp cp' : CP} {L' : List Ent} (hL : L = ⟨Option.some p, cp⟩ :: ⟨Option.some q, cp'⟩ :: L') (k : p ≠ q → Wp c Q code E L) : Wp c Q code E L := fun a W s => by
  refine k (fun e => ?_) a W s
  have := s.nodup
  rw [hL, e] at this
  simp [ks] at this

/-- of a field that holds an own slice the data say nothing -/
theorem repH_clr {α γ : Type} [Rp α] [Rp γ] {A W} {cs : List Value} {x : α} {os : List (Nat × Value)} {u : Value} (l : Lens α (List γ)) (h : RepH A W cs x os) (hq : (l.off, u) ∈ os) : RepH A W cs (l.set x []) os := by
  refine ⟨?_, h.2⟩
  have h1 := l.set_rep (ds := [nilS]) (g := ([] : List γ)) h.1 (show Rp.rep A W [nilS] ([] : List γ) from by
    have := (of_list (A := A) (W := W) (v := nilS) (xs := ([] : List γ))).2 (.inl ⟨rfl, rfl⟩)
    exact this.2)
  have hb : (blank os cs)[l.off]? = some nilS := by
    rw [blank_get, if_pos (List.any_eq_true.2 ⟨_, hq, by simp⟩), (h.2 _ hq).1]; rfl
  have hlt : l.off < (blank os cs).length := (List.getElem?_eq_some_iff.1 hb).1
  have he : (blank os cs).take l.off ++ [nilS] ++ (blank os cs).drop (l.off + Rp.size (List γ)) = blank os cs := by
    show (blank os cs).take l.off ++ [nilS] ++ (blank os cs).drop (l.off + 1) = blank os cs
    have h2 : (blank os cs)[l.off] = nilS := (List.getElem?_eq_some_iff.1 hb).2
    rw [← h2, List.append_assoc, List.singleton_append, List.getElem_cons_drop, List.take_append_drop]
  rwa [he] at h1
theorem Sq.clr {l0 : List Oper} {p : Nat} {β γ : Type} [Rp β] [Rp γ] {b b' : β} {os : List (Nat × Value)} {u : Value} (l : Lens β (List γ)) (i q : Nat) (hL : L[i]? = some ⟨some p, .varX b os⟩) (hq : os[q]? = some (l.off, u)) (hb : l.set b [] = b')
    (k : Sq c ops Q l0 E (L.set i ⟨some p, .varX b' os⟩)) : Sq c ops Q l0 E L := fun a W s =>
  k a W (s.again hL (fun A W o ⟨cs, T, h1, h2⟩ => ⟨cs, T, h1, hb ▸ repH_clr l h2 (List.mem_of_getElem? hq)⟩) id)
theorem To.clr {z : Exit} {p : Nat} {β γ : Type} [Rp β] [Rp γ] {b b' : β} {os : List (Nat × Value)} {u : Value} (l : Lens β (List γ)) (i q : Nat) (hL : L[i]? = some ⟨some p, .varX b os⟩) (hq : os[q]? = some (l.off, u)) (hb : l.set b [] = b')
    (k : To c Q z E (L.set i ⟨some p, .varX b' os⟩)) : To c Q z E L := fun a W s =>
  k a W (s.again hL (fun A W o ⟨cs, T, h1, h2⟩ => ⟨cs, T, h1, hb ▸ repH_clr l h2 (List.mem_of_getElem? hq)⟩) id)
end

/-- what slices.Insert makes, where some are to be inserted; none: out of range, or too many -/
def insM {α : Type} (bytes : Nat) (xs : List α) (i : Int) (vs : List α) : Option (List α) :=
  if 0 ≤ i ∧ i ≤ xs.length ∧ 0 < vs.length ∧ (xs.length + vs.length) * bytes ≤ 140737488355328 ∧ xs.length + vs.length ≤ maxLen then some (xs.take i.toNat ++ vs ++ xs.drop i.toNat) else none
theorem insM_some {α : Type} {bytes : Nat} {xs vs r : List α} {i : Int} (h : insM bytes xs i vs = some r) :
    ∃ k : Nat, i = k ∧ k ≤ xs.length ∧ 0 < vs.length ∧ (xs.length + vs.length) * bytes ≤ 140737488355328 ∧ xs.length + vs.length ≤ maxLen ∧ r = xs.take k ++ vs ++ xs.drop k := by
  unfold insM at h
  split at h
  · rename_i hc
    obtain ⟨h1, h2, h3, h4, h5⟩ := hc
    exact ⟨i.toNat, by omega, by omega, h3, h4, h5, (by simp only [Option.some.injEq] at h; exact h.symm)⟩
  · cases h
end Gv

namespace Gv
open Go
set_option linter.unusedVariables false
set_option linter.unusedSimpArgs false

section
variable {c : Cx} {E : List (Nat × VP)} {L : List Ent} {ops : Array Oper} {Q : Exit → Act → World → Prop} {rest : List Oper} {o : Oper} {dd : Nat}
variable {ty : TypeId} {pos : String} {af : Array Edge} {x y : Operand} {t t2 : TypeId}

/-! ### The text's shape -/

theorem Qsr {id : Nat} {l : List Oper} {y : Code} (h : Sq c l.toArray (Exit.then (c.wp y Q) Q) l E L) : Wp c Q (.seq (.region id l.toArray false) y) E L := .seq (.reg h)
theorem Qnx {y : Code} (h : Wp c Q y E L) : Sq c ops (Exit.then (c.wp y Q) Q) [] E L := .nil (.next h)
theorem Qns {y z : Code} (h : Wp c (Exit.then (c.wp z Q) Q) y E L) : Sq c ops (Exit.then (c.wp (Code.seq y z) Q) Q) [] E L := .nil (.next (.seq h))
theorem Qnr {id : Nat} {l : List Oper} {z : Code} (h : Sq c l.toArray (Exit.then (c.wp z Q) Q) l E L) : Sq c ops (Exit.then (c.wp (Code.seq (.region id l.toArray false) z) Q) Q) [] E L := .nil (.next (.seq (.reg h)))
theorem Qkn {y : Code} (h : Wp c Q y E L) : Wp c (Exit.then (c.wp y Q) Q) .skip E L := .skip (.next h)
theorem Qbs {α β : Type} {m : Option α} {f : α → Option β} {r : β} (h : m.bind f = some r) : ∃ y, m = some y ∧ f y = some r := bind_some h
theorem Qcd {R : Type} {b : Bool} {A B : Option R} {r : R} {y z : Code} (h : cond b A B = some r) (ht : A = some r → Wp c Q y E L) (hf : B = some r → Wp c Q z E L)
    (hl : Look c E L x (.of b) := by first | exact look_t rfl | exact look_bool _) : Wp c Q (.cond x y z) E L :=
  .cond hl (fun hb => ht (cond_t hb h)) (fun hb => hf (cond_f hb h))

/-! ### Operations -/

theorem Qv {τ : VP} (h : HR c E L o τ) (k : Sq c ops Q rest ((dd, τ) :: E) L) (hg : o.guard = none := by rfl) (hd : o.dst = some dd := by rfl) (hn : Nat.blt dd c.n = true := by rfl) : Sq c ops Q (o :: rest) E L := .v h hg hd hn k
theorem Qm {τ : VP} (k : Sq c ops Q rest ((dd, τ) :: E) L) (hx : Look c E L x τ := by first | exact look_t rfl | exact look_int _ | exact look_bool _ | exact look_str _) (hn : Nat.blt dd c.n = true := by rfl) :
    Sq c ops Q (⟨some dd, .move x, ty, pos, af, none⟩ :: rest) E L := .v (r_move hx) rfl rfl hn k
theorem Qa {τ : VP} (k : Sq c ops Q rest ((dd, τ) :: E) L) (hx : Look c E L x τ := by first | exact look_t rfl | exact look_int _ | exact look_bool _ | exact look_str _) (hn : Nat.blt dd c.n = true := by rfl) :
    Sq c ops Q (⟨some dd, .assign x, ty, pos, af, none⟩ :: rest) E L := .v (r_asg hx) rfl rfl hn k
/-- one operand -/
theorem Q1 {σ τ : VP} (h : Look c E L x σ → HR c E L o τ) (k : Sq c ops Q rest ((dd, τ) :: E) L) (hx : Look c E L x σ := by first | exact look_t rfl | exact look_int _ | exact look_bool _ | exact look_str _)
    (hg : o.guard = none := by rfl) (hd : o.dst = some dd := by rfl) (hn : Nat.blt dd c.n = true := by rfl) : Sq c ops Q (o :: rest) E L := .v (h hx) hg hd hn k
/-- two operands -/
theorem Q2 {σ σ2 τ : VP} (h : Look c E L x σ → Look c E L y σ2 → HR c E L o τ) (k : Sq c ops Q rest ((dd, τ) :: E) L) (hx : Look c E L x σ := by first | exact look_t rfl | exact look_int _ | exact look_bool _ | exact look_str _)
    (hy : Look c E L y σ2 := by first | exact look_t rfl | exact look_int _ | exact look_bool _ | exact look_str _)
    (hg : o.guard = none := by rfl) (hd : o.dst = some dd := by rfl) (hn : Nat.blt dd c.n = true := by rfl) : Sq c ops Q (o :: rest) E L := .v (h hx hy) hg hd hn k
/-- the same, its value under a name -/
theorem Qn {α : Type} [Rp α] {a b : α} (e : some a = some b) (h : HR c E L o (.of a)) (k : Sq c ops Q rest ((dd, .of b) :: E) L) (hg : o.guard = none := by rfl) (hd : o.dst = some dd := by rfl) (hn : Nat.blt dd c.n = true := by rfl) :
    Sq c ops Q (o :: rest) E L := .v (h.as (some_in e)) hg hd hn k
theorem Qxt {i : Nat} {τs : List VP} {τ : VP} (k : Sq c ops Q rest ((dd, τ) :: E) L) (hx : Look c E L x (.tup τs) := by exact look_t rfl) (hi : τs[i]? = some τ := by rfl) (hn : Nat.blt dd c.n = true := by rfl) :
    Sq c ops Q (⟨some dd, .extract x i, ty, pos, af, none⟩ :: rest) E L := .v (r_ext hx hi) rfl rfl hn k
theorem Qld {p o : Nat} {β γ : Type} [Rp β] [Rp γ] {b : β} (j : Nat) (l : Lens β γ) (tt : Ty c.P t γ) (k : Sq c ops Q rest ((dd, .of (l.get b)) :: E) L) (hx : Look c E L x (.eq (.pointer (some ⟨p, o, none⟩))) := by exact look_t rfl)
    (hL : L[j]? = some ⟨some p, .var b⟩ := by rfl) (ho : o = l.off := by rfl) (hn : Nat.blt dd c.n = true := by rfl) : Sq c ops Q (⟨some dd, .load t x, ty, pos, af, none⟩ :: rest) E L := .v (r_load l tt hx hL ho rfl) rfl rfl hn k
theorem Ql0 {p : Nat} {β : Type} [Rp β] {b : β} (j : Nat) (tt : Ty c.P t β) (k : Sq c ops Q rest ((dd, .of b) :: E) L) (hx : Look c E L x (.eq (.pointer (some ⟨p, 0, none⟩))) := by exact look_t rfl)
    (hL : L[j]? = some ⟨some p, .var b⟩ := by rfl) (hn : Nat.blt dd c.n = true := by rfl) : Sq c ops Q (⟨some dd, .load t x, ty, pos, af, none⟩ :: rest) E L := .v (r_load (Lens.id β) tt hx hL rfl rfl) rfl rfl hn k
theorem Qlx {p o : Nat} {β γ : Type} [Rp β] [Rp γ] {b : β} {os : List (Nat × Value)} (j : Nat) (l : Lens β γ) (tt : Ty c.P t γ) (k : Sq c ops Q rest ((dd, .of (l.get b)) :: E) L) (hx : Look c E L x (.eq (.pointer (some ⟨p, o, none⟩))) := by exact look_t rfl)
    (hL : L[j]? = some ⟨some p, .varX b os⟩ := by rfl) (ho : o = l.off := by rfl) (ha : apartB os l.off (Rp.size γ) = true := by rfl) (hn : Nat.blt dd c.n = true := by rfl) : Sq c ops Q (⟨some dd, .load t x, ty, pos, af, none⟩ :: rest) E L := .v (r_loadX l tt hx hL ho rfl ha) rfl rfl hn k
theorem Qfp {s f o : Nat} {β γ : Type} [Rp β] [Rp γ] {b : β} (l : Lens β γ) (fd : FdA c.P s f o) (k : Sq c ops Q rest ((dd, .ptr (l.get b)) :: E) L) (hx : Look c E L x (.ptr b) := by exact look_t rfl) (ho : l.off = o := by rfl) (hn : Nat.blt dd c.n = true := by rfl) :
    Sq c ops Q (⟨some dd, .fieldAddr s x f, ty, pos, af, none⟩ :: rest) E L := .v (r_fap l fd hx ho rfl) rfl rfl hn k
theorem Qix {α : Type} [Rp α] [Inhabited α] {xs : List α} {e : TypeId} {i : Int} {j : Nat} (hk : idx xs.length i = some j) (hu : c.P.underlying t = some (.slice e)) (te : Ty c.P e α) (k : Sq c ops Q rest ((dd, .ptr (lget xs j)) :: E) L)
    (hx : Look c E L x (.of xs) := by exact look_t rfl) (hy : Look c E L y (.of i) := by first | exact look_t rfl | exact look_int _) (hn : Nat.blt dd c.n = true := by rfl) :
    Sq c ops Q (⟨some dd, .indexAddr t x y, ty, pos, af, none⟩ :: rest) E L := .v (r_ias hu te hx hy (idx_some hk)) rfl rfl hn k
theorem Qor {b e : Bool} {p : Prop} (k : Sq c ops Q rest ((dd, .of (b || e)) :: E) L) (hx : Look c E L x (.of b) := by exact look_t rfl) (hy : Look c E L y (.cond p (.of e)) := by exact look_t rfl) (hp : b = false → p := by exact fun h => h) (hn : Nat.blt dd c.n = true := by rfl) :
    Sq c ops Q (⟨some dd, .pick x (.const (.bool true)) y, ty, pos, af, none⟩ :: rest) E L := .v (r_or hx hy hp) rfl rfl hn k
theorem Qan {b e : Bool} {p : Prop} (k : Sq c ops Q rest ((dd, .of (b && e)) :: E) L) (hx : Look c E L x (.of b) := by exact look_t rfl) (hy : Look c E L y (.cond p (.of e)) := by exact look_t rfl) (hp : b = true → p := by exact fun h => h) (hn : Nat.blt dd c.n = true := by rfl) :
    Sq c ops Q (⟨some dd, .pick x y (.const (.bool false)), ty, pos, af, none⟩ :: rest) E L := .v (r_and hx hy hp) rfl rfl hn k
theorem Qg {τ : VP} {j g : Nat} {b want : Bool} (h : b = want → HR c E L o τ) (k : Sq c ops Q rest ((dd, .cond (b = want) τ) :: E) L) (hg : o.guard = some (j, want) := by rfl) (hj : (ops[j]?).bind (·.dst) = some g := by rfl) (hl : look E g = some (.of b) := by rfl)
    (hd : o.dst = some dd := by rfl) (hn : Nat.blt dd c.n = true := by rfl) : Sq c ops Q (o :: rest) E L := .g h hg hj hl hd hn k
/-- a guarded one, one operand -/
theorem Qg1 {σ τ : VP} {j g : Nat} {b want : Bool} (h : Look c E L x σ → HR c E L o τ) (k : Sq c ops Q rest ((dd, .cond (b = want) τ) :: E) L)
    (hx : b = want → Look c E L x σ := by first | exact fun hb => look_tc rfl hb | exact fun _ => look_t rfl | exact fun _ => look_int _ | exact fun _ => look_bool _)
    (hg : o.guard = some (j, want) := by rfl) (hj : (ops[j]?).bind (·.dst) = some g := by rfl) (hl : look E g = some (.of b) := by rfl)
    (hd : o.dst = some dd := by rfl) (hn : Nat.blt dd c.n = true := by rfl) : Sq c ops Q (o :: rest) E L := .g (fun hb => h (hx hb)) hg hj hl hd hn k
theorem Qg2 {σ σ2 τ : VP} {j g : Nat} {b want : Bool} (h : Look c E L x σ → Look c E L y σ2 → HR c E L o τ) (k : Sq c ops Q rest ((dd, .cond (b = want) τ) :: E) L)
    (hx : b = want → Look c E L x σ := by first | exact fun hb => look_tc rfl hb | exact fun _ => look_t rfl | exact fun _ => look_int _ | exact fun _ => look_bool _)
    (hy : b = want → Look c E L y σ2 := by first | exact fun hb => look_tc rfl hb | exact fun _ => look_t rfl | exact fun _ => look_int _ | exact fun _ => look_bool _)
    (hg : o.guard = some (j, want) := by rfl) (hj : (ops[j]?).bind (·.dst) = some g := by rfl) (hl : look E g = some (.of b) := by rfl)
    (hd : o.dst = some dd := by rfl) (hn : Nat.blt dd c.n = true := by rfl) : Sq c ops Q (o :: rest) E L := .g (fun hb => h (hx hb) (hy hb)) hg hj hl hd hn k
theorem Qal {α : Type} [Rp α] {z : α} (zr : Zr c.P t z) (k : ∀ p, Sq c ops Q rest ((dd, .eq (.pointer (some ⟨p, 0, none⟩))) :: E) (⟨some p, .var z⟩ :: L)) (hn : Nat.blt dd c.n = true := by rfl) :
    Sq c ops Q (⟨some dd, .alloc t, ty, pos, af, none⟩ :: rest) E L := .alloc zr hn k
theorem Qbx {α : Type} [Rp α] {z : α} (k : ∀ p, Sq c ops Q rest ((dd, .eq (.pointer (some ⟨p, 0, none⟩))) :: E) (⟨some p, .var z⟩ :: L)) (hx : Look c E L x (.of z) := by first | exact look_t rfl | exact look_int _ | exact look_bool _) (hn : Nat.blt dd c.n = true := by rfl) :
    Sq c ops Q (⟨some dd, .box t x, ty, pos, af, none⟩ :: rest) E L := .box hx hn k
theorem Qst {p o : Nat} {β γ : Type} [Rp β] [Rp γ] {b : β} {v : γ} (i : Nat) (l : Lens β γ) (tt : Ty c.P t γ) (k : Sq c ops Q rest E (L.set i ⟨some p, .var (l.set b v)⟩)) (hx : Look c E L x (.eq (.pointer (some ⟨p, o, none⟩))) := by exact look_t rfl)
    (hy : Look c E L y (.of v) := by first | exact look_t rfl | exact look_int _ | exact look_bool _ | exact look_nil | exact look_str _) (hL : L[i]? = some ⟨some p, .var b⟩ := by rfl) (ho : o = l.off := by rfl) :
    Sq c ops Q (⟨none, .store t x y, ty, pos, af, none⟩ :: rest) E L := .store l tt hx hy hL ho rfl k
theorem Qs0 {p : Nat} {β : Type} [Rp β] {b v : β} (i : Nat) (tt : Ty c.P t β) (k : Sq c ops Q rest E (L.set i ⟨some p, .var v⟩)) (hx : Look c E L x (.eq (.pointer (some ⟨p, 0, none⟩))) := by exact look_t rfl)
    (hy : Look c E L y (.of v) := by first | exact look_t rfl | exact look_int _ | exact look_bool _ | exact look_nil | exact look_str _) (hL : L[i]? = some ⟨some p, .var b⟩ := by rfl) :
    Sq c ops Q (⟨none, .store t x y, ty, pos, af, none⟩ :: rest) E L := .store (Lens.id β) tt hx hy hL rfl rfl k
theorem Qsn {p o : Nat} {β γ : Type} [Rp β] [Rp γ] {b b' : β} {v : γ} (i : Nat) (l : Lens β γ) (tt : Ty c.P t γ) (k : Sq c ops Q rest E (L.set i ⟨some p, .var b'⟩)) (hx : Look c E L x (.eq (.pointer (some ⟨p, o, none⟩))) := by exact look_t rfl)
    (hy : Look c E L y (.of v) := by first | exact look_t rfl | exact look_int _ | exact look_bool _ | exact look_nil | exact look_str _) (hL : L[i]? = some ⟨some p, .var b⟩ := by rfl) (ho : o = l.off := by rfl) (hb : some (l.set b v) = some b') :
    Sq c ops Q (⟨none, .store t x y, ty, pos, af, none⟩ :: rest) E L := .store l tt hx hy hL ho (some_in hb) k
theorem Qcl {f : FuncId} {xs : List Operand} {ats : Array TypeId} {τs : List VP} {ρ : VP} (en : En c.P f) (h : Meets c.P f τs ρ) (k : Sq c ops Q rest ((dd, ρ) :: E) L)
    (hx : Looks c E L xs τs := by repeat (first | exact trivial | refine ⟨look_t rfl, ?_⟩ | refine ⟨look_int _, ?_⟩ | refine ⟨look_bool _, ?_⟩ | refine ⟨look_nil, ?_⟩ | refine ⟨look_str _, ?_⟩)) (hn : Nat.blt dd c.n = true := by rfl) :
    Sq c ops Q (⟨some dd, .call ⟨.value (.func f), xs.toArray, ats⟩, ty, pos, af, none⟩ :: rest) E L := .v (r_call en h hx) rfl rfl hn k
theorem QcO {f : FuncId} {xs : List Operand} {ats : Array TypeId} {τs : List VP} {δ : Type} {ρ : δ → VP} {Lo : δ → List Ent} (n : Nat) (en : En c.P f) (h : MeetsO c.P f τs (L.take n) ρ Lo)
    (k : ∀ q, Sq c ops Q rest ((dd, ρ q) :: E) (Lo q ++ L.drop n)) (hx : Looks c E L xs τs := by repeat (first | exact trivial | refine ⟨look_t rfl, ?_⟩ | refine ⟨look_int _, ?_⟩ | refine ⟨look_bool _, ?_⟩ | refine ⟨look_nil, ?_⟩ | refine ⟨look_own, ?_⟩ | refine ⟨look_str _, ?_⟩)) (hn : Nat.blt dd c.n = true := by rfl) :
    Sq c ops Q (⟨some dd, .call ⟨.value (.func f), xs.toArray, ats⟩, ty, pos, af, none⟩ :: rest) E L := by
  have e := List.take_append_drop n L
  have := Sq.callO (ty := ty) (pos := pos) (af := af) (ats := ats) (xs := xs) (Lin := L.take n) (Lr := L.drop n) (E := E) (Q := Q) (ops := ops) en h (by rw [e]; exact hx) hn k
  rwa [e] at this
theorem Qap {α : Type} [Rp α] {e bytes cap : Nat} {key : Option Nat} {xs ys r : List α} {z : α} (j : Nat) (hu : c.P.underlying t = some (.slice e)) (te : Ty c.P e α) (zr : Zr c.P e z) (h : appM bytes xs ys = some r)
    (k : ∀ key' cap', Sq c ops Q rest ((dd, .eq (slv key' r.length cap')) :: E) (L.set j ⟨key', .row e r cap'⟩)) (hby : (c.P.info? e).map (·.bytes) = some bytes := by kernel_rfl)
    (hs : Look c E L x (.eq (slv key xs.length cap)) := by first | exact look_t rfl | exact look_own) (hL : L[j]? = some ⟨key, .row e xs cap⟩ := by rfl) (hy : Look c E L y (.of ys) := by exact look_t rfl) (hn : Nat.blt dd c.n = true := by rfl) :
    Sq c ops Q (⟨some dd, .call ⟨.builtin .append, #[x, y], #[t, t]⟩, ty, pos, af, none⟩ :: rest) E L := .app hu te zr hby hs hL hy h hn k

/-! ### Structs and lists that are built -/

theorem Qfl {place : Nat → Option (Nat × Nat)} {β : Type} [Rp β] {b b' : β} {γ : Type} [Rp γ] {v : γ} {i : Nat} {r : List (Nat × Operand)} (l : Lens β γ) (k : Fills c E L place (l.set b v) r b')
    (hp : place i = some (l.off, Rp.size γ) := by rfl) (hx : Look c E L x (.of v) := by first | exact look_t rfl | exact look_int _ | exact look_bool _ | exact look_nil | exact look_str _) : Fills c E L place b ((i, x) :: r) b' := .cons l hp hx rfl k
theorem Qbd {β : Type} [Rp β] {z b : β} {ps : List (Nat × Operand)} {pl : Array (Nat × Nat)} (bu : Bu c.P t pl) (zr : Zr c.P t z) (b0 : β) (hf : Fills c E L (pl[·]?) z ps b) (k : Sq c ops Q rest ((dd, .of b0) :: E) L) (ha : Rp.agg β = true := by rfl) (hb : b = b0 := by rfl) (hn : Nat.blt dd c.n = true := by rfl) :
    Sq c ops Q (⟨some dd, .build t ps.toArray, ty, pos, af, none⟩ :: rest) E L := .v ((r_build ha bu zr hf).as hb) rfl rfl hn k
theorem Qbl {α : Type} [Rp α] {e n : Nat} {z : α} {ps : List (Nat × Operand)} (r : List α) (hu : c.P.underlying t = some (.slice e)) (te : Ty c.P e α) (zr : Zr c.P e z) (k : Sq c ops Q rest ((dd, .of r) :: E) L)
    (hf : FillsL c E L (List.replicate n z) ps r := by repeat (first | exact FillsL.nil | refine FillsL.cons (by simp) (look_t rfl) ?_ | refine FillsL.cons (by simp) (look_int _) ?_ | refine FillsL.cons (by simp) (look_bool _) ?_ | refine FillsL.cons (by simp) (look_str _) ?_))
    (hs : Nat.beq (Rp.size α) 0 = false := by rfl) (hn' : Nat.ble (n * Rp.size α) 16777216 = true := by rfl) (hn : Nat.blt dd c.n = true := by rfl) :
    Sq c ops Q (⟨some dd, .buildSlice t n ps.toArray, ty, pos, af, none⟩ :: rest) E L := .v (r_bsl hu te zr hs hn' hf) rfl rfl hn k

/-! ### What is known, and ends -/

/-- what is known of some slots -/
inductive Sb (E : List (Nat × VP)) : List Nat → List (Nat × VP) → Prop
  | nil : Sb E [] []
  | cons {t : Nat} {ts : List Nat} {τ : VP} {E2 : List (Nat × VP)} : look E t = some τ → Sb E ts E2 → Sb E (t :: ts) ((t, τ) :: E2)
theorem Sb.le : ∀ {ts : List Nat} {E1 : List (Nat × VP)}, Sb E ts E1 → Le E E1
  | _, _, .nil => .nil
  | _, _, .cons h k => .same h k.le
theorem Qwl {code : Code} {E1 : List (Nat × VP)} (ts : List Nat) (k : Wp c Q code E1 L) (hE : Sb E ts E1 := by repeat (first | exact Sb.nil | (apply Sb.cons; rfl))) : Wp c Q code E L := .le hE.le k
theorem Qtl {z : Exit} {E1 : List (Nat × VP)} (ts : List Nat) (k : To c Q z E1 L) (hE : Sb E ts E1 := by repeat (first | exact Sb.nil | (apply Sb.cons; rfl))) : To c Q z E L := .le hE.le k
theorem Qmt {z : Exit} {E' : List (Nat × VP)} {L' : List Ent} (n : Nat) (k : To c Q z E' L') (hL : L.drop n = L' := by rfl) (h : Le E E' := by repeat (first | exact Le.nil | refine Le.same rfl ?_)) : To c Q z E L := .meet n hL h k
theorem Qrd {σ ε γ δ : Type} {E' : σ → γ → List (Nat × VP)} {L' : σ → γ → List Ent} {xs : ε → Exit} {Ex : ε → δ → List (Nat × VP)} {Lx : ε → δ → List Ent} {s : σ} (g : γ) (n : Nat) (hL : L.drop n = L' s g := by rfl)
    (h : Le E (E' s g) := by repeat (first | exact Le.nil | refine Le.same rfl ?_)) : To c (LQG c E' L' xs Ex Lx (.inl s)) .normal E L := .roundG g n hL h
theorem Qlv {σ ε γ δ : Type} {E' : σ → γ → List (Nat × VP)} {L' : σ → γ → List Ent} {xs : ε → Exit} {Ex : ε → δ → List (Nat × VP)} {Lx : ε → δ → List Ent} {e : ε} {z : Exit} (g : δ) (n : Nat) (hx : z = xs e := by rfl) (hn : z ≠ .normal := by simp) (hL : L.drop n = Lx e g := by rfl)
    (h : Le E (Ex e g) := by repeat (first | exact Le.nil | refine Le.same rfl ?_)) : To c (LQG c E' L' xs Ex Lx (.inr e)) z E L := .leaveG g n hx hn hL h
theorem Qrc {t : Nat} {p : Nat} {α : Type} [Rp α] {v : α} (i : Nat) (tt : Ty c.P ty α) (h : look E t = some (.eq (.pointer (some ⟨p, 0, none⟩))) := by rfl) (hL : L[i]? = some ⟨some p, .var v⟩ := by rfl) : RV c E L (.cell t ty) (.of v) := rv_c tt h hL
theorem Qe1 {fn : Func} {t : Nat} {τ : VP} (hr : fn.results = #[.tmp t] := by rfl) (h : look E t = some τ := by rfl) (hds : c.ds = [] := by rfl) : To c (bodyPost c.P fn (Post c τ)) .ret E L := .end1 hr (rv_t h) hds
theorem Qe2 {fn : Func} {t u : Nat} {τ τ2 : VP} (hr : fn.results = #[.tmp t, .tmp u] := by rfl) (h : look E t = some τ := by rfl) (h2 : look E u = some τ2 := by rfl) (hds : c.ds = [] := by rfl) : To c (bodyPost c.P fn (Post c (.tup [τ, τ2]))) .ret E L := .end2 hr (rv_t h) (rv_t h2) hds
theorem Qo1 {fn : Func} {t : Nat} {τ : VP} {δ : Type} {ρ : δ → VP} {Lo : δ → List Ent} (dd : δ) (hs : (Lo dd).Sublist L := by repeat (first | exact List.nil_sublist _ | refine List.Sublist.cons_cons _ ?_)) (hr : fn.results = #[.tmp t] := by rfl) (h : look E t = some τ := by rfl) (hρ : ρ dd = τ := by rfl) (hds : c.ds = [] := by rfl) :
    To c (bodyPost c.P fn (PostO c.X c.A0 c.W0 ρ Lo)) .ret E L := .endO1 dd hs hr hρ (rvo_t h) hds
/-! ### Loops and ways that meet -/

def setN : List Ent → List (Nat × Ent) → List Ent
  | L, [] => L
  | L, (i, e) :: r => setN (L.set i e) r
/-- the same list, spelled out -/
inductive NL : List Ent → List Ent → Prop
  | nil : NL [] []
  | cons {e : Ent} {r s : List Ent} : NL r s → NL (e :: r) (e :: s)
theorem NL.eq : ∀ {l m : List Ent}, NL l m → l = m
  | _, _, .nil => rfl
  | _, _, .cons h => by rw [h.eq]
theorem Qlp {σ ε γ δ : Type} {body : Code} {N : Nat} {b : σ → Option (σ ⊕ ε)} {s0 : σ} {e : ε} {E1 : List (Nat × VP)} {L1 : List Ent} (hl : loopM N b s0 = some e) (ts : List Nat) (u : σ → γ → List (Nat × VP)) (ul : σ → γ → List (Nat × Ent)) (xs : ε → Exit)
    (ux : ε → δ → List (Nat × VP)) (ulx : ε → δ → List (Nat × Ent)) (g0 : γ)
    (hbody : ∀ s r, b s = some r → ∀ g, Wp c (LQG c (fun s g => u s g ++ E1) (fun s g => setN L1 (ul s g)) xs (fun e d => ux e d ++ E1) (fun e d => setN L1 (ulx e d)) r) body (u s g ++ E1) (setN L1 (ul s g)))
    (hafter : ∀ g, To c Q (xs e) (ux e g ++ E1) (setN L1 (ulx e g)))
    (hL1 : NL L L1 := by repeat (first | exact NL.nil | apply NL.cons))
    (hE1 : Sb E ts E1 := by repeat (first | exact Sb.nil | (apply Sb.cons; rfl))) (hE : Le E (u s0 g0 ++ E1) := by repeat (first | exact Le.nil | refine Le.same rfl ?_)) (hL : L1 = setN L1 (ul s0 g0) := by rfl) : Wp c Q (.loop body) E L :=
  Wp.loopG hl (fun s g => u s g ++ E1) (fun s g => setN L1 (ul s g)) xs (fun e d => ux e d ++ E1) (fun e d => setN L1 (ulx e d)) g0 (hL1.eq.trans hL) hE hbody hafter
theorem Qcm {γ : Type} {b : Bool} {y z : Code} {E1 : List (Nat × VP)} {L1 : List Ent} (ts : List Nat) (u : γ → List (Nat × VP)) (ul : γ → List (Nat × Ent)) (hM : ∀ g, To c Q .normal (u g ++ E1) (setN L1 (ul g)))
    (ht : (∀ g, To c Q .normal (u g ++ E1) (setN L1 (ul g))) → b = true → Wp c Q y E L1) (hf : (∀ g, To c Q .normal (u g ++ E1) (setN L1 (ul g))) → b = false → Wp c Q z E L1)
    (hL1 : NL L L1 := by repeat (first | exact NL.nil | apply NL.cons))
    (hE1 : Sb E ts E1 := by repeat (first | exact Sb.nil | (apply Sb.cons; rfl))) (hl : Look c E L1 x (.of b) := by first | exact look_t rfl | exact look_bool _) : Wp c Q (.cond x y z) E L := by
  cases hL1.eq
  exact Wp.condM (fun g => u g ++ E1) (fun g => setN L (ul g)) hl hM ht hf

/-! ### Regions that draw their order -/

section
variable {all : List Hk} {w : Nat → Bool}
theorem Hv {τ : VP} {hyp : List Ent → Prop} (h : ∀ L', hyp L' → HR c E L' o τ) (hg : o.guard = none := by rfl) : ∀ L', hyp L' → HO c ops E L' o τ := fun L' hL => .v (h L' hL) hg
theorem Hm {τ : VP} {hyp : List Ent → Prop} (hx : ∀ L', Look c E L' x τ := by first | exact fun _ => look_t rfl | exact fun _ => look_int _ | exact fun _ => look_bool _ | exact fun _ => look_str _) : ∀ L', hyp L' → HO c ops E L' ⟨some dd, .move x, ty, pos, af, none⟩ τ := fun L' _ => .v (r_move (hx L')) rfl
theorem Ha {τ : VP} {hyp : List Ent → Prop} (hx : ∀ L', Look c E L' x τ := by first | exact fun _ => look_t rfl | exact fun _ => look_int _ | exact fun _ => look_bool _ | exact fun _ => look_str _) : ∀ L', hyp L' → HO c ops E L' ⟨some dd, .assign x, ty, pos, af, none⟩ τ := fun L' _ => .v (r_asg (hx L')) rfl
theorem H1 {σ τ : VP} {hyp : List Ent → Prop} (h : ∀ {L'}, Look c E L' x σ → HR c E L' o τ) (hg : o.guard = none := by rfl) (hx : ∀ L', Look c E L' x σ := by first | exact fun _ => look_t rfl | exact fun _ => look_int _ | exact fun _ => look_bool _ | exact fun _ => look_str _) :
    ∀ L', hyp L' → HO c ops E L' o τ := fun L' _ => .v (h (hx L')) hg
theorem H2 {σ σ2 τ : VP} {hyp : List Ent → Prop} (h : ∀ {L'}, Look c E L' x σ → Look c E L' y σ2 → HR c E L' o τ) (hg : o.guard = none := by rfl) (hx : ∀ L', Look c E L' x σ := by first | exact fun _ => look_t rfl | exact fun _ => look_int _ | exact fun _ => look_bool _ | exact fun _ => look_str _)
    (hy : ∀ L', Look c E L' y σ2 := by first | exact fun _ => look_t rfl | exact fun _ => look_int _ | exact fun _ => look_bool _ | exact fun _ => look_str _) : ∀ L', hyp L' → HO c ops E L' o τ := fun L' _ => .v (h (hx L') (hy L')) hg
theorem Hld {p o : Nat} {β γ : Type} [Rp β] [Rp γ] {b : β} (i : Nat) (l : Lens β γ) (tt : Ty c.P t γ) (hx : ∀ L', Look c E L' x (.eq (.pointer (some ⟨p, o, none⟩))) := by exact fun _ => look_t rfl) (hL : L[i]? = some ⟨some p, .var b⟩ := by rfl) (ho : o = l.off := by rfl)
    (hu : unsto w i 0 all = true := by first | rfl | kernel_rfl) : ∀ L' : List Ent, (∀ (j : Nat) (e : Ent), L[j]? = some e → unsto w j 0 all = true → L'[j]? = some e) → HO c ops E L' ⟨some dd, .load t x, ty, pos, af, none⟩ (.of (l.get b)) :=
  fun L' hL' => .v (r_load l tt (hx L') (hL' _ _ hL hu) ho rfl) rfl
theorem Hl0 {p : Nat} {β : Type} [Rp β] {b : β} (i : Nat) (tt : Ty c.P t β) (hx : ∀ L', Look c E L' x (.eq (.pointer (some ⟨p, 0, none⟩))) := by exact fun _ => look_t rfl) (hL : L[i]? = some ⟨some p, .var b⟩ := by rfl)
    (hu : unsto w i 0 all = true := by first | rfl | kernel_rfl) : ∀ L' : List Ent, (∀ (j : Nat) (e : Ent), L[j]? = some e → unsto w j 0 all = true → L'[j]? = some e) → HO c ops E L' ⟨some dd, .load t x, ty, pos, af, none⟩ (.of b) :=
  fun L' hL' => .v (r_load (Lens.id β) tt (hx L') (hL' _ _ hL hu) rfl rfl) rfl
theorem Hcl {f : FuncId} {xs : List Operand} {ats : Array TypeId} {τs : List VP} {ρ : VP} {hyp : List Ent → Prop} (en : En c.P f) (h : Meets c.P f τs ρ)
    (hx : ∀ L', Looks c E L' xs τs := by intro L'; repeat (first | exact trivial | refine ⟨look_t rfl, ?_⟩ | refine ⟨look_int _, ?_⟩ | refine ⟨look_bool _, ?_⟩ | refine ⟨look_nil, ?_⟩ | refine ⟨look_str _, ?_⟩)) :
    ∀ L', hyp L' → HO c ops E L' ⟨some dd, .call ⟨.value (.func f), xs.toArray, ats⟩, ty, pos, af, none⟩ ρ := fun L' _ => .v (r_call en h (hx L')) rfl
theorem Hix {α : Type} [Rp α] [Inhabited α] {xs : List α} {e : TypeId} {i : Int} {j : Nat} {hyp : List Ent → Prop} (hk : idx xs.length i = some j) (hu : c.P.underlying t = some (.slice e)) (te : Ty c.P e α)
    (hx : ∀ L', Look c E L' x (.of xs) := by exact fun _ => look_t rfl) (hy : ∀ L', Look c E L' y (.of i) := by first | exact fun _ => look_t rfl | exact fun _ => look_int _) :
    ∀ L', hyp L' → HO c ops E L' ⟨some dd, .indexAddr t x y, ty, pos, af, none⟩ (.ptr (lget xs j)) := fun L' _ => .v (r_ias hu te (hx L') (hy L') (idx_some hk)) rfl
theorem Hfp {s f o : Nat} {β γ : Type} [Rp β] [Rp γ] {b : β} {hyp : List Ent → Prop} (l : Lens β γ) (fd : FdA c.P s f o) (hx : ∀ L', Look c E L' x (.ptr b) := by exact fun _ => look_t rfl) (ho : l.off = o := by rfl) :
    ∀ L', hyp L' → HO c ops E L' ⟨some dd, .fieldAddr s x f, ty, pos, af, none⟩ (.ptr (l.get b)) := fun L' _ => .v (r_fap l fd (hx L') ho rfl) rfl
theorem Hn {α : Type} [Rp α] {a b : α} {hyp : List Ent → Prop} (e : some a = some b) (h : ∀ L', hyp L' → HR c E L' o (.of a)) (hg : o.guard = none := by rfl) : ∀ L', hyp L' → HO c ops E L' o (.of b) := fun L' hL => .v ((h L' hL).as (some_in e)) hg
theorem Hxt {i : Nat} {τs : List VP} {τ : VP} {hyp : List Ent → Prop} (hx : ∀ L', Look c E L' x (.tup τs) := by exact fun _ => look_t rfl) (hi : τs[i]? = some τ := by rfl) : ∀ L', hyp L' → HO c ops E L' ⟨some dd, .extract x i, ty, pos, af, none⟩ τ := fun L' _ => .v (r_ext (hx L') hi) rfl
theorem Hg {τ : VP} {j g : Nat} {b want : Bool} {hyp : List Ent → Prop} (h : ∀ L', hyp L' → b = want → HR c E L' o τ) (hg : o.guard = some (j, want) := by rfl) (hj : (ops[j]?).bind (·.dst) = some g := by rfl) (hl : look E g = some (.of b) := by rfl) :
    ∀ L', hyp L' → HO c ops E L' o (.cond (b = want) τ) := fun L' hL => .g (h L' hL) hg hj hl
end

/-- an operation that only yields a value -/
def Hp (s : Nat) (up rd : List Nat) (τ : VP) : Hd := ⟨some s, up, rd, [], fun _ => τ, fun _ _ => ⟨none, .dead⟩⟩
section
variable {hs : List Hd} {i : Nat} {up rd : List Nat}
theorem Dm {τ : VP} (hx : ∀ (hd : Nat → Hid) (E' : List (Nat × VP)) (L' : List Ent), (∀ t τ, look (heD hd hs E up) t = some τ → look E' t = some τ) → Look c E' L' x τ := by first | exact fun _ _ _ hE => look_t (hE _ _ rfl) | exact fun _ _ _ _ => look_int _ | exact fun _ _ _ _ => look_bool _ | exact fun _ _ _ _ => look_str _)
    (hn : Nat.blt dd c.n = true := by rfl) : HeadD c ops Q hs E L i ⟨some dd, .move x, ty, pos, af, none⟩ (Hp dd up rd τ) := hd_v rfl rfl hn fun hd E' L' hE _ => r_move (hx hd E' L' hE)
theorem D1 {σ τ : VP} (h : ∀ {E' L'}, Look c E' L' x σ → HR c E' L' o τ) (hg : o.guard = none := by rfl) (hd : o.dst = some dd := by rfl)
    (hx : ∀ (hd : Nat → Hid) (E' : List (Nat × VP)) (L' : List Ent), (∀ t τ, look (heD hd hs E up) t = some τ → look E' t = some τ) → Look c E' L' x σ := by first | exact fun _ _ _ hE => look_t (hE _ _ rfl) | exact fun _ _ _ _ => look_int _ | exact fun _ _ _ _ => look_bool _ | exact fun _ _ _ _ => look_str _)
    (hn : Nat.blt dd c.n = true := by rfl) : HeadD c ops Q hs E L i o (Hp dd up rd τ) := hd_v hg hd hn fun hd E' L' hE _ => h (hx hd E' L' hE)
theorem D2 {σ σ2 τ : VP} (h : ∀ {E' L'}, Look c E' L' x σ → Look c E' L' y σ2 → HR c E' L' o τ) (hg : o.guard = none := by rfl) (hd : o.dst = some dd := by rfl)
    (hx : ∀ (hd : Nat → Hid) (E' : List (Nat × VP)) (L' : List Ent), (∀ t τ, look (heD hd hs E up) t = some τ → look E' t = some τ) → Look c E' L' x σ := by first | exact fun _ _ _ hE => look_t (hE _ _ rfl) | exact fun _ _ _ _ => look_int _ | exact fun _ _ _ _ => look_bool _ | exact fun _ _ _ _ => look_str _)
    (hy : ∀ (hd : Nat → Hid) (E' : List (Nat × VP)) (L' : List Ent), (∀ t τ, look (heD hd hs E up) t = some τ → look E' t = some τ) → Look c E' L' y σ2 := by first | exact fun _ _ _ hE => look_t (hE _ _ rfl) | exact fun _ _ _ _ => look_int _ | exact fun _ _ _ _ => look_bool _ | exact fun _ _ _ _ => look_str _)
    (hn : Nat.blt dd c.n = true := by rfl) : HeadD c ops Q hs E L i o (Hp dd up rd τ) := hd_v hg hd hn fun hd E' L' hE _ => h (hx hd E' L' hE) (hy hd E' L' hE)
theorem Dld {p o : Nat} {β γ : Type} [Rp β] [Rp γ] {b : β} (k : Nat) (l : Lens β γ) (tt : Ty c.P t γ)
    (hx : ∀ (hd : Nat → Hid) (E' : List (Nat × VP)) (L' : List Ent), (∀ t τ, look (heD hd hs E up) t = some τ → look E' t = some τ) → Look c E' L' x (.eq (.pointer (some ⟨p, o, none⟩))) := by exact fun _ _ _ hE => look_t (hE _ _ rfl))
    (hL : ∀ hd : Nat → Hid, (Lf (fun _ => true) hd 0 (hs.take i) L)[k]? = some ⟨some p, .var b⟩ := by exact fun _ => rfl) (hr : rd.contains k = true := by rfl) (ho : o = l.off := by rfl)
    (hn : Nat.blt dd c.n = true := by rfl) : HeadD c ops Q hs E L i ⟨some dd, .load t x, ty, pos, af, none⟩ (Hp dd up rd (.of (l.get b))) := hd_v rfl rfl hn fun hd E' L' hE hL' => r_load l tt (hx hd E' L' hE) (hL' _ _ (hL hd) hr) ho rfl
theorem Dl0 {p : Nat} {β : Type} [Rp β] {b : β} (k : Nat) (tt : Ty c.P t β)
    (hx : ∀ (hd : Nat → Hid) (E' : List (Nat × VP)) (L' : List Ent), (∀ t τ, look (heD hd hs E up) t = some τ → look E' t = some τ) → Look c E' L' x (.eq (.pointer (some ⟨p, 0, none⟩))) := by exact fun _ _ _ hE => look_t (hE _ _ rfl))
    (hL : ∀ hd : Nat → Hid, (Lf (fun _ => true) hd 0 (hs.take i) L)[k]? = some ⟨some p, .var b⟩ := by exact fun _ => rfl) (hr : rd.contains k = true := by rfl)
    (hn : Nat.blt dd c.n = true := by rfl) : HeadD c ops Q hs E L i ⟨some dd, .load t x, ty, pos, af, none⟩ (Hp dd up rd (.of b)) := hd_v rfl rfl hn fun hd E' L' hE hL' => r_load (Lens.id β) tt (hx hd E' L' hE) (hL' _ _ (hL hd) hr) rfl rfl
theorem Dv {τ : VP} (h : ∀ (hd : Nat → Hid) (E' : List (Nat × VP)) (L' : List Ent), (∀ t τ, look (heD hd hs E up) t = some τ → look E' t = some τ) → (∀ j e, (Lf (fun _ => true) hd 0 (hs.take i) L)[j]? = some e → rd.contains j = true → L'[j]? = some e) → HR c E' L' o τ)
    (hg : o.guard = none := by rfl) (hd : o.dst = some dd := by rfl) (hn : Nat.blt dd c.n = true := by rfl) : HeadD c ops Q hs E L i o (Hp dd up rd τ) := hd_v hg hd hn h
end
end
end Gv

namespace Gv
open Go
set_option linter.unusedVariables false
set_option linter.unusedSimpArgs false

theorem wpIn_room {F : Fence} {n n' : Nat} {P : Program} {code : Code} {Q : Exit → Act → World → Prop} {a : Act} {W : World} (hd : F.depth = none) (h : code.wpIn F n P Q a W) : code.wpIn F n' P Q a W :=
  fun b k cs hro hb _ => h b k cs hro hb (fun d hd' => by rw [hd] at hd'; cases hd')

/-- the very object -/
def CP.is (o : Obj) : CP where
  holds _ _ x := x = o
  nilOk := False
  mono _ h := h
abbrev CP.dfr : CP := .is (.deferred (some []))

/-- a function's value with what it has captured -/
def VP.clo (f : FuncId) (τs : List VP) : VP where
  holds A W v := ∃ lb : List Value, v = .func (.func f) #[] lb.toArray ∧ HoldsAll A W τs lb
  mono e h := let ⟨lb, h1, h2⟩ := h; ⟨lb, h1, h2.mono e⟩

/-- an own block that is no cells is turned -/
theorem St.turn {c E L a W} (h : St c E L a W) {i p : Nat} {cp cp' : CP} (hi : L[i]? = some ⟨some p, cp⟩) {o' : Obj} (hc : cp'.holds (ks L ++ c.A0) W o') :
    St c E (L.set i ⟨some p, cp'⟩) a (W.putObj p o') := by
  have hks : ks (L.set i ⟨some p, cp'⟩) = ks L := ks_set (cp := cp') hi
  have hp : p ∈ ks L := mem_ks.2 ⟨_, List.mem_of_getElem? hi, rfl⟩
  have hext : Ext (ks L ++ c.A0) W (ks L ++ c.A0) (W.putObj p o') :=
    ⟨by simp, fun k _ ha => World.putObj_heap_other (fun e => ha (e ▸ List.mem_append.2 (.inl hp))), fun _ h _ => h⟩
  exact
  { defers := h.defers
    size := h.size
    env := fun t τ hl => by rw [hks]; exact let ⟨v, h1, h2⟩ := h.env t τ hl; ⟨v, h1, τ.mono hext h2⟩
    fr := ⟨h.fr.os, h.fr.tape, h.fr.output, by simpa using h.fr.size, fun k hk hx => by
      rw [World.putObj_heap_other (fun e : k = p => hx (by subst e; exact h.mine _ hp hk))]
      exact h.fr.block k hk hx⟩
    own := fun e he => by
      rw [hks]
      obtain ⟨j, hj⟩ := List.mem_iff_getElem?.1 he
      rw [List.getElem?_set] at hj
      split at hj
      · rename_i hij
        subst hij
        split at hj
        · simp only [Option.some.injEq] at hj
          subst hj
          exact ⟨_, World.putObj_heap_same (h.lt p hp), cp'.mono hext hc⟩
        · cases hj
      · rename_i hij
        have h1 := h.own e (List.mem_of_getElem? hj)
        unfold Ent.ok at *
        split at h1
        · rename_i q hq
          obtain ⟨o', ho', hh⟩ := h1
          have hne : q ≠ p := fun e' => hij (ks_inj h.nodup hi hj rfl (e' ▸ hq))
          exact ⟨o', by rw [World.putObj_heap_other hne]; exact ho', CP.mono _ hext hh⟩
        · exact h1
    nodup := by rw [hks]; exact h.nodup
    lt := by rw [hks]; simpa using h.lt
    mine := by rw [hks]; exact h.mine
    old := by rw [hks]; simpa using h.old }

theorem r_mkI {c : Cx} {E : List (Nat × VP)} {L : List Ent} {d : Option Tmp} {ty : TypeId} {pos : String} {af : Array Edge} {g : Option (Nat × Bool)} {f : FuncId} {xs : List Operand} {τs : List VP} (hx : Looks c E L xs τs) :
    HR c E L ⟨d, .makeFunc (.func f) #[] xs.toArray, ty, pos, af, g⟩ (.clo f τs) := .pure fun a W s =>
  ⟨.func (.func f) #[] (xs.map a.eval).toArray, by simp [execOp, Instr.makeFunc], _, rfl, hx.holds a W s⟩

/-- what a callee may do with entries of the caller's -/
structure Lent (A : List Nat) (W : World) (L : List Ent) : Prop where
  old : ∀ k ∈ A, k < W.heap.size ∧ k ∉ ks L
  nodup : (ks L).Nodup
  lt : ∀ k ∈ ks L, k < W.heap.size
  ok : ∀ e ∈ L, e.ok (ks L ++ A) W

/-- the value u is a yield: called with x it turns s to s' and says 'go on', or leaves with q and says 'no more' -/
def Yld (P : Program) (u : Value) {α σ ε γ : Type} (τ : α → VP) (Ls : σ → γ → List Ent) (Lx : ε → γ → List Ent) (step : α → σ → Option (σ ⊕ ε)) (R : List Nat → World → Prop) : Prop :=
  ∃ l, u = .func (.yield l) #[] #[] ∧ ∀ x s r, step x s = some r → ∀ g A W v, R (ks (Ls s g) ++ A) W → Lent A W (Ls s g) → (τ x).holds (ks (Ls s g) ++ A) W v →
    YieldAt Fence.wide 8 P l #[v] W (match r with
      | .inl s' => PostO (ks (Ls s g)) A W (fun _ : γ => VP.of true) (fun g => Ls s' g)
      | .inr q => PostO (ks (Ls s g)) A W (fun _ : γ => VP.of false) (fun g => Lx q g))

/-- the caller's entries behind a loop -/
def Lr {σ ε γ : Type} (Ls : σ → γ → List Ent) (Lx : ε → γ → List Ent) : σ ⊕ ε → γ → List Ent
  | .inl s, g => Ls s g
  | .inr q, g => Lx q g

/-- the function f is an iterator: called with a yield it does what 'run' says, the entries Lin being lent to it -/
structure MeetsI (P : Program) (f : FuncId) (τs : List VP) (Lin : List Ent) {α : Type} (τ : α → VP) (run : ∀ {σ ε : Type}, (α → σ → Option (σ ⊕ ε)) → σ → Option (σ ⊕ ε)) : Prop where
  go : ∀ {σ ε γ : Type} (Ls : σ → γ → List Ent) (Lx : ε → γ → List Ent) (step : α → σ → Option (σ ⊕ ε)) (s0 : σ) (g0 : γ) (r : σ ⊕ ε), run step s0 = some r →
    ∀ (A : List Nat) (W : World) (u : Value) (vs : List Value), Lent A W (Lin ++ Ls s0 g0) → HoldsAll (ks (Lin ++ Ls s0 g0) ++ A) W τs vs →
      Yld P u τ Ls Lx step (fun A' W' => Ext (ks (Lin ++ Ls s0 g0) ++ A) W A' W') →
      Calls P f (u :: vs).toArray W (PostO (ks (Lin ++ Ls s0 g0)) A W (fun _ : γ => .tup []) (fun g => Lin ++ Lr Ls Lx r g))

theorem MeetsI.of {P : Program} {f : FuncId} {fn : Func} {code : Code} {n : Nat} {τs : List VP} {Lin : List Ent} {α : Type} {τ : α → VP} {run : ∀ {σ ε : Type}, (α → σ → Option (σ ⊕ ε)) → σ → Option (σ ⊕ ε)}
    (hf : P.funcs[f]? = some fn) (hb : fn.body = some code) (hn : fn.ntmps = n) (hlen : Nat.ble (τs.length + 1) n = true)
    (h : ∀ {σ ε γ : Type} (Ls : σ → γ → List Ent) (Lx : ε → γ → List Ent) (step : α → σ → Option (σ ⊕ ε)) (s0 : σ) (g0 : γ) (r : σ ⊕ ε), run step s0 = some r →
      ∀ W A u, Yld P u τ Ls Lx step (fun A' W' => Ext (ks (Lin ++ Ls s0 g0) ++ A) W A' W') →
        Wp ⟨P, n, W, ks (Lin ++ Ls s0 g0), A, none, []⟩ (bodyPost P fn (PostO (ks (Lin ++ Ls s0 g0)) A W (fun _ : γ => .tup []) (fun g => Lin ++ Lr Ls Lx r g))) code (params 0 (.eq u :: τs)) (Lin ++ Ls s0 g0)) : MeetsI P f τs Lin τ run := by
  refine ⟨?_⟩
  intro σ ε γ Ls Lx step s0 g0 r hr A W u vs hl hv hy
  refine calls_of_wp hf hb (wpIn_wide.1 (h Ls Lx step s0 g0 r hr W A u hy _ _ ?_))
  have hv' : HoldsAll (ks (Lin ++ Ls s0 g0) ++ A) W (.eq u :: τs) (u :: vs) := .cons rfl hv
  have hl' := hv'.length
  have hle : τs.length + 1 ≤ n := Nat.le_of_ble_eq_true hlen
  exact
  { defers := rfl
    size := by simp at hl'; simp [hn, hl']; omega
    env := fun t τ hlk => by
      obtain ⟨_, v, h2, h3⟩ := look_params hv' 0 t τ hlk
      refine ⟨v, ?_, h3⟩
      have hlt : t < (u :: vs).length := (List.getElem?_eq_some_iff.1 h2).1
      rw [Array.getElem?_append_left (by simpa using hlt)]
      simpa using h2
    fr := .refl _ _
    own := hl.ok
    nodup := hl.nodup
    lt := hl.lt
    mine := fun k hk _ => hk
    old := hl.old }

section
variable {c : Cx} {E : List (Nat × VP)} {L : List Ent} {ops : Array Oper} {Q : Exit → Act → World → Prop}
variable {d : Option Tmp} {ty : TypeId} {pos : String} {af : Array Edge} {g : Option (Nat × Bool)} {x y : Operand} {t t2 : TypeId}

theorem St.sofar {a : Act} {W : World} (s : St c E L a W) : Ext (c.X ++ c.A0) c.W0 (ks L ++ c.A0) W :=
  ⟨s.fr.size, fun k hk ha => s.fr.block k hk fun hx => ha (List.mem_append.2 (.inl hx)), fun k hm hlt => by
    rcases List.mem_append.1 hm with hm | hm
    · exact List.mem_append.2 (.inl (s.mine k hm hlt))
    · exact List.mem_append.2 (.inr hm)⟩

theorem St.lent {a : Act} {W : World} {Lin Lr : List Ent} (s : St c E (Lin ++ Lr) a W) : Lent (ks Lr ++ c.A0) W Lin := by
  have hnd0 := s.nodup
  rw [ks_append] at hnd0
  obtain ⟨hn1, hn2, hn3⟩ := List.nodup_append.1 hnd0
  exact
  { old := fun k hm => by
      rcases List.mem_append.1 hm with hm | hm
      · exact ⟨s.lt k (by rw [ks_append]; exact List.mem_append.2 (.inr hm)), fun h => hn3 k h k hm rfl⟩
      · obtain ⟨h1, h2⟩ := s.old k hm
        exact ⟨h1, fun h => h2 (by rw [ks_append]; exact List.mem_append.2 (.inl h))⟩
    nodup := hn1
    lt := fun k hm => s.lt k (by rw [ks_append]; exact List.mem_append.2 (.inl hm))
    ok := fun e he => Ent.ok_mono (s.own e (List.mem_append.2 (.inl he))) (.drop fun k hm => by
      rw [ks_append]
      simp only [List.mem_append] at hm ⊢
      rcases hm with hm | hm | hm
      · exact .inl (.inl hm)
      · exact .inl (.inr hm)
      · exact .inr hm) fun _ _ => rfl }

theorem ks_swap {Lin Lr : List Ent} {A : List Nat} {W : World} : Ext (ks (Lin ++ Lr) ++ A) W (ks Lin ++ (ks Lr ++ A)) W := .drop fun k hm => by
  rw [ks_append]
  simp only [List.mem_append] at hm ⊢
  rcases hm with hm | hm | hm
  · exact .inl (.inl hm)
  · exact .inl (.inr hm)
  · exact .inr hm
theorem ks_swap' {Lin Lr : List Ent} {A : List Nat} {W : World} : Ext (ks Lin ++ (ks Lr ++ A)) W (ks (Lin ++ Lr) ++ A) W := .drop fun k hm => by
  rw [ks_append] at hm
  simp only [List.mem_append] at hm ⊢
  rcases hm with (hm | hm) | hm
  · exact .inl hm
  · exact .inr (.inl hm)
  · exact .inr (.inr hm)

/-- a round is asked for: yield is called -/
theorem Sq.yield {rest : List Oper} {dd tf : Nat} {ats : Array TypeId} {u : Value} {α σ ε γ : Type} {τ : α → VP} {Ls : σ → γ → List Ent} {Lx : ε → γ → List Ent} {step : α → σ → Option (σ ⊕ ε)} {Lin : List Ent} {x : Operand} {v : α} {s : σ} {gg : γ} {r : σ ⊕ ε}
    (hc : c.rd = none) (hy : Yld c.P u τ Ls Lx step (fun A' W' => Ext (c.X ++ c.A0) c.W0 A' W')) (hf : look E tf = some (.eq u)) (hx : Look c E (Lin ++ Ls s gg) x (τ v)) (hr : step v s = some r) (hn : Nat.blt dd c.n = true)
    (k1 : ∀ s', r = .inl s' → ∀ g', Sq c ops Q rest ((dd, .of true) :: E) (Lin ++ Ls s' g')) (k2 : ∀ q, r = .inr q → ∀ g', Sq c ops Q rest ((dd, .of false) :: E) (Lin ++ Lx q g')) :
    Sq c ops Q (⟨some dd, .call ⟨.value (.tmp tf), #[x], ats⟩, ty, pos, af, none⟩ :: rest) E (Lin ++ Ls s gg) := fun a W st => by
  obtain ⟨l, rfl, hy⟩ := hy
  obtain ⟨uf, h1, h2⟩ := st.env tf _ hf
  have hu : uf = .func (.yield l) #[] #[] := h2
  subst hu
  have st' : St c E (Ls s gg ++ Lin) a W := st.perm List.perm_append_comm
  have hv := hx a W st
  have hv' : (τ v).holds (ks (Ls s gg) ++ (ks Lin ++ c.A0)) W (a.eval x) := (τ v).mono (.drop fun k hm => by
    rw [ks_append]
    simp only [List.mem_append] at hm ⊢
    rcases hm with hm | hm | hm
    · exact .inl (.inr hm)
    · exact .inl (.inl hm)
    · exact .inr hm) hv
  obtain ⟨fn, tmps, assign, body, hrun, hR⟩ := hy v s r hr gg (ks Lin ++ c.A0) W (a.eval x) (st'.sofar.trans ks_swap) st'.lent hv'
  have hrun' : (execOp a.eval ⟨some dd, .call ⟨.value (.tmp tf), #[x], ats⟩, ty, pos, af, none⟩).run c.P W = .ok (.round l fn tmps assign body) W := by
    rw [← hrun]
    simp [execOp, resolve, Deferred.ofValue, Act.eval, h1, invoke, Sem.run_bind, Sem.run_pure, Result.andThen]
  refine wpListIn_plain rfl fun K hK => ?_
  refine ⟨fun _ _ => trivial, ?_⟩
  rw [Oper.semAt_eq _ _ _ (fun _ h => by cases h), hrun', Oper.uponIn_round]
  refine ⟨fun h => by simp at h, ?_⟩
  have hR' : RoundIn c.F (9 - 1) c.P l fn tmps assign body W _ := hR
  refine hR'.mono fun e W' he => ?_
  cases r with
  | inl s' =>
    obtain ⟨w, g', rfl, hf', h3, h4, h5, h6⟩ := he
    obtain rfl := of_bool.1 h6
    refine hK _ _ (k1 s' rfl g' _ _ ?_)
    exact (((st'.after hf' h3 h4 h5).perm List.perm_append_comm).put (by simpa using hn) (of_bool.2 rfl))
  | inr q =>
    obtain ⟨w, g', rfl, hf', h3, h4, h5, h6⟩ := he
    obtain rfl := of_bool.1 h6
    refine hK _ _ (k2 q rfl g' _ _ ?_)
    exact (((st'.after hf' h3 h4 h5).perm List.perm_append_comm).put (by simpa using hn) (of_bool.2 rfl))

/-- the same under a guard that holds -/
theorem Sq.yieldT {rest : List Oper} {dd tf j gt : Nat} {b : Bool} {ats : Array TypeId} {u : Value} {α σ ε γ : Type} {τ : α → VP} {Ls : σ → γ → List Ent} {Lx : ε → γ → List Ent} {step : α → σ → Option (σ ⊕ ε)} {Lin : List Ent} {x : Operand} {v : α} {s : σ} {gg : γ} {r : σ ⊕ ε}
    (hc : c.rd = none) (hy : Yld c.P u τ Ls Lx step (fun A' W' => Ext (c.X ++ c.A0) c.W0 A' W')) (hb : b = true) (hj : (ops[j]?).bind (·.dst) = some gt) (hl : look E gt = some (.of b)) (hf : look E tf = some (.cond (b = true) (.eq u))) (hx : Look c E (Lin ++ Ls s gg) x (τ v)) (hr : step v s = some r) (hn : Nat.blt dd c.n = true)
    (k1 : ∀ s', r = .inl s' → ∀ g', Sq c ops Q rest ((dd, .cond (b = true) (.of true)) :: E) (Lin ++ Ls s' g')) (k2 : ∀ q, r = .inr q → ∀ g', Sq c ops Q rest ((dd, .cond (b = true) (.of false)) :: E) (Lin ++ Lx q g')) :
    Sq c ops Q (⟨some dd, .call ⟨.value (.tmp tf), #[x], ats⟩, ty, pos, af, some (j, true)⟩ :: rest) E (Lin ++ Ls s gg) := fun a W st => by
  have hE : look ((tf, .eq u) :: E) tf = some (.eq u) := by simp [look, Nat.beq_refl]
  have st0 : St c ((tf, .eq u) :: E) (Lin ++ Ls s gg) a W := st.less fun t τ' h => by
    simp only [look] at h
    by_cases e : Nat.beq tf t = true
    · rw [e] at h
      simp only [cond_true, Option.some.injEq] at h
      subst h
      rw [← look_beq.1 e]
      exact ⟨_, hf, fun A W v hv => hv.1 hb⟩
    · simp only [Bool.not_eq_true] at e
      rw [e] at h
      exact ⟨_, h, fun _ _ _ h => h⟩
  have key := Sq.yield (c := c) (ops := ops) (Q := Q) (E := (tf, .eq u) :: E) (rest := rest) (ty := ty) (pos := pos) (af := af) (ats := ats) hc hy hE (fun a W s => hx a W (s.less fun t τ' h => by
    by_cases e : Nat.beq tf t = true
    · have := look_beq.1 e
      subst this
      rw [hf] at h
      cases h
      refine ⟨_, hE, fun A W v hv => ⟨fun _ => hv, fun h => absurd hb h⟩⟩
    · simp only [Bool.not_eq_true] at e
      exact ⟨τ', by simp only [look]; rw [e]; exact h, fun _ _ _ h => h⟩)) hr hn
    (fun s' e g' a W st => k1 s' e g' a W (st.less fun t τ' h => by
      simp only [look] at h ⊢
      by_cases e : Nat.beq dd t = true
      · rw [e] at h ⊢
        simp only [cond_true, Option.some.injEq] at h ⊢
        exact ⟨_, rfl, fun A W v hv => by subst h; exact ⟨fun _ => hv, fun h => absurd hb h⟩⟩
      · simp only [Bool.not_eq_true] at e
        rw [e] at h ⊢
        simp only [cond_false] at h ⊢
        by_cases e2 : Nat.beq tf t = true
        · have := look_beq.1 e2
          subst this
          rw [hf] at h
          cases h
          rw [e2]
          exact ⟨_, rfl, fun A W v hv => ⟨fun _ => hv, fun h => absurd hb h⟩⟩
        · simp only [Bool.not_eq_true] at e2
          rw [e2]
          exact ⟨τ', h, fun _ _ _ h => h⟩))
    (fun s' e g' a W st => k2 s' e g' a W (st.less fun t τ' h => by
      simp only [look] at h ⊢
      by_cases e : Nat.beq dd t = true
      · rw [e] at h ⊢
        simp only [cond_true, Option.some.injEq] at h ⊢
        exact ⟨_, rfl, fun A W v hv => by subst h; exact ⟨fun _ => hv, fun h => absurd hb h⟩⟩
      · simp only [Bool.not_eq_true] at e
        rw [e] at h ⊢
        simp only [cond_false] at h ⊢
        by_cases e2 : Nat.beq tf t = true
        · have := look_beq.1 e2
          subst this
          rw [hf] at h
          cases h
          rw [e2]
          exact ⟨_, rfl, fun A W v hv => ⟨fun _ => hv, fun h => absurd hb h⟩⟩
        · simp only [Bool.not_eq_true] at e2
          rw [e2]
          exact ⟨τ', h, fun _ _ _ h => h⟩))
  have := key a W st0
  unfold Cx.wpl wpListIn at this ⊢
  rw [if_pos (by simp [Region.wanted])] at this
  rw [if_pos (by simp [Region.wanted, yielded_of hj hl st, hb])]
  exact this

theorem Sq.eqL {l : List Oper} {L2 : List Ent} (h : L = L2) (k : Sq c ops Q l E L2) : Sq c ops Q l E L := by subst h; exact k

theorem Sq.cases {l : List Oper} (b : Bool) (h1 : b = true → Sq c ops Q l E L) (h2 : b = false → Sq c ops Q l E L) : Sq c ops Q l E L := by
  cases b
  · exact h2 rfl
  · exact h1 rfl
/-- a guard that does not hold -/
theorem Sq.skipG {o : Oper} {rest : List Oper} {dd j gt : Nat} {b : Bool} (τ : VP) (hb : b = false) (hg : o.guard = some (j, true)) (hd : o.dst = some dd) (hj : (ops[j]?).bind (·.dst) = some gt) (hl : look E gt = some (.of b)) (hn : Nat.blt dd c.n = true)
    (k : Sq c ops Q rest ((dd, .cond (b = true) τ) :: E) L) : Sq c ops Q (o :: rest) E L := fun a W s => by
  unfold Cx.wpl wpListIn
  rw [if_neg (by simp [Region.wanted, hg, yielded_of hj hl s, hb]), hd]
  exact ⟨fun _ _ => trivial, k _ _ (s.put (by simpa using hn) ⟨fun h => (by rw [hb] at h; cases h), fun _ => rfl⟩)⟩

theorem Wp.condT {x : Operand} {b : Bool} {y z : Code} (hl : Look c E L x (.of b)) (hb : b = true) (k : Wp c Q y E L) : Wp c Q (.cond x y z) E L := .cond hl (fun _ => k) fun h => by rw [hb] at h; cases h
theorem Wp.condF {x : Operand} {b : Bool} {y z : Code} (hl : Look c E L x (.of b)) (hb : b = false) (k : Wp c Q z E L) : Wp c Q (.cond x y z) E L := .cond hl (fun h => by rw [hb] at h; cases h) fun _ => k

/-! ### The loop over an iterator -/

def exitOf : Code → Exit
  | .ret => .ret
  | .exit id => .exit id
  | .goto t => .goto t
  | _ => .normal
def isJump : Code → Bool
  | .ret | .exit _ | .goto _ => true
  | _ => false

/-- how a round ends; l: the loop's record, D: the block for deferred calls -/
def RQ {σ ε γ : Type} (c : Cx) (js : ε → Code) (l D : Nat) (rec : Loop) (Ls : σ → γ → List Ent) (Lx : ε → γ → List Ent) : σ ⊕ ε → Exit → Act → World → Prop
  | .inl s', x, a, W => x = .normal ∧ ∃ g, St c [] (⟨some l, .is (.loop rec)⟩ :: ⟨some D, .dfr⟩ :: Ls s' g) a W
  | .inr q, x, a, W => isJump (js q) = true ∧ x = exitOf (js q) ∧ ∃ g, St c [] (⟨some l, .is (.loop rec)⟩ :: ⟨some D, .dfr⟩ :: Lx q g) a W

/-- behind the assignment to the loop's variable the round begins -/
def BR (c : Cx) (l : Nat) (body : Code) (Q : Exit → Act → World → Prop) (a : Act) (W : World) : Prop :=
  ∃ W2, (Instr.beginRound l).run c.P W = .ok () W2 ∧ c.wp body Q a W2

theorem To.begin {l : Nat} {body : Code} {Q' : Exit → Act → World → Prop} (i : Nat) {r : Loop} (hL : L[i]? = some ⟨some l, .is (.loop r)⟩) (hr : r.state = .ready)
    (k : Wp c Q body E (L.set i ⟨some l, .is (.loop { r with state := .busy })⟩)) : To c (Exit.then (BR c l body Q) Q') .normal E L := fun a W s => by
  obtain ⟨o, h1, h2⟩ := s.own _ (List.mem_of_getElem? hL)
  have h2' : o = .loop r := h2
  subst h2'
  exact ⟨_, run_beginRound h1 hr, k _ _ (s.turn hL rfl)⟩

theorem To.rnd {σ ε γ : Type} {js : ε → Code} {l D : Nat} {rec : Loop} {Ls : σ → γ → List Ent} {Lx : ε → γ → List Ent} {s' : σ} (g : γ) (n : Nat) (hL : L.drop n = ⟨some l, .is (.loop rec)⟩ :: ⟨some D, .dfr⟩ :: Ls s' g) :
    To c (RQ c js l D rec Ls Lx (.inl s')) .normal E L := fun a W s => ⟨rfl, g, by rw [← hL]; exact (s.dropL n).less (fun t τ h => by simp [look] at h)⟩
theorem To.rleave {σ ε γ : Type} {js : ε → Code} {l D : Nat} {rec : Loop} {Ls : σ → γ → List Ent} {Lx : ε → γ → List Ent} {q : ε} {x : Exit} (g : γ) (n : Nat) (hj : isJump (js q) = true) (hx : x = exitOf (js q)) (hL : L.drop n = ⟨some l, .is (.loop rec)⟩ :: ⟨some D, .dfr⟩ :: Lx q g) :
    To c (RQ c js l D rec Ls Lx (.inr q)) x E L := fun a W s => ⟨hj, hx, g, by rw [← hL]; exact (s.dropL n).less (fun t τ h => by simp [look] at h)⟩

theorem Wp.jump {j : Code} (hj : isJump j = true) (k : To c Q (exitOf j) E L) : Wp c Q j E L := by
  cases j <;> simp only [isJump] at hj <;> first | cases hj | skip
  all_goals first | exact .exit k | exact .ret k | exact fun a W s => wpIn_goto (k a W s)

theorem roundPost_jump {P : Program} {l : Nat} {R : Ending → World → Prop} {j : Code} {a : Act} {W W' : World} {v : Value} (hj : isJump j = true) (h6 : (Instr.endRound l (some j)).run P W = .ok v W') (hR : R (.returned v) W') :
    roundPost P l R (exitOf j) a W := by
  cases j <;> simp only [isJump] at hj <;> first | exact ⟨_, _, h6, hR⟩ | cases hj

theorem St.mark {a : Act} {W : World} (s : St c E L a W) (D : Nat) : St { c with ds := D :: c.ds } E L { a with defers := coll D :: a.defers } W :=
  { defers := by simp [s.defers], size := s.size, env := s.env, fr := s.fr, own := s.own, nodup := s.nodup, lt := s.lt, mine := s.mine, old := s.old }

/-- what an iterator does, for these entries of the caller's -/
def GoI (P : Program) (f : FuncId) (τs : List VP) (Lin : List Ent) {α σ ε γ : Type} (τ : α → VP) (run : (α → σ → Option (σ ⊕ ε)) → σ → Option (σ ⊕ ε)) (Ls : σ → γ → List Ent) (Lx : ε → γ → List Ent) : Prop :=
  ∀ (step : α → σ → Option (σ ⊕ ε)) (s0 : σ) (g0 : γ) (r : σ ⊕ ε), run step s0 = some r →
    ∀ (A : List Nat) (W : World) (u : Value) (vs : List Value), Lent A W (Lin ++ Ls s0 g0) → HoldsAll (ks (Lin ++ Ls s0 g0) ++ A) W τs vs →
      Yld P u τ Ls Lx step (fun A' W' => Ext (ks (Lin ++ Ls s0 g0) ++ A) W A' W') →
      Calls P f (u :: vs).toArray W (PostO (ks (Lin ++ Ls s0 g0)) A W (fun _ : γ => .tup []) (fun g => Lin ++ Lr Ls Lx r g))

theorem range_wpG {gt p : Nat} {assign body : Code} {f : FuncId} {lbτ : List VP} {Lin : List Ent} {α σ ε γ : Type} {τ : α → VP} {run : (α → σ → Option (σ ⊕ ε)) → σ → Option (σ ⊕ ε)}
    {Ls : σ → γ → List Ent} {Lx : ε → γ → List Ent} {step : α → σ → Option (σ ⊕ ε)} {s0 : σ} {g0 : γ} {r : σ ⊕ ε} (js : ε → Code)
    (hc : c.rd = none) (en : En c.P f) (hg : look E gt = some (.clo f lbτ)) (hI : ∀ e1 e2 Lx', GoI c.P f lbτ Lin τ run (fun s g => e1 :: e2 :: Ls s g) Lx') (hr : run step s0 = some r) (hL : L = Lin ++ Ls s0 g0) (hp : Nat.blt p c.n = true)
    (hround : ∀ x s r, step x s = some r → ∀ g (W0' : World) (X' A0' : List Nat) (l D : Nat) (rec : Loop), rec.state = .ready →
      Wp ⟨c.P, c.n, W0', X', A0', some l, []⟩ (Exit.then (BR ⟨c.P, c.n, W0', X', A0', some l, []⟩ l body (RQ ⟨c.P, c.n, W0', X', A0', some l, []⟩ js l D { rec with state := .busy } Ls Lx r)) (fun _ _ _ => False)) assign ((p, τ x) :: E) (⟨some l, .is (.loop rec)⟩ :: ⟨some D, .dfr⟩ :: Ls s g))
    (hdone : ∀ s', r = .inl s' → ∀ g D, To { c with ds := D :: c.ds } Q .normal E (⟨some D, .dfr⟩ :: (Lin ++ Ls s' g)))
    (hstop : ∀ q, r = .inr q → ∀ g D, Wp { c with ds := D :: c.ds } Q (js q) E (⟨some D, .dfr⟩ :: (Lin ++ Lx q g))) :
    Wp c Q (.rangeFunc (.tmp gt) #[p] assign body) E L := fun a W st => by
  subst hL
  refine wpIn_rangeFunc fun fn hfn => ?_
  show ∃ l mark w₁ d w₁' f' args w₂, (Instr.enterLoop fn a.tmps #[p] assign body c.rd).run c.P W = _ ∧ _
  rw [hc]
  obtain ⟨rec, hrec⟩ : ∃ rec : Loop, rec = { state := .ready, pending := none, fn, tmps := a.tmps, params := #[p], assign, body, defers := W.heap.size } := ⟨_, rfl⟩
  obtain ⟨v, hv1, lb, hv2, hlb⟩ := st.env gt _ hg
  -- the two blocks of book-keeping
  obtain ⟨W1, hW1⟩ : ∃ W1, (W.alloc (.deferred (some []))).alloc (.loop rec) = W1 := ⟨_, rfl⟩
  have s1 := (st.alloc (o := .deferred (some [])) (cp := .dfr) rfl).alloc (o := .loop rec) (cp := .is (.loop rec)) rfl
  rw [hW1, World.size_alloc] at s1
  obtain ⟨D, hD⟩ : ∃ D, D = W.heap.size := ⟨_, rfl⟩
  obtain ⟨l, hl⟩ : ∃ l, l = W.heap.size + 1 := ⟨_, rfl⟩
  have hen := run_enterLoop_outer (P := c.P) (w := W) fn a.tmps #[p] assign body
  rw [← hrec, hW1, ← hl, ← hD] at hen
  rw [← hl, ← hD] at s1
  -- the state that the iterator is handed
  obtain ⟨Ls', hLs⟩ : ∃ Ls' : σ → γ → List Ent, Ls' = fun s g => ⟨some l, .is (.loop rec)⟩ :: ⟨some D, .dfr⟩ :: Ls s g := ⟨_, rfl⟩
  obtain ⟨Lx', hLx⟩ : ∃ Lx' : ε → γ → List Ent, Lx' = fun q g => ⟨some l, .is (.loop { rec with state := .done, pending := some (js q) })⟩ :: ⟨some D, .dfr⟩ :: Lx q g := ⟨_, rfl⟩
  have s2 : St c E (Lin ++ Ls' s0 g0) a W1 := s1.perm (by
    rw [hLs]
    exact (List.perm_middle.trans (List.perm_middle.cons _)).symm)
  have hvs : HoldsAll (ks (Lin ++ Ls' s0 g0) ++ c.A0) W1 lbτ lb := by
    have h1 : (VP.clo f lbτ).holds (ks (Lin ++ Ls' s0 g0) ++ c.A0) W1 v := by
      obtain ⟨v', h1, h2⟩ := s2.env gt _ hg
      rw [hv1] at h1
      cases h1
      exact h2
    obtain ⟨lb', e1, e2⟩ := h1
    rw [hv2] at e1
    have : lb' = lb := by injection e1 with _ _ e1; injection e1 with e1; exact e1.symm
    rw [← this]; exact e2
  have s2' : St c E ((Lin ++ Ls' s0 g0) ++ []) a W1 := by rw [List.append_nil]; exact s2
  have hlent := s2'.lent
  simp only [ks, List.nil_append] at hlent
  have hyld : Yld c.P (.func (.yield l) #[] #[]) τ Ls' Lx' step (fun A' W' => Ext (ks (Lin ++ Ls' s0 g0) ++ c.A0) W1 A' W') := by
    refine ⟨l, rfl, fun x s r' hs g A W2 v2 hext hle hv => ?_⟩
    have hle' := hle
    rw [hLs] at hle'
    obtain ⟨o, ho1, ho2⟩ := hle'.ok ⟨some l, .is (.loop rec)⟩ (by simp)
    have ho2' : o = .loop rec := ho2
    subst ho2'
    have hy := run_yield (P := c.P) (args := #[v2]) ho1 (by rw [hrec]; rfl)
    refine ⟨_, _, _, _, hy, roundIn_of_wpIn trivial ?_⟩
    have e1 : rec.assign = assign := by rw [hrec]
    have e2 : rec.body = body := by rw [hrec]
    have e3 : rec.params = #[p] := by rw [hrec]
    have e4 : rec.tmps = a.tmps := by rw [hrec]
    rw [e1, e2, e3, e4]
    refine wpIn_room (n := 9) rfl ?_
    have hfold : ((#[p] : Array Tmp).zip #[v2]).foldl (fun tmps (t, a) => tmps.setIfInBounds t a) a.tmps = a.tmps.setIfInBounds p v2 := by simp
    rw [hfold]
    subst hLs hLx
    refine wpIn_mono ((hround x s r' hs g W2 (ks (⟨some l, .is (.loop rec)⟩ :: ⟨some D, .dfr⟩ :: Ls s g)) A l D rec (by rw [hrec])) { tmps := a.tmps.setIfInBounds p v2, defers := [] } W2 ?_) ?_
    · have hpn : p < c.n := by simpa using hp
      exact
      { defers := rfl
        size := by simp [s2.size]
        env := fun t τ' hlk => by
          simp only [look] at hlk
          by_cases e : Nat.beq p t = true
          · rw [e] at hlk
            simp only [cond_true, Option.some.injEq] at hlk
            subst hlk
            have := look_beq.1 e
            subst this
            exact ⟨v2, by simp [s2.size, hpn], hv⟩
          · simp only [Bool.not_eq_true] at e
            rw [e] at hlk
            simp only [cond_false] at hlk
            obtain ⟨u, h1, h2⟩ := s2.env t τ' hlk
            have hne : p ≠ t := fun h => by rw [look_beq.2 h] at e; cases e
            exact ⟨u, by rw [Array.getElem?_setIfInBounds_ne hne]; exact h1, τ'.mono hext h2⟩
        fr := .refl _ _
        own := hle.ok
        nodup := hle.nodup
        lt := hle.lt
        mine := fun k hk _ => hk
        old := hle.old }
    · intro e a3 W3 hq
      cases e with
      | normal =>
        obtain ⟨W4, hbr, hb⟩ := hq
        refine ⟨W4, hbr, wpIn_room (n := 9) rfl (wpIn_mono hb ?_)⟩
        intro e a5 W5 hq5
        -- the end of the round
        have fin : ∀ (jump : Option Code) {Lr : List Ent}, St ⟨c.P, c.n, W2, ks (⟨some l, .is (.loop rec)⟩ :: ⟨some D, .dfr⟩ :: Ls s g), A, some l, []⟩ [] (⟨some l, .is (.loop { rec with state := .busy })⟩ :: ⟨some D, .dfr⟩ :: Lr) a5 W5 →
            ∃ W6, (Instr.endRound l jump).run c.P W5 = .ok (.bool jump.isNone) W6 ∧ St ⟨c.P, c.n, W2, ks (⟨some l, .is (.loop rec)⟩ :: ⟨some D, .dfr⟩ :: Ls s g), A, some l, []⟩ [] (⟨some l, .is (.loop { rec with state := if jump.isNone then .ready else .done, pending := jump })⟩ :: ⟨some D, .dfr⟩ :: Lr) a5 W6 := fun jump Lr s5 => by
          obtain ⟨o, h1, h2⟩ := s5.own ⟨some l, .is (.loop { rec with state := .busy })⟩ (by simp)
          have h2' : o = .loop { rec with state := .busy } := h2
          subst h2'
          exact ⟨_, run_endRound jump h1, s5.turn (i := 0) rfl rfl⟩
        cases r' with
        | inl s' =>
          obtain ⟨rfl, g', s5⟩ := hq5
          obtain ⟨W6, h6, s6⟩ := fin none s5
          refine ⟨_, W6, h6, ?_⟩
          have hrr : ({ rec with state := if (none : Option Code).isNone then .ready else .done, pending := none } : Loop) = rec := by rw [hrec]; rfl
          rw [hrr] at s6
          exact s6.ends (ρ := fun _ : γ => VP.of true) (Lo := fun g => ⟨some l, .is (.loop rec)⟩ :: ⟨some D, .dfr⟩ :: Ls s' g) g' (List.Sublist.refl _) (of_bool.2 rfl)
        | inr q =>
          obtain ⟨hj, rfl, g', s5⟩ := hq5
          obtain ⟨W6, h6, s6⟩ := fin (some (js q)) s5
          have key : PostO (ks (⟨some l, .is (.loop rec)⟩ :: ⟨some D, .dfr⟩ :: Ls s g)) A W2 (fun _ : γ => VP.of false) (fun g => ⟨some l, .is (.loop { rec with state := .done, pending := some (js q) })⟩ :: ⟨some D, .dfr⟩ :: Lx q g) (.returned (.bool false)) W6 :=
            s6.ends (ρ := fun _ : γ => VP.of false) (Lo := fun g => ⟨some l, .is (.loop { rec with state := .done, pending := some (js q) })⟩ :: ⟨some D, .dfr⟩ :: Lx q g) g' (List.Sublist.refl _) (of_bool.2 rfl)
          exact roundPost_jump hj h6 key
      | exit id => exact hq.elim
      | goto t => exact hq.elim
      | ret => exact hq.elim
      | panic ch => exact hq.elim
      | outgrown => exact hq.elim
  have hgo : GoI c.P f lbτ Lin τ run Ls' Lx' := by rw [hLs]; exact hI _ _ Lx'
  have hcall := hgo step s0 g0 r hr c.A0 W1 (.func (.yield l) #[] #[]) lb hlent hvs hyld
  have hcl : a.eval (.tmp gt) = .func (.func f) #[] lb.toArray := by simp [Act.eval, hv1, hv2]
  refine ⟨l, [coll D], W1, { target := .fn (.func f) lb.toArray, args := #[.func (.yield l) #[] #[]] }, W1, f, #[.func (.yield l) #[] #[]] ++ lb.toArray, W1, hen, ?_, fun _ _ => trivial, ?_, fun h => by simp at h, ?_⟩
  · simp only [resolve, hcl]
    simp [go_sem]
  · simp [invoke, go_sem, en.run]
  · refine CallsIn.ofCalls ?_
    have hargs : (#[.func (.yield l) #[] #[]] ++ lb.toArray : Array Value) = (.func (.yield l) #[] #[] :: lb).toArray := by simp
    rw [hargs]
    refine hcall.mono fun e W7 ⟨v7, g', he, hf, h3, h4, h5, h6⟩ => ?_
    subst he
    have s7 := s2'.after hf h3 (by simpa [ks] using h4) (by simpa [ks] using h5)
    rw [List.append_nil] at s7
    cases r with
    | inl s' =>
      simp only [Lr] at s7
      subst hLs
      have s8 : St c E (⟨some l, .is (.loop rec)⟩ :: ⟨some D, .dfr⟩ :: (Lin ++ Ls s' g')) a W7 := s7.perm (by
        exact List.perm_middle.trans (List.perm_middle.cons _))
      obtain ⟨o, ho1, ho2⟩ := s8.own ⟨some l, .is (.loop rec)⟩ (by simp)
      have ho2' : o = .loop rec := ho2
      subst ho2'
      have hend := run_endLoop (P := c.P) ho1 (by rw [hrec]; simp)
      have hpn : rec.pending = none := by rw [hrec]
      rw [hpn] at hend
      refine ⟨none, _, hend, ?_⟩
      have s9 := (s8.turn (i := 0) (cp' := .is (.loop { rec with state := .exhausted })) (o' := .loop { rec with state := .exhausted }) rfl rfl).dropL 1
      rw [hpn] at s9
      exact hdone s' rfl g' D _ _ (s9.mark D)
    | inr q =>
      simp only [Lr] at s7
      subst hLx
      have s8 : St c E (⟨some l, .is (.loop { rec with state := .done, pending := some (js q) })⟩ :: ⟨some D, .dfr⟩ :: (Lin ++ Lx q g')) a W7 := s7.perm (by
        exact List.perm_middle.trans (List.perm_middle.cons _))
      obtain ⟨o, ho1, ho2⟩ := s8.own ⟨some l, .is (.loop { rec with state := .done, pending := some (js q) })⟩ (by simp)
      have ho2' : o = .loop { rec with state := .done, pending := some (js q) } := ho2
      subst ho2'
      have hend := run_endLoop (P := c.P) ho1 (by simp)
      refine ⟨some (js q), _, hend, ?_⟩
      have s9 := (s8.turn (i := 0) (cp' := .is (.loop { rec with state := .exhausted, pending := some (js q) })) (o' := .loop { rec with state := .exhausted, pending := some (js q) }) rfl rfl).dropL 1
      exact hstop q rfl g' D _ _ (s9.mark D)

theorem range_wp {gt p : Nat} {assign body : Code} {f : FuncId} {lbτ : List VP} {Lin : List Ent} {α σ ε γ : Type} {τ : α → VP} {run : ∀ {σ ε : Type}, (α → σ → Option (σ ⊕ ε)) → σ → Option (σ ⊕ ε)}
    {Ls : σ → γ → List Ent} {Lx : ε → γ → List Ent} {step : α → σ → Option (σ ⊕ ε)} {s0 : σ} {g0 : γ} {r : σ ⊕ ε} (js : ε → Code)
    (hc : c.rd = none) (en : En c.P f) (hg : look E gt = some (.clo f lbτ)) (hI : MeetsI c.P f lbτ Lin τ run) (hr : run step s0 = some r) (hL : L = Lin ++ Ls s0 g0) (hp : Nat.blt p c.n = true)
    (hround : ∀ x s r, step x s = some r → ∀ g (W0' : World) (X' A0' : List Nat) (l D : Nat) (rec : Loop), rec.state = .ready →
      Wp ⟨c.P, c.n, W0', X', A0', some l, []⟩ (Exit.then (BR ⟨c.P, c.n, W0', X', A0', some l, []⟩ l body (RQ ⟨c.P, c.n, W0', X', A0', some l, []⟩ js l D { rec with state := .busy } Ls Lx r)) (fun _ _ _ => False)) assign ((p, τ x) :: E) (⟨some l, .is (.loop rec)⟩ :: ⟨some D, .dfr⟩ :: Ls s g))
    (hdone : ∀ s', r = .inl s' → ∀ g D, To { c with ds := D :: c.ds } Q .normal E (⟨some D, .dfr⟩ :: (Lin ++ Ls s' g)))
    (hstop : ∀ q, r = .inr q → ∀ g D, Wp { c with ds := D :: c.ds } Q (js q) E (⟨some D, .dfr⟩ :: (Lin ++ Lx q g))) :
    Wp c Q (.rangeFunc (.tmp gt) #[p] assign body) E L :=
  range_wpG (run := run) js hc en hg (fun e1 e2 Lx' => hI.go (fun s g => e1 :: e2 :: Ls s g) Lx') hr hL hp hround hdone hstop

/-! ### The end of a function that holds such loops -/

theorem bodyPostM_of {P : Program} {fn : Func} {R : Ending → World → Prop} {a : Act} {W : World} (h : bodyPost P fn R .ret a W) : bodyPostM Fence.wide 9 P fn R .ret a W := by
  obtain ⟨h1, v, h2, h3⟩ := h
  show LeavesInM Fence.wide 9 P fn a.tmps R a.defers .returning W
  rw [h1]
  exact ⟨v, h2, h3⟩

theorem To.endn {P : Program} {fn : Func} {R : Ending → World → Prop} (k : To c (bodyPost P fn R) .ret E L) : To c (bodyPost P fn R) .normal E L := fun a W s => k a W s

/-- no loop has been on this way -/
theorem To.endM {fn : Func} {R : Ending → World → Prop} (k : To c (bodyPost c.P fn R) .ret E L) : To c (bodyPostM Fence.wide 9 c.P fn R) .ret E L := fun a W s => bodyPostM_of (k a W s)

/-- one loop has been on this way -/
theorem To.endD {fn : Func} {R : Ending → World → Prop} {D : Nat} (i : Nat) (hL : L[i]? = some ⟨some D, .dfr⟩) (hds : c.ds = [D]) (k : To { c with ds := [] } (bodyPost c.P fn R) .ret E (L.set i ⟨some D, .is (.deferred none)⟩)) :
    To c (bodyPostM Fence.wide 9 c.P fn R) .ret E L := fun a W s => by
  obtain ⟨o, h1, h2⟩ := s.own _ (List.mem_of_getElem? hL)
  have h2' : o = .deferred (some []) := h2
  subst h2'
  have s2 := s.turn hL (cp' := .is (.deferred none)) (o' := .deferred none) rfl
  have s3 : St { c with ds := [] } E (L.set i ⟨some D, .is (.deferred none)⟩) { a with defers := [] } (W.putObj D (.deferred none)) :=
    { defers := rfl, size := s2.size, env := s2.env, fr := s2.fr, own := s2.own, nodup := s2.nodup, lt := s2.lt, mine := s2.mine, old := s2.old }
  obtain ⟨_, v, h3, h4⟩ := k _ _ s3
  show LeavesInM Fence.wide 9 c.P fn a.tmps R a.defers .returning W
  rw [s.defers, hds]
  exact ⟨by simp, .inl ⟨D, _, rfl, run_takeDeferred h1, v, h3, h4⟩⟩
end

theorem Meets.enterM {P : Program} {f : FuncId} {fn : Func} {code : Code} {n : Nat} {τs : List VP} {ρ : VP} (hf : P.funcs[f]? = some fn) (hb : fn.body = some code) (hn : fn.ntmps = n) (hlen : Nat.ble τs.length n = true)
    (h : ∀ W A, Wp ⟨P, n, W, [], A, none, []⟩ (bodyPostM Fence.wide 9 P fn fun e W' => ∃ v, e = .returned v ∧ Fr [] W W' ∧ ρ.holds A W' v) code (params 0 τs) []) : Meets P f τs ρ := by
  intro A W vs hA hv
  refine (callsIn_wide (n := 9)).1 (callsIn_of_wp_marks hf hb trivial (h W A _ _ ?_))
  have hl := hv.length
  have hle : τs.length ≤ n := Nat.le_of_ble_eq_true hlen
  exact
  { defers := rfl
    size := by simp [hn, hl]; omega
    env := fun t τ hl' => by
      obtain ⟨_, v, h2, h3⟩ := look_params hv 0 t τ hl'
      refine ⟨v, ?_, h3⟩
      have hlt : t < vs.length := (List.getElem?_eq_some_iff.1 h2).1
      rw [Array.getElem?_append_left (by simpa using hlt)]
      simpa using h2
    fr := .refl _ _
    own := by simp
    nodup := by simp [ks]
    lt := by simp [ks]
    mine := by simp [ks]
    old := fun k hk => ⟨hA k hk, by simp [ks]⟩ }

theorem Meets.ofM {P : Program} {f : FuncId} {fn : Func} {code : Code} {n : Nat} {τs : List VP} {ρ : VP} (hf : P.funcs[f]? = some fn) (hb : fn.body = some code) (hn : fn.ntmps = n) (hlen : Nat.ble τs.length n = true)
    (h : ∀ W A, Wp ⟨P, n, W, [], A, none, []⟩ (bodyPostM Fence.wide 9 P fn (Post ⟨P, n, W, [], A, none, []⟩ ρ)) code (params 0 τs) []) : Meets P f τs ρ := Meets.enterM hf hb hn hlen h

theorem MeetsO.ofM {P : Program} {f : FuncId} {fn : Func} {code : Code} {n : Nat} {τs : List VP} {Lin : List Ent} {δ : Type} {ρ : δ → VP} {Lo : δ → List Ent} (hf : P.funcs[f]? = some fn) (hb : fn.body = some code) (hn : fn.ntmps = n) (hlen : Nat.ble τs.length n = true)
    (h : ∀ W A, Wp ⟨P, n, W, ks Lin, A, none, []⟩ (bodyPostM Fence.wide 9 P fn (PostO (ks Lin) A W ρ Lo)) code (params 0 τs) Lin) : MeetsO P f τs Lin ρ Lo := by
  intro A W vs hA hnd hlt hok hv
  refine (callsIn_wide (n := 9)).1 (callsIn_of_wp_marks hf hb trivial (h W A _ _ ?_))
  have hl := hv.length
  have hle : τs.length ≤ n := Nat.le_of_ble_eq_true hlen
  exact
  { defers := rfl
    size := by simp [hn, hl]; omega
    env := fun t τ hl' => by
      obtain ⟨_, v, h2, h3⟩ := look_params hv 0 t τ hl'
      refine ⟨v, ?_, h3⟩
      have hlt : t < vs.length := (List.getElem?_eq_some_iff.1 h2).1
      rw [Array.getElem?_append_left (by simpa using hlt)]
      simpa using h2
    fr := .refl _ _
    own := hok
    nodup := hnd
    lt := hlt
    mine := fun k hk _ => hk
    old := hA }
end Gv

