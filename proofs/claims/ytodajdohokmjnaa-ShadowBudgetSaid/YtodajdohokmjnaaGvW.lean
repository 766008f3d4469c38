/-
  The library of the decompiler, part W: what a reading of an argument says of it, and the form that a law's statement asks for. Conditions: none.
-/
import Derived.Test.YtodajdohokmjnaaGvK
import Derived.ChangeSame
import Derived.OpenShut
import Derived.Carry
namespace Gv
open Go Go.ChangeShapes Go.WideShapes Go.RowKit
set_option linter.unusedVariables false

/-- a reading of this type is of data of this kind -/
structure Arg (P : Program) (t : TypeId) (α : Type) [Rp α] : Prop where
  cells : P.cellsOf t = Rp.size α
  read : ∀ {H : Type} {enc : TypeId × Value → H} {W : World} {n : Nat} {cs : List Value} {x : DataW H × List MemPlace}, DataW.trod enc P W 0 (fun _ => true) true n t cs = some x → ∃ a : α, Rp.rep [] W cs a
  form : ∀ {W : World} {b : Nat} {v : Value}, Value.okWide P W .any b t v → shaped (Rp.agg α) v

variable {P : Program} {t e : TypeId}

theorem bool_read (hu : P.underlying t = some .bool) {H : Type} {enc : TypeId × Value → H} {W : World} {n : Nat} {cs : List Value} {x : DataW H × List MemPlace} (h : DataW.trod enc P W 0 (fun _ => true) true n t cs = some x) :
    ∃ b : Bool, cs = [.bool b] := by
  cases n with
  | zero => simp [DataW.trod] at h
  | succ n =>
    unfold DataW.trod at h
    rw [hu] at h
    split at h <;> first | exact ⟨_, rfl⟩ | (simp at h)
    all_goals simp_all
theorem Arg.bool (hu : P.underlying t = some .bool) (hc : P.cellsOf t = 1) : Arg P t Bool where
  cells := hc
  read {H enc W n cs x} h := by
    obtain ⟨b, rfl⟩ := bool_read hu h
    exact ⟨b, rfl⟩
  form {W b v} h := by
    unfold Value.okWide Cell.okWide at h
    simp only [hu] at h
    unfold Cell.ok at h
    rw [hu] at h
    cases v <;> first | rfl | simp at h

theorem int_read {k : IntKind} (hu : P.underlying t = some (.int k)) {H : Type} {enc : TypeId × Value → H} {W : World} {n : Nat} {cs : List Value} {x : DataW H × List MemPlace} (h : DataW.trod enc P W 0 (fun _ => true) true n t cs = some x) :
    ∃ z : Int, cs = [.int k z] ∧ k.min ≤ z ∧ z ≤ k.max := by
  cases n with
  | zero => simp [DataW.trod] at h
  | succ n =>
    unfold DataW.trod at h
    rw [hu] at h
    split at h <;> simp_all [Lit.wf]
theorem int_form {k : IntKind} (hu : P.underlying t = some (.int k)) {W : World} {b : Nat} {v : Value} (h : Value.okWide P W .any b t v) : v.oneCell' = true := by
  unfold Value.okWide Cell.okWide at h
  simp only [hu] at h
  unfold Cell.ok at h
  rw [hu] at h
  cases v <;> first | rfl | simp at h

theorem Arg.int (hu : P.underlying t = some (.int .i64)) (hc : P.cellsOf t = 1) : Arg P t Int where
  cells := hc
  read h := by obtain ⟨z, rfl, _⟩ := int_read hu h; exact ⟨z, rfl⟩
  form h := int_form hu h
theorem Arg.u64 (hu : P.underlying t = some (.int .u64)) (hc : P.cellsOf t = 1) : Arg P t (BitVec 64) where
  cells := hc
  read h := by
    obtain ⟨z, rfl, h1, h2⟩ := int_read hu h
    simp [IntKind.min, IntKind.max, IntKind.signed, IntKind.bits] at h1 h2
    exact ⟨BitVec.ofInt 64 z, by show [_] = [_]; simp; omega⟩
  form h := int_form hu h
theorem Arg.u32 (hu : P.underlying t = some (.int .u32)) (hc : P.cellsOf t = 1) : Arg P t (BitVec 32) where
  cells := hc
  read h := by
    obtain ⟨z, rfl, h1, h2⟩ := int_read hu h
    simp [IntKind.min, IntKind.max, IntKind.signed, IntKind.bits] at h1 h2
    exact ⟨BitVec.ofInt 32 z, by show [_] = [_]; simp; omega⟩
  form h := int_form hu h
theorem Arg.u16 (hu : P.underlying t = some (.int .u16)) (hc : P.cellsOf t = 1) : Arg P t (BitVec 16) where
  cells := hc
  read h := by
    obtain ⟨z, rfl, h1, h2⟩ := int_read hu h
    simp [IntKind.min, IntKind.max, IntKind.signed, IntKind.bits] at h1 h2
    exact ⟨BitVec.ofInt 16 z, by show [_] = [_]; simp; omega⟩
  form h := int_form hu h
theorem Arg.u8 (hu : P.underlying t = some (.int .u8)) (hc : P.cellsOf t = 1) : Arg P t (BitVec 8) where
  cells := hc
  read h := by
    obtain ⟨z, rfl, h1, h2⟩ := int_read hu h
    simp [IntKind.min, IntKind.max, IntKind.signed, IntKind.bits] at h1 h2
    exact ⟨BitVec.ofInt 8 z, by show [_] = [_]; simp; omega⟩
  form h := int_form hu h

theorem agg_form (hs : (∃ fs, P.underlying t = some (.struct fs)) ∨ (∃ n e, P.underlying t = some (.array n e))) {W : World} {b : Nat} {v : Value} (h : Value.okWide P W .any b t v) : shaped true v := by
  unfold Value.okWide at h
  rcases hs with ⟨fs, hu⟩ | ⟨n, e, hu⟩ <;> rw [hu] at h <;> exact ⟨h.choose, h.choose_spec.1⟩

theorem Arg.arr {α : Type} [Rp α] [Inhabited α] {n : Nat} (hu : P.underlying t = some (.array n e)) (he : Arg P e α) (hc : P.cellsOf t = n * Rp.size α) : Arg P t (Vector α n) where
  cells := hc
  read {H enc W m cs x} h := by
    obtain ⟨xs, q, _, _, hl, hlen, hf⟩ := DataW.trod_array hu h
    have hr : ∀ i, i < n → ∃ a : α, Rp.rep [] W ((cs.drop (i * Rp.size α)).take (Rp.size α)) a := by
      intro i hi
      have h1 := hf i hi
      rw [List.getElem?_eq_getElem (by omega)] at h1
      rw [← he.cells]
      exact he.read h1
    refine ⟨Vector.ofFn fun i => (hr i.1 i.2).choose, by rw [hl, hc]; simp, fun i hi => ?_⟩
    have hi' : i < n := by simpa using hi
    have := (hr i hi').choose_spec
    simpa using this
  form h := agg_form (.inr ⟨_, _, hu⟩) h

theorem fld_read {H : Type} {enc : TypeId × Value → H} {W : World} {n : Nat} {cs : List Value} {α : Type} [Rp α] {fs : Array Field} {xs : List (DataW H × List MemPlace)} {f : Field} (i : Nat) (ha : Arg P f.type α) (hi : fs[i]? = some f) (hlen : xs.length = fs.size)
    (hf : ∀ (i : Nat) (f : Field), fs[i]? = some f → DataW.trod enc P W 0 (fun _ => true) true n f.type ((cs.drop f.offset).take (P.cellsOf f.type)) = xs[i]?) : ∃ a : α, Rp.rep [] W ((cs.drop f.offset).take (Rp.size α)) a := by
  have h1 := hf i f hi
  rw [List.getElem?_eq_getElem (by have := (Array.getElem?_eq_some_iff.1 hi).1; omega)] at h1
  rw [← ha.cells]
  exact ha.read h1

/-- one argument more -/
theorem args_cons {H : Type} {enc : TypeId × Value → H} {W : World} {ts : List TypeId} {vs : List Value} {ds : List (DataW H)} {ps : List MemPlace} {α : Type} [Rp α] {b : Nat} (ha : Arg P t α)
    (h : DataW.TrodAll enc P W 0 (fun _ => true) true (t :: ts) vs ds ps) (hok : ∀ (j : Nat) u v, (t :: ts)[j]? = some u → vs[j]? = some v → Value.okWide P W .any b u v) :
    ∃ (a : α) (v : Value) (vs' : List Value) (ds' : List (DataW H)) (ps' : List MemPlace) (d : DataW H), vs = v :: vs' ∧ ds = d :: ds' ∧ (VP.of a).holds [] W v ∧ DataW.TrodAll enc P W 0 (fun _ => true) true ts vs' ds' ps' ∧
      (∀ (j : Nat) u w, ts[j]? = some u → vs'[j]? = some w → Value.okWide P W .any b u w) := by
  obtain ⟨v, vs1, d, ds1, p, q, rfl, rfl, rfl, ⟨n, h1⟩, h2⟩ := trodAll_cons h
  obtain ⟨a, h3⟩ := ha.read h1
  exact ⟨a, v, vs1, ds1, q, d, rfl, rfl, ⟨ha.form (hok 0 t v rfl rfl), h3⟩, h2, fun j u w hj hw => hok (j + 1) u w (by simpa using hj) (by simpa using hw)⟩

theorem stays_all {H : Type} {enc : TypeId × Value → H} {W W' : World} (hl : laidOutB P = true) {sp : Nat → Bool} : ∀ {ts : List TypeId} {vs : List Value} {ds : List (DataW H)} {ps : List MemPlace},
    (∀ t ∈ ts, P.readableRec t = true ∧ t < P.types.size) → DataW.TrodAll enc P W 0 (fun _ => true) true ts vs ds ps → (∀ p ∈ ps, W.sameAt W' p) → (∀ p ∈ ps, sp p.block = true) → DataW.TrodAll enc P W' 0 sp true ts vs ds ps
  | [], _, _, _, _, h, _, _ => by
    obtain ⟨rfl, rfl, rfl⟩ := trodAll_nil h
    exact rfl
  | _ :: _, _, _, _, ht, h, hs, hp => by
    obtain ⟨v, vs1, d, ds1, p, q, rfl, rfl, rfl, h1, h2⟩ := trodAll_cons h
    have h0 := ht _ (List.mem_cons_self ..)
    exact ⟨p, q, WideElems.Trod_stays hl h0.1 h0.2 h1 (fun x hx => hs x (by simp [hx])) (fun x hx => hp x (by simp [hx])),
      stays_all hl (fun t htm => ht t (List.mem_cons_of_mem _ htm)) h2 (fun x hx => hs x (by simp [hx])) (fun x hx => hp x (by simp [hx])), rfl⟩

theorem Fr.below {W W' : World} (h : Fr [] W W') : Below W.heap.size W W' := ⟨h.os, h.tape, h.output, h.size, fun k hk => h.block k hk (by simp)⟩

/-- what a law's statement asks for behind the call: true has come back, and each argument reads as it did -/
theorem post_law {H : Type} {enc : TypeId × Value → H} {f : Func} {s : ChangeSpec} {W W' : World} {args : Array Value} {ds gs : List (DataW H)} {before : List MemPlace} {bt : TypeId}
    (hl : laidOutB P = true) (hp : ∀ t ∈ f.params.toList, P.readableRec t = true ∧ t < P.types.size) (hr : f.resultTypes = #[bt]) (hb : P.underlying bt = some .bool) (hv : s.vars = [])
    (hs : s.fn H ds = { results := [.lit (.bool true)], args := ds })
    (hW : DataW.Whole enc P f.params.toList s.vars false W args.toList ds gs before) (hF : Fr [] W W') :
    s.post enc P f false true false false W args (.bool true) W' := by
  have hW0 := hW
  obtain ⟨p, q, hA, hV, rfl, hz, hn⟩ := hW0
  rw [hv] at hV
  obtain ⟨rfl, rfl⟩ := trodVars_none hV
  have hlt : ∀ x ∈ p, x.block < W.heap.size := fun x hx => hW.lt x (by simpa using hx)
  have hbl := hF.below
  have hsame : ∀ x ∈ p, W.sameAt W' x := fun x hx => hbl.same (hlt x hx)
  have hres : ∀ (b : Nat) (sp : Nat → Bool) (hd : Bool), DataW.TrodAll enc P W' b sp hd f.resultTypes.toList ((Value.bool true).resultList f.resultTypes.size) [.lit (.bool true)] [] := by
    intro b sp hd
    rw [hr]
    exact ⟨[], [], shut_bool hb true, rfl, rfl⟩
  refine ⟨ds, [], p ++ [], [], p, [], hW, ?_, ?_, ?_, World.keptBut_mono (fun x hx => ?_) (hbl.frame fun _ => False), fun h => by cases h⟩
  · rw [List.append_nil, hs]; exact hres _ _ _
  · rw [List.append_nil, hs]; exact stays_all hl hp hA hsame (fun x hx => by simpa using hlt x hx)
  · rw [List.append_nil, hs, hv]; rfl
  · exact hx.elim

end Gv
