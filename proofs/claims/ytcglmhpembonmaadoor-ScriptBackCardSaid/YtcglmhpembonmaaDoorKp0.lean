/-
  What the programs compute, in plain Lean. Conditions: none.
-/
import Derived.Lib.LaidTab
import Derived.Lib.LaidU8
import Derived.ProofKit
import Derived.OpenShut
import Derived.LaidMore
import Derived.Lay
import Derived.Stop.Joined
import Derived.Handed
import Derived.LaidLaws
import Derived.Test.YtcglmhpembonmaaDoorKd
import Derived.Test.YtcglmhpembonmaaDoorKl0
import Derived.Test.YtcglmhpembonmaaDoorKs0
namespace Go.Proofs.YtcglmhpembonmaaDoor
open Go Gv
set_option linter.unusedVariables false
set_option linter.unusedSimpArgs false
set_option maxRecDepth 100000
/-- a loop whose states are known -/
theorem loop_eq {σ ε : Type} {b : σ → Option (σ ⊕ ε)} (n : Nat) (st : Nat → σ) {e : ε} (hn : n < 2 ^ 80) (hs : ∀ k, k < n → b (st k) = some (.inl (st (k + 1)))) (he : b (st n) = some (.inr e)) : loopM FUEL b (st 0) = some e := by
  have key : ∀ m k, k ≤ n → n - k < m → loopM m b (st k) = some e := by
    intro m
    induction m with
    | zero => intro k _ h; omega
    | succ m ih =>
      intro k hk hm
      by_cases h : k = n
      · subst h; simp [loopM, he]
      · simp only [loopM, hs k (by omega)]
        exact ih (k + 1) (by omega) (by omega)
  exact key FUEL 0 (Nat.zero_le _) (by unfold FUEL; omega)
def InR (n : Int) : Prop := -9223372036854775808 ≤ n ∧ n ≤ 9223372036854775807
def b2u (x : BitVec 8) : UInt8 := UInt8.ofNat x.toNat
def u2b (x : UInt8) : BitVec 8 := BitVec.ofNat 8 x.toNat
theorem b2u_u2b (x : UInt8) : b2u (u2b x) = x := by
  have := x.toNat_lt
  apply UInt8.toNat_inj.1
  simp [b2u, u2b, UInt8.toNat_ofNat', BitVec.toNat_ofNat]
theorem strOf_eq (xs : List (BitVec 8)) : strOf xs = ⟨(xs.map b2u).toArray⟩ := rfl
theorem bytesOf_eq (s : ByteArray) : bytesOf s = s.data.toList.map u2b := rfl
theorem ba_size (l : List UInt8) : (⟨l.toArray⟩ : ByteArray).size = l.length := by
  show l.toArray.size = _
  simp
theorem ba_eta (s : ByteArray) : s = ⟨s.data.toList.toArray⟩ := by cases s; rfl
theorem ba_app (a b : List UInt8) : (⟨a.toArray⟩ : ByteArray) ++ ⟨b.toArray⟩ = ⟨(a ++ b).toArray⟩ := by
  apply ByteArray.ext
  rw [ByteArray.data_append]
  simp
theorem catM_eq {a b : List UInt8} (h : a.length + b.length ≤ 9223372036854775807) : catM ⟨a.toArray⟩ ⟨b.toArray⟩ = some ⟨(a ++ b).toArray⟩ := by
  unfold catM
  rw [ba_size, ba_size, if_pos h, ba_app]
theorem decDigits_le (u : Nat) : (Lib.decDigits u).length ≤ u + 1 := by
  induction u using Nat.strongRecOn with
  | _ u ih =>
    by_cases h : u < 10
    · rw [Lib.decDigits, dif_pos h]; simp
    · rw [Lib.decDigits, dif_neg h, List.length_append]
      have := ih (u / 10) (by omega)
      simp only [List.length_cons, List.length_nil]
      omega
theorem digits_eq : ∀ (n : Nat) (x : BitVec 64), x.toNat < n → Lr_ref33_digits n x = some ⟨(Lib.decDigits x.toNat).toArray⟩
  | 0, x, h => by omega
  | n + 1, x, h => by
    have hx := x.isLt
    unfold Lr_ref33_digits
    by_cases h10 : x.toNat < 10
    · have hc : decide (x < (10#64)) = true := decide_eq_true (by simpa [BitVec.lt_def] using h10)
      rw [hc, cond_true, Lib.decDigits, dif_pos h10, strOf_eq]
      simp only [List.map_cons, List.map_nil, b2u]
      congr 5
      simp [BitVec.toNat_setWidth, BitVec.toNat_add]
      omega
    · have hc : decide (x < (10#64)) = false := decide_eq_false (by simpa [BitVec.lt_def] using h10)
      have hz : (10#64 : BitVec 64) ≠ 0 := by decide
      rw [hc, cond_false]
      have e1 : uquoM x (10#64) = some (x / 10#64) := by unfold uquoM; rw [if_neg hz]
      have e2 : uremM x (10#64) = some (x % 10#64) := by unfold uremM; rw [if_neg hz]
      have d1 : (x / 10#64).toNat = x.toNat / 10 := by rw [BitVec.toNat_udiv]; rfl
      have d2 : (x % 10#64).toNat = x.toNat % 10 := by rw [BitVec.toNat_umod]; rfl
      rw [e1, Option.bind_some, digits_eq n (x / 10#64) (by rw [d1]; omega), Option.bind_some, e2, Option.bind_some, d1, strOf_eq]
      have hlen := decDigits_le (x.toNat / 10)
      rw [catM_eq (by simp; omega), Option.bind_some, Lib.decDigits.eq_def x.toNat, dif_neg h10]
      simp only [List.map_cons, List.map_nil, b2u]
      congr 6
      simp [BitVec.toNat_setWidth, BitVec.toNat_add, d2]
      omega
theorem decDigits_log : ∀ (k u : Nat), u < 10 ^ (k + 1) → (Lib.decDigits u).length ≤ k + 1
  | 0, u, h => by rw [Lib.decDigits, dif_pos (by simpa using h)]; simp
  | k + 1, u, h => by
    by_cases h10 : u < 10
    · rw [Lib.decDigits, dif_pos h10]; simp
    · rw [Lib.decDigits, dif_neg h10, List.length_append]
      have := decDigits_log k (u / 10) (by rw [Nat.pow_succ] at h; omega)
      simp only [List.length_cons, List.length_nil]; omega
theorem itoa_short {n : Int} (h : InR n) : (Lib.itoa n).length ≤ 20 := by
  unfold InR at h
  unfold Lib.itoa
  split
  · have := decDigits_log 18 n.natAbs (by omega)
    simp only [List.length_cons]; omega
  · have := decDigits_log 18 n.toNat (by omega)
    omega
theorem decimal_eq {n : Int} (h : InR n) : L_ref33_decimal n = some ⟨(Lib.itoa n).toArray⟩ := by
  have hs := itoa_short h
  unfold InR at h
  unfold L_ref33_decimal Lib.itoa at *
  by_cases hn : n < 0
  · rw [decide_eq_true hn, cond_true, if_pos hn]
    rw [if_pos hn] at hs
    have e1 : w64 (n + 1) = n + 1 := w64_in (by omega) (by omega)
    have e2 : w64 (0 - (n + 1)) = -(n + 1) := by rw [w64_in (by omega) (by omega)]; omega
    have e3 : (((BitVec.ofInt 64 (w64 (0 - (w64 (n + 1))))) + (1#64))).toNat = n.natAbs := by
      rw [e1, e2, BitVec.toNat_add, BitVec.toNat_ofInt]
      have : ((-(n + 1)) % ((2 ^ 64 : Nat) : Int)) = -(n + 1) := Int.emod_eq_of_lt (by omega) (by omega)
      rw [this]
      simp
      omega
    unfold L_ref33_digits
    rw [digits_eq FUEL _ (by have := ((BitVec.ofInt 64 (w64 (0 - (w64 (n + 1))))) + (1#64)).isLt; unfold FUEL; omega), Option.bind_some, e3]
    simp only [List.length_cons] at hs
    rw [show ByteArray.mk #[45] = ⟨[(45 : UInt8)].toArray⟩ from rfl, catM_eq (by simp; omega), Option.bind_some]
    rfl
  · rw [decide_eq_false hn, cond_false, if_neg hn]
    have e3 : (BitVec.ofInt 64 n).toNat = n.toNat := by
      rw [BitVec.toNat_ofInt]
      have : (n % ((2 ^ 64 : Nat) : Int)) = n := Int.emod_eq_of_lt (by omega) (by omega)
      rw [this]
    unfold L_ref33_digits
    rw [digits_eq FUEL _ (by have := (BitVec.ofInt 64 n).isLt; unfold FUEL; omega), Option.bind_some, e3]
end Go.Proofs.YtcglmhpembonmaaDoor

namespace Go.Proofs.YtcglmhpembonmaaDoor
open Go Gv Go.ChangeShapes Go.WideShapes Go.ChangeAt Go.RowKit
set_option linter.unusedVariables false
set_option linter.unusedSimpArgs false
set_option maxRecDepth 100000
/-- as Arg, with what is known of the data -/
structure ArgR (P : Program) (t : TypeId) (α : Type) [Rp α] (K : α → Prop) : Prop where
  cells : P.cellsOf t = Rp.size α
  read : ∀ {H : Type} {enc : TypeId × Value → H} {W : World} {n : Nat} {cs : List Value} {x : DataW H × List MemPlace}, DataW.trod enc P W 0 (fun _ => true) true n t cs = some x → ∃ a : α, Rp.rep [] W cs a ∧ K a
  form : ∀ {W : World} {b : Nat} {v : Value}, Value.okWide P W .any b t v → shaped (Rp.agg α) v
section
variable {P : Program} {t e : TypeId}
theorem ArgR.of {α : Type} [Rp α] (h : Arg P t α) : ArgR P t α fun _ => True := ⟨h.cells, fun h1 => let ⟨a, h2⟩ := h.read h1; ⟨a, h2, trivial⟩, h.form⟩
theorem ArgR.int (hu : P.underlying t = some (.int .i64)) (hc : P.cellsOf t = 1) : ArgR P t Int InR where
  cells := hc
  read h := by
    obtain ⟨z, rfl, h1, h2⟩ := int_read hu h
    exact ⟨z, rfl, h1, h2⟩
  form h := int_form hu h
theorem sli_form {α : Type} [Rp α] (hu : P.underlying t = some (.slice e)) {W : World} {b : Nat} {v : Value} (h : Value.okWide P W .any b t v) : shaped (Rp.agg (List α)) v := by
  have hone : v.oneCell' = true := by
    unfold Value.okWide at h
    simp only [hu] at h
    unfold Cell.okWide at h
    simp only [hu] at h
    unfold Cell.ok at h
    rw [hu] at h
    cases v <;> first | rfl | simp at h
  exact hone
theorem ArgR.sli {α : Type} [Rp α] {K : α → Prop} (hu : P.underlying t = some (.slice e)) (he : ArgR P e α K) (hz : Nat.beq (Rp.size α) 0 = false) (hc : P.cellsOf t = 1) : ArgR P t (List α) fun xs => ∀ x ∈ xs, K x where
  cells := hc
  form h := sli_form hu h
  read {H enc W n cs x} h := by
    have hs0 : Rp.size α ≠ 0 := fun h => by rw [h] at hz; cases hz
    rcases DataW.trod_slice hu h with ⟨rfl, _⟩ | ⟨a, len, cap, elems, rest, m, _, rfl, _, _, hlc, hcm, hel, hels, hrest, _⟩
    · exact ⟨[], ⟨_, rfl, .inl ⟨⟨_, rfl⟩, rfl⟩⟩, by simp⟩
    by_cases hcap : cap = 0
    · subst hcap
      have hl0 : len = 0 := by omega
      subst hl0
      exact ⟨[], ⟨_, rfl, .inl ⟨⟨_, rfl⟩, rfl⟩⟩, by simp⟩
    -- there is a first place
    have h0 : ∃ cs', W.cells? 0 (a.add (0 * P.cellsOf e)) (P.cellsOf e) = some cs' := by
      by_cases hl : 0 < len
      · have := hels 0 hl
        rw [List.getElem?_eq_getElem (by omega)] at this
        obtain ⟨cs', h6, _⟩ := Option.bind_eq_some_iff.1 this
        exact ⟨cs', h6⟩
      · have hl0 : len = 0 := by omega
        subst hl0
        obtain ⟨h1, h2⟩ := hrest rfl
        have := h2 0 (by omega)
        rw [List.getElem?_eq_getElem (by omega)] at this
        obtain ⟨cs', h6, _⟩ := Option.bind_eq_some_iff.1 this
        exact ⟨cs', by simpa using h6⟩
    obtain ⟨cs0', h0⟩ := h0
    have hsize := he.cells
    obtain ⟨_, hl0, hc0⟩ := World.cells?_some h0
    rw [hsize] at hl0 hc0
    have hfirst : ∃ v, W.cell? a = some v := by
      have h1 := hc0 0 (by omega)
      rw [List.getElem?_eq_getElem (by omega)] at h1
      have e1 : (a.add (0 * Rp.size α)).add 0 = a := by simp [Addr.add]
      rw [e1] at h1
      exact ⟨_, h1⟩
    obtain ⟨v1, hfirst⟩ := hfirst
    obtain ⟨ab, ao, asp⟩ := a
    unfold World.cell? at hfirst
    cases hob : W.heap[ab]? with
    | none => rw [hob] at hfirst; cases hfirst
    | some ob =>
      rw [hob] at hfirst
      cases ob <;> simp at hfirst
      rename_i cs0 T fz
      obtain ⟨hsp, hfirst⟩ := hfirst
      subst hsp
      have hoff : ao ≤ cs0.size := by
        have := (Array.getElem?_eq_some_iff.1 hfirst).1
        omega
      have hrep : ∀ i, i < len → ∃ a : α, (Rp.rep [] W ((cs0.toList.drop (ao + i * Rp.size α)).take (Rp.size α)) a ∧ K a) ∧ ao + (i + 1) * Rp.size α ≤ cs0.size := fun i hi => by
        have h5 := hels i hi
        rw [List.getElem?_eq_getElem (by omega)] at h5
        obtain ⟨cs', h6, h7⟩ := Option.bind_eq_some_iff.1 h5
        obtain ⟨_, hl, hc⟩ := World.cells?_some h6
        rw [hsize] at hl hc h6
        have hcell : ∀ j, j < Rp.size α → cs0[ao + i * Rp.size α + j]? = cs'[j]? := fun j hj => by
          rw [← hc j hj, addr_add, addr_add]
          unfold World.cell?
          simp [hob]
        have heq : (cs0.toList.drop (ao + i * Rp.size α)).take (Rp.size α) = cs' := by
          apply List.ext_getElem?
          intro j
          rw [List.getElem?_take]
          by_cases hj : j < Rp.size α
          · rw [if_pos hj, List.getElem?_drop, Array.getElem?_toList]; exact hcell j hj
          · rw [if_neg hj]; symm; exact List.getElem?_eq_none (by omega)
        obtain ⟨a, ha, hK⟩ := he.read h7
        refine ⟨a, ⟨by rw [heq]; exact ha, hK⟩, ?_⟩
        have h8 := hcell (Rp.size α - 1) (by omega)
        rw [List.getElem?_eq_getElem (show Rp.size α - 1 < cs'.length by omega)] at h8
        have := (Array.getElem?_eq_some_iff.1 h8).1
        rw [Nat.add_mul]; omega
      have hex : ∃ xs : List α, xs.length = len ∧ ∀ i (h : i < xs.length), Rp.rep [] W ((cs0.toList.drop (ao + i * Rp.size α)).take (Rp.size α)) xs[i] ∧ K xs[i] := by
        refine ⟨List.ofFn fun i : Fin len => (hrep i.1 i.2).choose, by simp, fun i hi => ?_⟩
        have hi' : i < len := by simpa using hi
        rw [List.getElem_ofFn]
        exact (hrep i hi').choose_spec.1
      obtain ⟨xs, hxl, hxr⟩ := hex
      have hbound : ao + xs.length * Rp.size α ≤ cs0.size := by
        rw [hxl]
        rcases Nat.eq_zero_or_pos len with h0 | h0
        · rw [h0]; omega
        · have := (hrep (len - 1) (by omega)).choose_spec.2
          rw [show len - 1 + 1 = len by omega] at this
          exact this
      refine ⟨xs, ⟨_, rfl, .inr ⟨ab, ao, cap, cs0, T, fz, by rw [hxl], by simp, hob, by omega, by omega, hbound, ?_, fun i hi => ?_⟩⟩, fun x hx => ?_⟩
      · rw [List.length_take, List.length_drop]; simp; omega
      · have hle : (i + 1) * Rp.size α ≤ xs.length * Rp.size α := Nat.mul_le_mul_right _ hi
        rw [Nat.succ_mul] at hle
        rw [take_drop_in _ _ _ _ _ hle]
        exact (hxr i hi).1
      · obtain ⟨i, hi, rfl⟩ := List.getElem_of_mem hx
        exact (hxr i hi).2
theorem fld_readR {H : Type} {enc : TypeId × Value → H} {W : World} {n : Nat} {cs : List Value} {α : Type} [Rp α] {K : α → Prop} {fs : Array Field} {xs : List (DataW H × List MemPlace)} {f : Field} (i : Nat) (ha : ArgR P f.type α K) (hi : fs[i]? = some f) (hlen : xs.length = fs.size)
    (hf : ∀ (i : Nat) (f : Field), fs[i]? = some f → DataW.trod enc P W 0 (fun _ => true) true n f.type ((cs.drop f.offset).take (P.cellsOf f.type)) = xs[i]?) : ∃ a : α, Rp.rep [] W ((cs.drop f.offset).take (Rp.size α)) a ∧ K a := by
  have h1 := hf i f hi
  rw [List.getElem?_eq_getElem (by have := (Array.getElem?_eq_some_iff.1 hi).1; omega)] at h1
  rw [← ha.cells]
  exact ha.read h1
theorem args_consR {H : Type} {enc : TypeId × Value → H} {W : World} {ts : List TypeId} {vs : List Value} {ds : List (DataW H)} {ps : List MemPlace} {α : Type} [Rp α] {K : α → Prop} {b : Nat} (ha : ArgR P t α K)
    (h : DataW.TrodAll enc P W 0 (fun _ => true) true (t :: ts) vs ds ps) (hok : ∀ (j : Nat) u v, (t :: ts)[j]? = some u → vs[j]? = some v → Value.okWide P W .any b u v) :
    ∃ (a : α) (v : Value) (vs' : List Value) (ds' : List (DataW H)) (ps' : List MemPlace) (d : DataW H), vs = v :: vs' ∧ ds = d :: ds' ∧ ((VP.of a).holds [] W v ∧ K a) ∧ DataW.TrodAll enc P W 0 (fun _ => true) true ts vs' ds' ps' ∧
      (∀ (j : Nat) u w, ts[j]? = some u → vs'[j]? = some w → Value.okWide P W .any b u w) := by
  obtain ⟨v, vs1, d, ds1, p, q, rfl, rfl, rfl, ⟨n, h1⟩, h2⟩ := trodAll_cons h
  obtain ⟨a, h3, h4⟩ := ha.read h1
  exact ⟨a, v, vs1, ds1, q, d, rfl, rfl, ⟨⟨ha.form (hok 0 t v rfl rfl), h3⟩, h4⟩, h2, fun j u w hj hw => hok (j + 1) u w (by simpa using hj) (by simpa using hw)⟩
end
theorem argI : ArgR Tryd.prog 3 Int InR := .int Tryd.underlying3 (by kernel_rfl)
theorem argB : Arg Tryd.prog 5 (BitVec 8) := Arg.u8 Tryd.underlying5 (by kernel_rfl)
theorem argS : Arg Tryd.prog 9 ByteArray where
  cells := by kernel_rfl
  read {H enc W n cs x} h := by
    cases n with
    | zero => simp [DataW.trod] at h
    | succ n =>
      unfold DataW.trod at h
      rw [Tryd.underlying9] at h
      split at h <;> first | exact ⟨_, rfl⟩ | simp_all
  form {W b v} h := by
    have hone : v.oneCell' = true := by
      unfold Value.okWide at h
      simp only [Tryd.underlying9] at h
      unfold Cell.okWide at h
      simp only [Tryd.underlying9] at h
      unfold Cell.ok at h
      rw [Tryd.underlying9] at h
      cases v <;> first | rfl | simp at h
    exact hone
theorem argD : ArgR Tryd.prog 25 (List (BitVec 8)) fun xs => ∀ x ∈ xs, True := .sli Tryd.underlying25 (.of argB) (by kernel_rfl) (by kernel_rfl)
theorem argC : ArgR Tryd.prog 36 T_api_Call fun c => InR c.f_Controller where
  cells := by kernel_rfl
  read h := by
    obtain ⟨xs, n, _, _, hl, hlen, hf⟩ := DataW.trod_struct Tryd.underlying36 h
    obtain ⟨a0, h0, k0⟩ := fld_readR 0 argI rfl hlen hf
    obtain ⟨a1, h1, _⟩ := fld_readR 1 argD rfl hlen hf
    exact ⟨⟨a0, a1⟩, ⟨hl.trans (by kernel_rfl), h0, h1⟩, k0⟩
  form h := agg_form (.inl ⟨_, Tryd.underlying36⟩) h
theorem argL : ArgR Tryd.prog 22 (List T_api_Call) fun xs => ∀ c ∈ xs, InR c.f_Controller := .sli Tryd.underlying22 argC (by kernel_rfl) (by kernel_rfl)
/-! ### The condition -/
theorem iface_read {P : Program} {W : World} {t : TypeId} {ms : Array (String × TypeId)} {n : Nat} {cs : List Value} {nm : String} {d : DataW Unit} {p : List MemPlace} {sp : Nat → Bool} {b : Nat} {enc : TypeId × Value → Unit} (hu : P.underlying t = some (.interface ms))
    (h : DataW.trod enc P W b sp false n t cs = some (.iface nm d, p)) : ∃ u v, cs = [.iface u v] := by
  cases n with
  | zero => simp [DataW.trod] at h
  | succ n =>
    unfold DataW.trod at h
    rw [hu] at h
    split at h <;> first | exact ⟨_, _, rfl⟩ | simp_all
theorem var_of {W : World} {n : String} {d : DataW Unit} {g : Nat} (hg : Tryd.prog.globalNamed n = some g) (h : Lib.VarReads Tryd.prog W n d) : ∃ t cs T fz fuel p, (Tryd.prog.globals[g]?).map (·.type) = some t ∧ W.heap[g]? = some (.cells cs T fz) ∧ DataW.trod (fun _ => ()) Tryd.prog W 0 (fun _ => true) false fuel t cs.toList = some (d, p) := by
  obtain ⟨g', t, cs, fuel, p, h1, h2, h3, h4⟩ := h
  obtain rfl := Option.some.inj (hg.symm.trans h1)
  obtain ⟨T, fz, h5⟩ := (var_at hg).1 h3
  exact ⟨t, cs, T, fz, fuel, p, h2, h5, h4⟩
def theLaid : List (String × DataW Unit) := [("math/bits.deBruijn32tab", Rows.laid_math_bits_deBruijn32tab), ("math/bits.deBruijn64tab", Rows.laid_math_bits_deBruijn64tab), ("internal/strconv.uint64pow10", Rows.laid_internal_strconv_uint64pow10), ("strconv.ErrRange", Rows.laid_strconv_ErrRange), ("strconv.ErrSyntax", Rows.laid_strconv_ErrSyntax)]
theorem tab_data : (Rows.laid_internal_strconv_uint64pow10 : DataW Unit) = Lib.tabData .u64 Lib.pow10Tab := by
  unfold Rows.laid_internal_strconv_uint64pow10 Lib.tabData Lib.pow10Tab
  rfl
theorem ground {W : World} (hL : laidMetH Tryd.prog theLaid W) (hS : W.ShapedOpen Tryd.prog) : G0.is W := by
  rw [MakeChecks.laidMetH_plain _ _ _ (by kernel_rfl)] at hL
  refine ⟨?_, ?_, ?_, ?_⟩
  · obtain ⟨t, cs, T, fz, fuel, p, h1, h2, h3⟩ := var_of gn0 (Lib.laidMet.reads hL (n := "internal/strconv.uint64pow10") (d := Rows.laid_internal_strconv_uint64pow10) (by simp [theLaid]))
    obtain rfl := Option.some.inj ((show (Tryd.prog.globals[0]?).map (·.type) = some 78 by kernel_rfl).symm.trans h1)
    rw [tab_data] at h3
    have e := Lib.cells_of_tab Tryd.underlying78 Tryd.underlying46 (by kernel_rfl) (by kernel_rfl) h3
    refine ⟨T, fz, ?_⟩
    rw [h2, ← e]
  · obtain ⟨cs, h1, h2, h3⟩ := hS.1 1 #[.int .i64 0] 3 (of_decide_eq_true (by kernel_rfl)) (by kernel_rfl)
    obtain ⟨ts, h4, _, h5⟩ := h3 (by kernel_rfl)
    obtain rfl := Option.some.inj ((show Tryd.prog.cellTypes Tryd.prog.depth 3 = some [3] by kernel_rfl).symm.trans h4)
    have hsz : cs.size = 1 := h2
    have h6 : cs[0]? = some cs[0] := Array.getElem?_eq_getElem (by omega)
    obtain ⟨u, h7, h8⟩ := h5 0 _ h6
    obtain rfl : 3 = u := by simpa using h7
    unfold Cell.ok at h8
    rw [Tryd.underlying3] at h8
    generalize cs[0] = v at *
    cases v <;> simp at h8
    rename_i k m
    obtain ⟨rfl, _⟩ := h8
    exact ⟨cs, 3, _, m, h1, h6⟩
  · obtain ⟨t, cs, T, fz, fuel, p, h1, h2, h3⟩ := var_of gn2 (Lib.laidMet.reads hL (n := "strconv.ErrSyntax") (d := Rows.laid_strconv_ErrSyntax) (by simp [theLaid]))
    obtain rfl := Option.some.inj ((show (Tryd.prog.globals[2]?).map (·.type) = some 41 by kernel_rfl).symm.trans h1)
    obtain ⟨u, v, e⟩ := iface_read Tryd.underlying41 h3
    exact ⟨u, v, T, fz, by rw [h2, Array.eq_one_of_toList e]⟩
  · obtain ⟨t, cs, T, fz, fuel, p, h1, h2, h3⟩ := var_of gn3 (Lib.laidMet.reads hL (n := "strconv.ErrRange") (d := Rows.laid_strconv_ErrRange) (by simp [theLaid]))
    obtain rfl := Option.some.inj ((show (Tryd.prog.globals[3]?).map (·.type) = some 41 by kernel_rfl).symm.trans h1)
    obtain ⟨u, v, e⟩ := iface_read Tryd.underlying41 h3
    exact ⟨u, v, T, fz, by rw [h2, Array.eq_one_of_toList e]⟩
end Go.Proofs.YtcglmhpembonmaaDoor

namespace Go.Proofs.YtcglmhpembonmaaDoor
open Go Gv Go.ChangeShapes Go.WideShapes Go.ChangeAt Go.RowKit
set_option linter.unusedVariables false
set_option maxRecDepth 100000
section
variable {H : Type} {enc : TypeId × Value → H}
theorem handed_shaped {a : Assume} {C : Checked} {os : Os} {f : FuncId} {fn : Func} {s : ChangeSpec} {conds : List PathCond} {apart fresh handsOn again : Bool} {X : World → Array Value → Prop}
    (hX : ∀ (w w' : World) (args : Array Value), w.heap = w'.heap → X w args → X w' args)
    (own : ownKnob C.prog.godebug = none) (started : os.Started) (noInit : C.prog.inits.idxOf? f = none) (hfn : C.prog.funcs[f]? = some fn)
    (witness : ∃ (w : World) (tape : Tape) (i : Input), w.os = os ∧ (w.forCall tape i).Shaped C.prog ∧ i.vars = [] ∧ Input.okWide C.prog (w.forCall tape i) .any w.heap.size f i ∧
      ((s.pre enc C.prog fn conds apart (w.forCall tape i).memory i.args ∧ X (w.forCall tape i).memory i.args) ∧ sizedMet enc C.prog fn (OpenSpec.ofChange s) apart (w.forCall tape i).memory i.args) ∧ a.holds C.prog (lone (Frame.enter C.prog f i.args .normal) [] (w.forCall tape i)))
    (contract : ∀ (W : World) (base : Nat) (args : Array Value) (ds gs : List (DataW H)) (before : List MemPlace), W.ShapedOpen C.prog →
      (∀ (j : Nat) t v, fn.params[j]? = some t → args[j]? = some v → Value.okWide C.prog W .any base t v) →
      DataW.Whole enc C.prog fn.params.toList s.vars apart W args.toList ds gs before → X W args →
      Calls C.prog f args W fun e W' => ∃ v, e = .returned v ∧ s.post enc C.prog fn apart fresh handsOn again W args v W') :
    ReturnsInHanded a C os f .any (fun w args => (s.pre enc C.prog fn conds apart w args ∧ X w args) ∧ sizedMet enc C.prog fn (OpenSpec.ofChange s) apart w args) (s.post enc C.prog fn apart fresh handsOn again) := by
  refine returnsInHanded_of_calls own started noInit witness ?_
  intro w tape i _ hsh _ hok hpre _
  obtain ⟨_, _, _, fn', hfn', _, _, _, _, hval⟩ := hok
  have e : fn' = fn := Option.some.inj (hfn'.symm.trans hfn)
  subst e
  obtain ⟨⟨⟨ds, gs, before, hw, hc⟩, hx⟩, hz⟩ := hpre
  have hw' := DataW.Whole.of_heap (w' := w.forCall tape i) (by rfl) hw
  refine (contract (w.forCall tape i) w.heap.size i.args ds gs before hsh hval hw' (hX _ _ _ (by rfl) hx)).mono fun e W' ⟨v, he, hp⟩ => ?_
  subst he
  exact ChangeSpec.post_blind hp
end
theorem ownK : ownKnob Tryd.prog.godebug = none := by kernel_rfl
theorem lobK : laidOutB Tryd.prog = true := by kernel_rfl
theorem mprK : mapsRowed Tryd.prog = true := by kernel_rfl
theorem shdK : Tryd.prog.stopsHeard = true := by kernel_rfl
theorem myeK : Tryd.prog.mayEnter = true := by kernel_rfl
end Go.Proofs.YtcglmhpembonmaaDoor

namespace Go.Proofs.YtcglmhpembonmaaDoor
open Go Gv
set_option linter.unusedVariables false
set_option linter.unusedSimpArgs false
set_option maxRecDepth 100000
def hexAt (i : Nat) : UInt8 := hexd.data.toList.getD i 0
/-- two digits -/
def hexL (b : BitVec 8) : List UInt8 := [hexAt (b >>> (4#64).toNat).toNat, hexAt (b &&& 15#8).toNat]
def lineL (c : T_api_Call) : List UInt8 := Lib.itoa c.f_Controller ++ 32 :: (c.f_Data.flatMap hexL ++ [10])
def fmtL (l : List T_api_Call) : List UInt8 := l.flatMap lineL
theorem strM_hexd {i : Nat} (h : i < 16) : strM hexd (i : Int) = some (u2b (hexAt i)) := by
  have : ∀ i : Fin 16, strM hexd (i.val : Int) = some (u2b (hexAt i.val)) := by decide
  exact this ⟨i, h⟩
theorem hi_lt (b : BitVec 8) : (b >>> (4#64).toNat).toNat < 16 := by
  have := b.isLt
  rw [BitVec.toNat_ushiftRight]
  show b.toNat >>> 4 < 16
  rw [Nat.shiftRight_eq_div_pow]
  omega
theorem lo_lt (b : BitVec 8) : (b &&& 15#8).toNat < 16 := by
  rw [BitVec.toNat_and]
  exact Nat.lt_of_le_of_lt Nat.and_le_right (by decide)
theorem hexL_len (l : List (BitVec 8)) : (l.flatMap hexL).length = 2 * l.length := by
  induction l with
  | nil => rfl
  | cons x r ih => rw [List.flatMap_cons, List.length_append, ih]; simp [hexL]; omega
theorem lineL_len (c : T_api_Call) : (lineL c).length = (Lib.itoa c.f_Controller).length + 2 * c.f_Data.length + 2 := by
  unfold lineL
  rw [List.length_append, List.length_cons, List.length_append, hexL_len]
  simp; omega
theorem take_lget {α : Type} [Inhabited α] (l : List α) {k : Nat} (hk : k < l.length) : l.take (k + 1) = l.take k ++ [lget l k] := by
  rw [List.take_succ_eq_append_getElem hk, lget_eq l hk]
theorem idx_at {n k : Nat} (h : k < n) : idx n (k : Int) = some k := by unfold idx; rw [if_pos (by omega)]; simp
theorem w64_at {k : Nat} (h : k < 2 ^ 62) : w64 ((k : Int) + 1) = ((k + 1 : Nat) : Int) := by rw [w64_in (by omega) (by omega)]; omega
theorem flat_take_le {α β : Type} [Inhabited α] (f : α → List β) (l : List α) {k : Nat} (hk : k < l.length) : ((l.take k).flatMap f).length + (f (lget l k)).length ≤ (l.flatMap f).length := by
  have e : l.flatMap f = (l.take (k + 1)).flatMap f ++ (l.drop (k + 1)).flatMap f := by rw [← List.flatMap_append, List.take_append_drop]
  rw [e, take_lget l hk, List.flatMap_append, List.length_append, List.length_append]
  simp
theorem appM1 {xs ys : List (BitVec 8)} (h : xs.length + ys.length ≤ 140737488355328) : appM 1 xs ys = some (xs ++ ys) := by
  unfold appM
  rw [if_pos ⟨by omega, by unfold maxLen; omega⟩]
theorem Line_eq {c : T_api_Call} (h : InR c.f_Controller) (hd : c.f_Data.length ≤ 2 ^ 40) : L_ref33_Line c = some ⟨(lineL c).toArray⟩ := by
  have hs := itoa_short h
  unfold L_ref33_Line
  rw [decimal_eq h, Option.bind_some, show ByteArray.mk #[32] = ⟨[(32 : UInt8)].toArray⟩ from rfl, catM_eq (by simp; omega), Option.bind_some]
  have hb : strB (⟨(Lib.itoa c.f_Controller ++ [32]).toArray⟩ : ByteArray) = some ((Lib.itoa c.f_Controller ++ [32]).map u2b) := by
    unfold strB
    rw [ba_size, if_pos (by simp [maxLen]; omega), bytesOf_eq]
  rw [hb, Option.bind_some]
  have hl := loop_eq (b := fun (s1 : Int × List (BitVec 8)) =>
    cond (decide (s1.1 < (c.f_Data.length : Int))) (
      (idx c.f_Data.length s1.1).bind fun k1 =>
      (strM (ByteArray.mk #[48, 49, 50, 51, 52, 53, 54, 55, 56, 57, 97, 98, 99, 100, 101, 102]) (((lget c.f_Data k1) >>> (4#64).toNat).toNat : Int)).bind fun y4 =>
      (strM (ByteArray.mk #[48, 49, 50, 51, 52, 53, 54, 55, 56, 57, 97, 98, 99, 100, 101, 102]) (((lget c.f_Data k1) &&& (15#8)).toNat : Int)).bind fun y5 =>
      (appM 1 s1.2 [y4, y5]).bind fun y6 =>
      some (.inl (w64 (s1.1 + 1), y6))) (
      some (.inr (s1.1, decide (s1.1 < (c.f_Data.length : Int)), s1.2)))) (e := ((c.f_Data.length : Int), false, (Lib.itoa c.f_Controller ++ [32] ++ c.f_Data.flatMap hexL).map u2b))
    c.f_Data.length (fun k => ((k : Int), (Lib.itoa c.f_Controller ++ [32] ++ (c.f_Data.take k).flatMap hexL).map u2b)) (by omega) (fun k hk => by
      have h1 : decide ((k : Int) < (c.f_Data.length : Int)) = true := decide_eq_true (by omega)
      have h2 : ((c.f_Data.take k).flatMap hexL).length = 2 * k := by rw [hexL_len, List.length_take]; omega
      simp only [h1, cond_true, idx_at hk, Option.bind_some]
      rw [show ByteArray.mk #[48, 49, 50, 51, 52, 53, 54, 55, 56, 57, 97, 98, 99, 100, 101, 102] = hexd from rfl, strM_hexd (hi_lt _), Option.bind_some, strM_hexd (lo_lt _), Option.bind_some, appM1 (by simp [h2]; omega), Option.bind_some, w64_at (by omega), take_lget c.f_Data hk, List.flatMap_append]
      simp [hexL]) (by
      have h1 : decide ((c.f_Data.length : Int) < (c.f_Data.length : Int)) = false := decide_eq_false (by omega)
      simp only [h1, cond_false, List.take_length])
  simp only [List.take_zero, List.flatMap_nil, List.append_nil] at hl
  rw [show ((0 : Nat) : Int) = 0 from rfl] at hl
  rw [hl, Option.bind_some, appM1 (by have hh := hexL_len c.f_Data; simp only [List.length_map, List.length_append, List.length_cons, List.length_nil, hh]; omega), Option.bind_some, strOf_eq]
  congr 3
  rw [List.map_append, List.map_map]
  have : (b2u ∘ u2b) = id := funext b2u_u2b
  rw [this, List.map_id]
  unfold lineL
  simp [b2u]
theorem appL_eq {a b : List UInt8} (h : a.length + b.length ≤ 140737488355328) : appL a b = some (a ++ b) := by unfold appL; rw [if_pos h]
theorem lineM_eq {c : T_api_Call} {bs : List UInt8} (h : InR c.f_Controller) (hd : bs.length + (lineL c).length ≤ 2 ^ 46) : lineM c bs = some (bs ++ lineL c) := by
  have hs := itoa_short h
  rw [lineL_len] at hd
  unfold lineM itoaM
  rw [if_pos (by unfold InR at h; exact h), Option.bind_some, show ByteArray.mk #[32] = ⟨[(32 : UInt8)].toArray⟩ from rfl, catM_eq (by simp; omega), Option.bind_some, appL_eq (by simp; omega), Option.bind_some]
  have hl := loop_eq (b := fun (s : Int × List UInt8) =>
    cond (decide (s.1 < (c.f_Data.length : Int))) (
      (idx c.f_Data.length s.1).bind fun k =>
      (strM hexd (((lget c.f_Data k) >>> (4#64).toNat).toNat : Int)).bind fun y3 =>
      (appL s.2 [UInt8.ofNat y3.toNat]).bind fun b2 =>
      (strM hexd (((lget c.f_Data k) &&& (15#8)).toNat : Int)).bind fun y4 =>
      (appL b2 [UInt8.ofNat y4.toNat]).bind fun b3 =>
      some (.inl (w64 (s.1 + 1), b3))) (
      some (.inr s.2))) (e := bs ++ (Lib.itoa c.f_Controller ++ [32]) ++ c.f_Data.flatMap hexL)
    c.f_Data.length (fun k => ((k : Int), bs ++ (Lib.itoa c.f_Controller ++ [32]) ++ (c.f_Data.take k).flatMap hexL)) (by omega) (fun k hk => by
      have h1 : decide ((k : Int) < (c.f_Data.length : Int)) = true := decide_eq_true (by omega)
      have h2 : ((c.f_Data.take k).flatMap hexL).length = 2 * k := by rw [hexL_len, List.length_take]; omega
      simp only [h1, cond_true, idx_at hk, Option.bind_some]
      rw [strM_hexd (hi_lt _), Option.bind_some, appL_eq (by simp [h2]; omega), Option.bind_some, strM_hexd (lo_lt _), Option.bind_some, appL_eq (by simp [h2]; omega), Option.bind_some, w64_at (by omega), take_lget c.f_Data hk, List.flatMap_append]
      have e1 : ∀ b, UInt8.ofNat (u2b b).toNat = b := b2u_u2b
      simp [hexL, e1]) (by
      have h1 : decide ((c.f_Data.length : Int) < (c.f_Data.length : Int)) = false := decide_eq_false (by omega)
      simp only [h1, cond_false, List.take_length])
  simp only [List.take_zero, List.flatMap_nil, List.append_nil] at hl
  rw [show ((0 : Nat) : Int) = 0 from rfl] at hl
  show Option.bind (loopM FUEL _ (0, bs ++ (Lib.itoa c.f_Controller ++ [32]))) _ = _
  rw [hl, Option.bind_some, appL_eq (by have hh := hexL_len c.f_Data; simp only [List.length_map, List.length_append, List.length_cons, List.length_nil, hh]; omega)]
  unfold lineL
  simp
theorem Format_eq {l : List T_api_Call} (h : ∀ c ∈ l, InR c.f_Controller) (hl : (fmtL l).length ≤ 2 ^ 40) : Ls_Format l = some ⟨(fmtL l).toArray⟩ := by
  have hlen : l.length ≤ (fmtL l).length := by
    have : ∀ l : List T_api_Call, l.length ≤ (fmtL l).length := fun l => by
      induction l with
      | nil => simp
      | cons c r ih =>
        have e : fmtL (c :: r) = lineL c ++ fmtL r := by simp [fmtL]
        rw [e, List.length_append, List.length_cons, lineL_len]; omega
    exact this l
  unfold Ls_Format fmtM
  have hr := loop_eq (b := fun (s : Int × List UInt8) =>
    cond (decide (s.1 < (l.length : Int))) (
      (idx l.length s.1).bind fun k =>
      (lineM (lget l k) s.2).bind fun bs =>
      some (.inl (w64 (s.1 + 1), bs))) (
      some (.inr s.2))) (e := fmtL l) l.length (fun k => ((k : Int), (l.take k).flatMap lineL)) (by omega) (fun k hk => by
      have h1 : decide ((k : Int) < (l.length : Int)) = true := decide_eq_true (by omega)
      have h2 := flat_take_le lineL l hk
      have h3 : lget l k ∈ l := by rw [lget_eq l hk]; exact List.getElem_mem hk
      have h4 : (l.flatMap lineL).length ≤ 2 ^ 40 := hl
      simp only [h1, cond_true, idx_at hk, Option.bind_some]
      rw [lineM_eq (h _ h3) (by omega), Option.bind_some, w64_at (by omega), take_lget l hk, List.flatMap_append]
      simp) (by
      have h1 : decide ((l.length : Int) < (l.length : Int)) = false := decide_eq_false (by omega)
      simp only [h1, cond_false, List.take_length]
      rfl)
  simp only [List.take_zero, List.flatMap_nil] at hr
  rw [show ((0 : Nat) : Int) = 0 from rfl] at hr
  rw [hr]
  rfl
end Go.Proofs.YtcglmhpembonmaaDoor

namespace Go.Proofs.YtcglmhpembonmaaDoor
open Go Gv
set_option linter.unusedVariables false
set_option linter.unusedSimpArgs false
set_option maxRecDepth 100000
theorem strM_at {l : List UInt8} {k : Nat} (h : k < l.length) : strM ⟨l.toArray⟩ (k : Int) = some (u2b l[k]) := by
  unfold strM
  rw [if_pos (by omega)]
  have : (⟨l.toArray⟩ : ByteArray)[(k : Int).toNat]? = some l[k] := by
    rw [show ((k : Int).toNat) = k from rfl, getElem?_pos _ _ (by rw [ba_size]; exact h)]
    rfl
  rw [this]
  rfl
def ix (a : UInt8) : Int := Lib.indexByte hexd.data.toList a
theorem ixb_at (a : UInt8) : ixbM hexd (u2b a) = some (ix a) := by
  unfold ixbM ix
  rw [show UInt8.ofNat (u2b a).toNat = a from b2u_u2b a]
def ixOk (a : UInt8) : Bool := ix a == -1 || (decide (0 ≤ ix a) && decide (ix a < 16) && hexAt (ix a).toNat == a)
theorem ix_all : ((List.range 256).all fun n => ixOk (UInt8.ofNat n)) = true := by decide +kernel
theorem ix_some {a : UInt8} (h : 0 ≤ ix a) : ∃ i : Nat, i < 16 ∧ ix a = i ∧ hexAt i = a := by
  have h1 := List.all_eq_true.1 ix_all a.toNat (List.mem_range.2 a.toNat_lt)
  rw [UInt8.ofNat_toNat] at h1
  unfold ixOk at h1
  simp only [Bool.or_eq_true, Bool.and_eq_true, beq_iff_eq, decide_eq_true_eq] at h1
  rcases h1 with h1 | ⟨⟨h2, h3⟩, h4⟩
  · omega
  · exact ⟨(ix a).toNat, by omega, by omega, h4⟩
theorem ix_hexAt {i : Nat} (h : i < 16) : ix (hexAt i) = i := by
  have : ∀ i : Fin 16, ix (hexAt i.val) = i.val := by decide +kernel
  exact this ⟨i, h⟩
/-- two digits as a byte -/
def byt (i j : Int) : BitVec 8 := BitVec.ofInt 8 (ior (ishl i (4#64).toNat) j)
theorem byt_all : ((List.range 16).all fun i => (List.range 16).all fun j => hexL (byt i j) == [hexAt i, hexAt j]) = true := by decide +kernel
theorem byt_hex {i j : Nat} (hi : i < 16) (hj : j < 16) : hexL (byt i j) = [hexAt i, hexAt j] :=
  beq_iff_eq.1 (List.all_eq_true.1 (List.all_eq_true.1 byt_all i (List.mem_range.2 hi)) j (List.mem_range.2 hj))
theorem byt_back_all : ((List.range 256).all fun n => byt ((BitVec.ofNat 8 n >>> (4#64).toNat).toNat : Int) ((BitVec.ofNat 8 n &&& 15#8).toNat : Int) == BitVec.ofNat 8 n) = true := by decide +kernel
theorem byt_back (x : BitVec 8) : byt ((x >>> (4#64).toNat).toNat : Int) ((x &&& 15#8).toNat : Int) = x := by
  have h := beq_iff_eq.1 (List.all_eq_true.1 byt_back_all x.toNat (List.mem_range.2 x.isLt))
  rw [BitVec.ofNat_toNat, BitVec.setWidth_eq] at h
  exact h
def unhex : List UInt8 → Option (List (BitVec 8))
  | [] => some []
  | [_] => none
  | a :: b :: r => if 0 ≤ ix a ∧ 0 ≤ ix b then (unhex r).map (byt (ix a) (ix b) :: ·) else none
theorem unhex_odd : ∀ l : List UInt8, l.length % 2 = 1 → unhex l = none
  | [], h => by simp at h
  | [_], _ => rfl
  | a :: b :: r, h => by
    have ih := unhex_odd r (by simp only [List.length_cons] at h; omega)
    unfold unhex
    rw [ih]
    split <;> rfl
theorem unhex_hexs : ∀ d : List (BitVec 8), unhex (d.flatMap hexL) = some d
  | [] => rfl
  | x :: r => by
    have e : (x :: r).flatMap hexL = hexAt (x >>> (4#64).toNat).toNat :: hexAt (x &&& 15#8).toNat :: r.flatMap hexL := by simp [hexL]
    rw [e]
    unfold unhex
    rw [ix_hexAt (hi_lt x), ix_hexAt (lo_lt x), if_pos (by omega), unhex_hexs r, Option.map_some, byt_back]
theorem hexs_unhex : ∀ (l : List UInt8) (d : List (BitVec 8)), unhex l = some d → d.flatMap hexL = l
  | [], d, h => by cases h; rfl
  | [_], d, h => by cases h
  | a :: b :: r, d, h => by
    unfold unhex at h
    split at h
    · rename_i hc
      obtain ⟨d', h1, rfl⟩ := Option.map_eq_some_iff.1 h
      obtain ⟨i, hi, e1, e2⟩ := ix_some hc.1
      obtain ⟨j, hj, e3, e4⟩ := ix_some hc.2
      rw [List.flatMap_cons, hexs_unhex r d' h1, e1, e3, byt_hex hi hj, e2, e4]
      rfl
    · cases h
theorem unhex_len {l : List UInt8} {d : List (BitVec 8)} (h : unhex l = some d) : l.length = 2 * d.length := by rw [← hexs_unhex l d h, hexL_len]
theorem bytesP_loop (l : List UInt8) (hl : l.length ≤ 2 ^ 40) : ∀ (rest pre : List UInt8) (out : List (BitVec 8)) (N : Nat), l = pre ++ rest → rest.length % 2 = 0 → rest.length < N → out.length ≤ pre.length →
    loopM (σ := Int × (List (BitVec 8))) (ε := Option (List (BitVec 8))) N (fun s1 =>
      cond (decide (s1.1 < ((⟨l.toArray⟩ : ByteArray).size : Int))) (
        (strM ⟨l.toArray⟩ s1.1).bind fun y3 =>
        (ixbM hexd y3).bind fun y4 =>
        (strM ⟨l.toArray⟩ (w64 (s1.1 + 1))).bind fun y5 =>
        (ixbM hexd y5).bind fun y6 =>
        cond ((decide (y4 ≥ 0)) && (decide (y6 ≥ 0))) (
          (appM 1 s1.2 [BitVec.ofInt 8 (ior (ishl y4 (4#64).toNat) y6)]).bind fun y8 =>
          some (.inl (w64 (s1.1 + 2), y8))) (
          some (.inr none))) (
        some (.inr (some s1.2)))) ((pre.length : Int), out) = some ((unhex rest).map (out ++ ·))
  | [], pre, out, 0, e, he, hN, ho => by simp at hN
  | [], pre, out, N + 1, e, he, hN, ho => by
    have h1 : decide ((pre.length : Int) < ((⟨l.toArray⟩ : ByteArray).size : Int)) = false := decide_eq_false (by rw [ba_size, e]; simp)
    unfold loopM
    simp only [h1, cond_false]
    simp [unhex]
  | [_], pre, out, N, e, he, hN, ho => by simp at he
  | a :: b :: r, pre, out, 0, e, he, hN, ho => by simp at hN
  | a :: b :: r, pre, out, N + 1, e, he, hN, ho => by
    have hlen : l.length = pre.length + r.length + 2 := by rw [e]; simp; omega
    have h1 : decide ((pre.length : Int) < ((⟨l.toArray⟩ : ByteArray).size : Int)) = true := decide_eq_true (by rw [ba_size]; omega)
    have h2 : strM ⟨l.toArray⟩ (pre.length : Int) = some (u2b a) := by
      rw [strM_at (by omega : pre.length < l.length)]
      congr 2
      subst e
      simp
    have h3 : strM ⟨l.toArray⟩ (w64 ((pre.length : Int) + 1)) = some (u2b b) := by
      rw [w64_at (by omega), strM_at (by omega : pre.length + 1 < l.length)]
      congr 2
      subst e
      simp
    unfold loopM
    simp only [h1, cond_true, h2, h3, Option.bind_some, ixb_at]
    unfold unhex
    by_cases hc : 0 ≤ ix a ∧ 0 ≤ ix b
    · have h4 : (decide (ix a ≥ 0) && decide (ix b ≥ 0)) = true := by simp [hc.1, hc.2]
      rw [h4, cond_true, if_pos hc, appM1 (by simp; omega), Option.bind_some]
      have h5 : w64 ((pre.length : Int) + 2) = ((pre ++ [a, b]).length : Int) := by rw [w64_in (by omega) (by omega)]; simp
      simp only [h5]
      have ih := bytesP_loop l hl r (pre ++ [a, b]) (out ++ [byt (ix a) (ix b)]) N (by rw [e]; simp) (by simp only [List.length_cons] at he; omega) (by simp only [List.length_cons] at hN; omega) (by simp; omega)
      unfold byt at ih
      rw [ih]
      cases unhex r with
      | none => rfl
      | some d => simp [byt]
    · have h4 : (decide (ix a ≥ 0) && decide (ix b ≥ 0)) = false := by
        rw [Bool.and_eq_false_iff]
        by_cases h0 : 0 ≤ ix a
        · right; exact decide_eq_false (fun h => hc ⟨h0, h⟩)
        · left; exact decide_eq_false (fun h => h0 h)
      rw [h4, cond_false, if_neg hc]
      rfl
theorem bytesP_eq {l : List UInt8} (hl : l.length ≤ 2 ^ 40) : bytesP ⟨l.toArray⟩ = some (unhex l) := by
  unfold bytesP
  have hm : modM ((⟨l.toArray⟩ : ByteArray).size : Int) 2 = some ((l.length % 2 : Nat) : Int) := by
    unfold modM
    rw [if_neg (by decide), ba_size]
    rfl
  rw [hm, Option.bind_some]
  by_cases he : l.length % 2 = 0
  · rw [he]
    have := bytesP_loop l hl l [] [] FUEL rfl he (by unfold FUEL; omega) (Nat.le_refl _)
    simp only [List.length_nil, List.nil_append] at this
    rw [show (((0 : Nat) : Int) == 0) = true from rfl, cond_true]
    rw [show ((0 : Nat) : Int) = 0 from rfl] at this
    rw [this]
    cases unhex l <;> rfl
  · have : l.length % 2 = 1 := by omega
    rw [this, unhex_odd l this]
    rfl
/-! ### Where a byte stands first -/
theorem index_one (c : UInt8) : ∀ s : List UInt8, (c ∉ s ∧ Lib.index s [c] = -1) ∨ ∃ a b, s = a ++ c :: b ∧ c ∉ a ∧ Lib.index s [c] = a.length
  | [] => .inl ⟨by simp, rfl⟩
  | x :: l => by
    by_cases h : c = x
    · subst h
      exact .inr ⟨[], l, rfl, by simp, by simp [Lib.index, List.isPrefixOf]⟩
    · have hp : ([c].isPrefixOf (x :: l)) = false := by simp [List.isPrefixOf, h]
      rcases index_one c l with ⟨h1, h2⟩ | ⟨a, b, h1, h2, h3⟩
      · refine .inl ⟨by simp [h, h1], ?_⟩
        unfold Lib.index
        rw [hp, h2]
        rfl
      · refine .inr ⟨x :: a, b, by rw [h1]; rfl, by simp [h, h2], ?_⟩
        unfold Lib.index
        rw [hp, h3]
        have : (((a.length : Int)) == -1) = false := by simp
        rw [this]
        simp
theorem cut_one (c : UInt8) (s : List UInt8) : (c ∉ s ∧ Lib.cut s [c] = (s, [], false)) ∨ ∃ a b, s = a ++ c :: b ∧ c ∉ a ∧ Lib.cut s [c] = (a, b, true) := by
  unfold Lib.cut
  rcases index_one c s with ⟨h1, h2⟩ | ⟨a, b, h1, h2, h3⟩
  · exact .inl ⟨h1, by rw [h2, if_neg (by decide)]⟩
  · refine .inr ⟨a, b, h1, h2, ?_⟩
    rw [h3, if_pos (by omega)]
    subst h1
    simp
/-- the parts on both sides of a byte's first place are known -/
theorem split_one {c : UInt8} : ∀ {a a' b b' : List UInt8}, a ++ c :: b = a' ++ c :: b' → c ∉ a → c ∉ a' → a = a' ∧ b = b'
  | [], [], b, b', h, _, _ => by cases h; exact ⟨rfl, rfl⟩
  | [], x :: r, b, b', h, _, h2 => by injection h with h1 _; exact absurd (h1 ▸ List.mem_cons_self ..) h2
  | x :: r, [], b, b', h, h1, _ => by injection h with h2 _; exact absurd (h2 ▸ List.mem_cons_self ..) h1
  | x :: r, y :: r', b, b', h, h1, h2 => by
    injection h with h3 h4
    obtain ⟨e1, e2⟩ := split_one h4 (fun hm => h1 (List.mem_cons_of_mem _ hm)) (fun hm => h2 (List.mem_cons_of_mem _ hm))
    exact ⟨by rw [h3, e1], e2⟩
/-! ### Numbers there and back -/
theorem pu_app : ∀ (l : List UInt8) (acc a : Nat) (d : UInt8), Lib.parseUint10 acc l = .ok a → Lib.parseUint10 acc (l ++ [d]) = Lib.parseUint10 a [d]
  | [], acc, a, d, h => by simp only [Lib.parseUint10] at h; cases h; rfl
  | c :: r, acc, a, d, h => by
    simp only [Lib.parseUint10, List.cons_append] at h ⊢
    split at h
    · rename_i h1
      rw [if_pos h1]
      split at h
      · cases h
      · rename_i h2
        rw [if_neg h2]
        split at h
        · cases h
        · rename_i h3
          rw [if_neg h3]
          exact pu_app r _ a d h
    · cases h
theorem dig_toNat {u : Nat} (h : u < 10) : (UInt8.ofNat (48 + u)).toNat = 48 + u := by rw [UInt8.toNat_ofNat']; omega
theorem pu_dig {a u : Nat} (hu : u < 10) (h : a * 10 + u < 18446744073709551616) : Lib.parseUint10 a [UInt8.ofNat (48 + u)] = .ok (a * 10 + u) := by
  simp only [Lib.parseUint10, dig_toNat hu]
  rw [if_pos ⟨by omega, by omega⟩, if_neg (by omega), if_neg (by omega)]
  congr 1
  omega
theorem pu_dec (u : Nat) (hu : u < 18446744073709551616) : Lib.parseUint10 0 (Lib.decDigits u) = .ok u := by
  induction u using Nat.strongRecOn with
  | _ u ih =>
    by_cases h : u < 10
    · rw [Lib.decDigits, dif_pos h, pu_dig h (by omega)]; simp
    · rw [Lib.decDigits, dif_neg h, pu_app _ _ _ _ (ih (u / 10) (by omega) (by omega)), pu_dig (by omega) (by omega)]
      congr 1
      omega
theorem dec_digit : ∀ (u : Nat), ∀ x ∈ Lib.decDigits u, 48 ≤ x.toNat ∧ x.toNat ≤ 57 := by
  intro u
  induction u using Nat.strongRecOn with
  | _ u ih =>
    intro x hx
    by_cases h : u < 10
    · rw [Lib.decDigits, dif_pos h, List.mem_singleton] at hx
      rw [hx, dig_toNat h]; omega
    · rw [Lib.decDigits, dif_neg h] at hx
      rcases List.mem_append.1 hx with hx | hx
      · exact ih (u / 10) (by omega) x hx
      · rw [List.mem_singleton] at hx
        rw [hx, dig_toNat (by omega)]; omega
theorem dec_ne (u : Nat) : Lib.decDigits u ≠ [] := by
  by_cases h : u < 10
  · rw [Lib.decDigits, dif_pos h]; simp
  · rw [Lib.decDigits, dif_neg h]; simp
theorem atoi_itoa {n : Int} (h : InR n) : Lib.atoiAll (Lib.itoa n) = .ok n := by
  unfold InR at h
  unfold Lib.itoa
  by_cases hn : n < 0
  · rw [if_pos hn]
    unfold Lib.atoiAll
    have h45 : (45 : UInt8).toNat = 45 := rfl
    simp only [h45, true_or, or_true, if_true, Lib.parseMag, if_neg (dec_ne _), pu_dec n.natAbs (by omega), not_true_eq_false, false_and, if_false, true_and]
    rw [if_neg (by omega)]
    congr 1
    omega
  · rw [if_neg hn]
    cases hd : Lib.decDigits n.toNat with
    | nil => exact absurd hd (dec_ne _)
    | cons c r =>
      have hc := dec_digit n.toNat c (by rw [hd]; exact List.mem_cons_self ..)
      unfold Lib.atoiAll
      have h1 : ¬ c.toNat = 43 := by omega
      have h2 : ¬ c.toNat = 45 := by omega
      simp only [h1, h2, or_self, if_false, Lib.parseMag]
      rw [← hd, if_neg (dec_ne _), pu_dec n.toNat (by omega)]
      simp only [not_false_eq_true, true_and, false_and, if_false]
      rw [if_neg (by omega)]
      congr 1
      omega
theorem atoi_range {l : List UInt8} {v : Int} (h : Lib.atoiAll l = .ok v) : InR v := by
  unfold Lib.atoiAll at h
  split at h
  · cases h
  · rename_i c r
    simp only at h
    split at h
    · cases h
    · cases h
    · split at h
      · cases h
      · split at h
        · cases h
        · cases h
          unfold InR
          split <;> omega
theorem itoa_no32 (n : Int) : (32 : UInt8) ∉ Lib.itoa n := by
  intro hm
  unfold Lib.itoa at hm
  split at hm
  · rcases List.mem_cons.1 hm with h | h
    · cases h
    · have := (dec_digit _ _ h).1
      simp at this
  · have := (dec_digit _ _ hm).1
    simp at this
end Go.Proofs.YtcglmhpembonmaaDoor

namespace Go.Proofs.YtcglmhpembonmaaDoor
open Go Gv
set_option linter.unusedVariables false
set_option linter.unusedSimpArgs false
set_option maxRecDepth 100000
theorem line_split {c : T_api_Call} {ln : List UInt8} : lineL c = ln ++ [10] ↔ Lib.itoa c.f_Controller ++ 32 :: c.f_Data.flatMap hexL = ln := by
  have e : lineL c = (Lib.itoa c.f_Controller ++ 32 :: c.f_Data.flatMap hexL) ++ [10] := by unfold lineL; simp
  rw [e]
  exact ⟨fun h => List.append_cancel_right h, fun h => by rw [h]⟩
theorem cutM_eq {s : List UInt8} (h : s.length < 4294967281) (c : UInt8) : cutM ⟨s.toArray⟩ ⟨[c].toArray⟩ = some (⟨(Lib.cut s [c]).1.toArray⟩, ⟨(Lib.cut s [c]).2.1.toArray⟩, (Lib.cut s [c]).2.2) := by
  unfold cutM
  rw [ba_size, if_pos h]
theorem arr_beq (a b : List UInt8) : ((⟨a.toArray⟩ : ByteArray).data.toList == (⟨b.toArray⟩ : ByteArray).data.toList) = (a == b) := rfl
theorem callP_spec {ln : List UInt8} (hl : ln.length ≤ 2 ^ 30) : ∃ o, callP ⟨ln.toArray⟩ = some o ∧ (∀ c, o = some c → InR c.f_Controller ∧ lineL c = ln ++ [10] ∧ c.f_Data.length ≤ ln.length) ∧ (o = none → ∀ c, InR c.f_Controller → lineL c ≠ ln ++ [10]) := by
  unfold callP
  rw [show ByteArray.mk #[32] = ⟨[(32 : UInt8)].toArray⟩ from rfl, cutM_eq (by omega), Option.bind_some]
  rcases cut_one 32 ln with ⟨h1, h2⟩ | ⟨num, dat, h1, h2, h3⟩
  · rw [h2]
    refine ⟨none, rfl, (fun c h => by cases h), fun _ c hc he => ?_⟩
    rw [line_split] at he
    exact h1 (by rw [← he]; simp)
  · rw [h3]
    simp only [cond_true]
    have hln : ln.length = num.length + dat.length + 1 := by rw [h1]; simp; omega
    have key : ∀ c : T_api_Call, lineL c = ln ++ [10] → Lib.itoa c.f_Controller = num ∧ c.f_Data.flatMap hexL = dat := fun c he => by
      rw [line_split, h1] at he
      exact split_one he (itoa_no32 _) h2
    have ha : atoiM ⟨num.toArray⟩ = some (match Lib.atoiAll num with | .ok v => (v, true) | .range => (Lib.atoiSat num, false) | _ => (0, false)) := by
      unfold atoiM
      rw [ba_size, if_pos (by omega)]
      rfl
    rw [ha, Option.bind_some]
    have bad : ∀ e, Lib.atoiAll num = e → (∀ v, e ≠ .ok v) → ∀ c : T_api_Call, InR c.f_Controller → lineL c ≠ ln ++ [10] := fun e h4 h5 c hc he => by
      have := atoi_itoa hc
      rw [(key c he).1, h4] at this
      exact h5 _ this
    cases h4 : Lib.atoiAll num with
    | ok v =>
      have hv := atoi_range h4
      have hi : condM true true (itoaM v) = some ⟨(Lib.itoa v).toArray⟩ := by
        unfold condM itoaM
        rw [if_pos rfl, if_pos (by unfold InR at hv; exact hv)]
      simp only [hi, Option.bind_some, Bool.true_and, arr_beq]
      by_cases hn : Lib.itoa v = num
      · have e : (Lib.itoa v == num) = true := beq_iff_eq.2 hn
        rw [e, cond_true, bytesP_eq (by omega), Option.bind_some]
        cases hu : unhex dat with
        | none =>
          refine ⟨none, rfl, (fun c h => by cases h), fun _ c hc he => ?_⟩
          have := unhex_hexs c.f_Data
          rw [(key c he).2, hu] at this
          cases this
        | some d =>
          refine ⟨some ⟨v, d⟩, rfl, fun c h => ?_, (fun h => by cases h)⟩
          cases h
          refine ⟨hv, ?_, ?_⟩
          · rw [line_split, hexs_unhex _ _ hu, hn, h1]
          · have := unhex_len hu
            show d.length ≤ _
            omega
      · have e : (Lib.itoa v == num) = false := beq_eq_false_iff_ne.2 hn
        rw [e, cond_false]
        refine ⟨none, rfl, (fun c h => by cases h), fun _ c hc he => ?_⟩
        have h5 := atoi_itoa hc
        rw [(key c he).1, h4] at h5
        cases h5
        exact hn (key c he).1
    | _ => exact ⟨none, rfl, (fun c h => by cases h), fun _ => bad _ h4 (fun v h => by cases h)⟩
/-! ### The document's reading -/
theorem w64_range (x : Int) : InR (w64 x) := by
  unfold w64 InR
  rw [IntKind.wrap_i64]
  omega
def hx (b : BitVec 8) : BitVec 8 := if b ≥ 48#8 ∧ b ≤ 57#8 then b - 48#8 else if b ≥ 97#8 ∧ b ≤ 102#8 then (b - 97#8) + 10#8 else 0#8
theorem hex_eq (b : BitVec 8) : L_ref33_hex b = some (hx b) := by
  unfold L_ref33_hex hx
  by_cases h1 : b ≥ 48#8 <;> by_cases h2 : b ≤ 57#8 <;> by_cases h3 : b ≥ 97#8 <;> by_cases h4 : b ≤ 102#8 <;> simp [h1, h2, h3, h4]
def cst (m : Bool × Int) (a : UInt8) : Bool × Int := if u2b a = 45#8 then (true, m.2) else (m.1, w64 (w64 (10 * m.2) - ((hx (u2b a)).toNat : Int)))
def dec2 : List UInt8 → List (BitVec 8)
  | [] => []
  | [_] => []
  | a :: b :: r => ((hx (u2b a) <<< (4#64).toNat) ||| hx (u2b b)) :: dec2 r
/-- how far the number reaches -/
def numLen (l : List UInt8) : Nat := (l.takeWhile fun a => u2b a != 32#8).length
theorem numLen_le (l : List UInt8) : numLen l ≤ l.length := (List.takeWhile_sublist _).length_le
theorem numLen_at {l : List UInt8} : ∀ {k : Nat} (h : k < numLen l), ∃ h' : k < l.length, (u2b l[k] != 32#8) = true := fun {k} h => by
  have h' : k < l.length := Nat.lt_of_lt_of_le h (numLen_le l)
  refine ⟨h', ?_⟩
  have h1 : (l.takeWhile fun a => u2b a != 32#8)[k] = l[k] := by
    have := List.IsPrefix.getElem (List.takeWhile_prefix (p := fun a => u2b a != 32#8) (l := l)) h
    exact this
  have := List.all_takeWhile (p := fun a => u2b a != 32#8) (l := l)
  rw [List.all_eq_true] at this
  rw [← h1]
  exact this _ (List.getElem_mem h)
theorem numLen_end : ∀ {l : List UInt8} (h : numLen l < l.length), (u2b (l[numLen l]'h) != 32#8) = false
  | [], h => by simp at h
  | a :: r, h => by
    by_cases hc : (u2b a != 32#8) = true
    · have e : numLen (a :: r) = numLen r + 1 := by unfold numLen; rw [List.takeWhile_cons, if_pos hc]; rfl
      have h' : numLen r < r.length := by rw [e] at h; simpa using h
      have := numLen_end h'
      simpa [e] using this
    · have e : numLen (a :: r) = 0 := by unfold numLen; rw [List.takeWhile_cons, if_neg hc]; rfl
      simp only [Bool.not_eq_true] at hc
      simpa [e] using hc
def b2 (l : List UInt8) : Int × (List (BitVec 8)) × T_api_Call → Option ((Int × (List (BitVec 8)) × T_api_Call) ⊕ (Int × Bool × (List (BitVec 8)) × T_api_Call)) := fun s2 =>
      cond (decide ((w64 (s2.1 + 1)) < ((⟨l.toArray⟩ : ByteArray).size : Int))) (
        (strM ⟨l.toArray⟩ s2.1).bind fun y5 =>
        (L_ref33_hex y5).bind fun y6 =>
        (strM ⟨l.toArray⟩ (w64 (s2.1 + 1))).bind fun y7 =>
        (L_ref33_hex y7).bind fun y8 =>
        (appM 1 s2.2.1 [(y6 <<< (4#64).toNat) ||| y8]).bind fun y9 =>
        some (.inl (w64 (s2.1 + 2), y9, ({ s2.2.2 with f_Data := [] } : T_api_Call)))) (
        some (.inr (s2.1, decide ((w64 (s2.1 + 1)) < ((⟨l.toArray⟩ : ByteArray).size : Int)), s2.2.1, s2.2.2)))
theorem dec2_loop (l : List UInt8) (hl : l.length ≤ 2 ^ 40) (x : Int) : ∀ (rest : List UInt8) (p : Nat) (out : List (BitVec 8)) (N : Nat), l.drop p = rest → p ≤ l.length + 1 → rest.length < N → out.length ≤ p →
    ∃ i f, loopM N (b2 l) ((p : Int), out, (⟨x, []⟩ : T_api_Call)) = some (i, f, out ++ dec2 rest, (⟨x, []⟩ : T_api_Call))
  | rest, p, out, 0, e, hp, hN, ho => by omega
  | [], p, out, N + 1, e, hp, hN, ho => by
    have hlen : l.length ≤ p := List.drop_eq_nil_iff.1 e
    have h1 : decide ((w64 ((p : Int) + 1)) < ((⟨l.toArray⟩ : ByteArray).size : Int)) = false := decide_eq_false (by rw [w64_at (by omega), ba_size]; omega)
    refine ⟨p, false, ?_⟩
    have hb : b2 l ((p : Int), out, (⟨x, []⟩ : T_api_Call)) = some (.inr ((p : Int), false, out, (⟨x, []⟩ : T_api_Call))) := by
      unfold b2
      simp only [h1, cond_false]
    simp only [loopM, hb]
    simp [dec2]
  | [a], p, out, N + 1, e, hp, hN, ho => by
    have hlen : l.length - p = 1 := by rw [← List.length_drop, e]; rfl
    have h1 : decide ((w64 ((p : Int) + 1)) < ((⟨l.toArray⟩ : ByteArray).size : Int)) = false := decide_eq_false (by rw [w64_at (by omega), ba_size]; omega)
    refine ⟨p, false, ?_⟩
    have hb : b2 l ((p : Int), out, (⟨x, []⟩ : T_api_Call)) = some (.inr ((p : Int), false, out, (⟨x, []⟩ : T_api_Call))) := by
      unfold b2
      simp only [h1, cond_false]
    simp only [loopM, hb]
    simp [dec2]
  | a :: b :: r, p, out, N + 1, e, hp, hN, ho => by
    have hlen : l.length - p = r.length + 2 := by rw [← List.length_drop, e]; rfl
    have h1 : decide ((w64 ((p : Int) + 1)) < ((⟨l.toArray⟩ : ByteArray).size : Int)) = true := decide_eq_true (by rw [w64_at (by omega), ba_size]; omega)
    have ea : l[p]? = some a := by
      have := List.getElem?_drop (xs := l) (i := p) (j := 0)
      rw [e] at this
      exact this.symm
    have eb : l[p + 1]? = some b := by
      have := List.getElem?_drop (xs := l) (i := p) (j := 1)
      rw [e] at this
      exact this.symm
    have h2 : strM ⟨l.toArray⟩ (p : Int) = some (u2b a) := by
      rw [strM_at (by omega : p < l.length)]
      rw [List.getElem?_eq_getElem (by omega)] at ea
      rw [Option.some.inj ea]
    have h3 : strM ⟨l.toArray⟩ (w64 ((p : Int) + 1)) = some (u2b b) := by
      rw [w64_at (by omega), strM_at (by omega : p + 1 < l.length)]
      rw [List.getElem?_eq_getElem (by omega)] at eb
      rw [Option.some.inj eb]
    have h5 : w64 ((p : Int) + 2) = ((p + 2 : Nat) : Int) := by rw [w64_in (by omega) (by omega)]; omega
    have e2 : l.drop (p + 2) = r := by rw [← List.drop_drop, e]; rfl
    obtain ⟨i, f, ih⟩ := dec2_loop l hl x r (p + 2) (out ++ [(hx (u2b a) <<< (4#64).toNat) ||| hx (u2b b)]) N e2 (by omega) (by simp only [List.length_cons] at hN; omega) (by simp; omega)
    refine ⟨i, f, ?_⟩
    have hb : b2 l ((p : Int), out, (⟨x, []⟩ : T_api_Call)) = some (.inl (((p + 2 : Nat) : Int), out ++ [(hx (u2b a) <<< (4#64).toNat) ||| hx (u2b b)], (⟨x, []⟩ : T_api_Call))) := by
      unfold b2
      simp only [h1, cond_true, h2, h3, Option.bind_some, hex_eq]
      rw [appM1 (by simp; omega), Option.bind_some]
      simp only [h5]
    simp only [loopM, hb]
    rw [ih]
    simp [dec2]
/-- what the document's call returns -/
def qR (l : List UInt8) : Bool × Int := (l.take (numLen l)).foldl cst (false, 0)
def callR (l : List UInt8) : T_api_Call := ⟨cond (!(qR l).1) (w64 (0 - (qR l).2)) (qR l).2, dec2 (l.drop (numLen l + 1))⟩
theorem call_eq {l : List UInt8} (hl : l.length ≤ 2 ^ 40) : L_ref33_call ⟨l.toArray⟩ = some (callR l) := by
  have hnl := numLen_le l
  unfold L_ref33_call
  have hr := loop_eq (b := fun (s1 : Bool × Int × T_api_Call) =>
    (condM (decide (s1.2.1 < ((⟨l.toArray⟩ : ByteArray).size : Int))) true (strM ⟨l.toArray⟩ s1.2.1)).bind fun y1 =>
    cond ((decide (s1.2.1 < ((⟨l.toArray⟩ : ByteArray).size : Int))) && (y1 != (32#8))) (
      (strM ⟨l.toArray⟩ s1.2.1).bind fun y2 =>
      (cond (y2 == (45#8)) (
        some (true, s1.2.2)) (
        (strM ⟨l.toArray⟩ s1.2.1).bind fun y3 =>
        (L_ref33_hex y3).bind fun y4 =>
        (some (({ s1.2.2 with f_Controller := w64 ((w64 (10 * s1.2.2.f_Controller)) - (y4.toNat : Int)) } : T_api_Call))).bind fun z1 =>
        some (s1.1, z1))).bind fun m1 =>
      some (.inl (m1.1, w64 (s1.2.1 + 1), m1.2))) (
      some (.inr (s1.1, s1.2.1, (decide (s1.2.1 < ((⟨l.toArray⟩ : ByteArray).size : Int))) && (y1 != (32#8)), s1.2.2))))
    (e := ((qR l).1, (numLen l : Int), false, (⟨(qR l).2, []⟩ : T_api_Call)))
    (numLen l) (fun k => (((l.take k).foldl cst (false, 0)).1, (k : Int), (⟨((l.take k).foldl cst (false, 0)).2, []⟩ : T_api_Call))) (by omega) (fun k hk => by
      obtain ⟨h', hne⟩ := numLen_at hk
      have h1 : decide ((k : Int) < ((⟨l.toArray⟩ : ByteArray).size : Int)) = true := decide_eq_true (by rw [ba_size]; omega)
      have h2 : strM ⟨l.toArray⟩ (k : Int) = some (u2b l[k]) := strM_at h'
      have h3 : (l.take (k + 1)).foldl cst (false, 0) = cst ((l.take k).foldl cst (false, 0)) l[k] := by
        rw [List.take_succ_eq_append_getElem h', List.foldl_append]; rfl
      simp only [h1, h2, condM, if_pos, Option.bind_some, hne, Bool.and_self, cond_true, h3, w64_at (show k < 2 ^ 62 by omega), hex_eq]
      unfold cst
      by_cases h45 : u2b l[k] = 45#8
      · have e : (u2b l[k] == 45#8) = true := beq_iff_eq.2 h45
        rw [e, if_pos h45]
        rfl
      · have e : (u2b l[k] == 45#8) = false := beq_eq_false_iff_ne.2 h45
        rw [e, if_neg h45]
        rfl) (by
      by_cases hlt : numLen l < l.length
      · have h1 : decide ((numLen l : Int) < ((⟨l.toArray⟩ : ByteArray).size : Int)) = true := decide_eq_true (by rw [ba_size]; omega)
        have h2 : strM ⟨l.toArray⟩ (numLen l : Int) = some (u2b l[numLen l]) := strM_at hlt
        simp only [h1, h2, condM, if_pos, Option.bind_some, numLen_end hlt, Bool.and_false, cond_false]
        rfl
      · have h1 : decide ((numLen l : Int) < ((⟨l.toArray⟩ : ByteArray).size : Int)) = false := decide_eq_false (by rw [ba_size]; omega)
        simp only [h1, condM, Bool.false_eq_true, if_false, Option.bind_some, Bool.false_and, cond_false]
        rfl)
  simp only [List.take_zero, List.foldl_nil] at hr
  rw [show ((0 : Nat) : Int) = 0 from rfl] at hr
  rw [show (default : T_api_Call) = ⟨0, []⟩ from rfl, hr, Option.bind_some]
  have hm : (cond (!(qR l).1) (
      (some (({ (⟨(qR l).2, []⟩ : T_api_Call) with f_Controller := w64 (0 - (qR l).2) } : T_api_Call))).bind fun z2 => some z2) (
      some (⟨(qR l).2, []⟩ : T_api_Call))) = some (⟨(callR l).f_Controller, []⟩ : T_api_Call) := by
    unfold callR
    cases h : (qR l).1 <;> simp [h]
  rw [hm, Option.bind_some]
  obtain ⟨i, f, h2⟩ := dec2_loop l hl (callR l).f_Controller (l.drop (numLen l + 1)) (numLen l + 1) [] FUEL rfl (by omega) (by unfold FUEL; rw [List.length_drop]; omega) (by simp)
  unfold b2 at h2
  rw [show w64 ((numLen l : Int) + 1) = ((numLen l + 1 : Nat) : Int) from w64_at (by omega), h2, Option.bind_some]
  rfl
theorem fold_range : ∀ (l : List UInt8) (m : Bool × Int), InR m.2 → InR (l.foldl cst m).2
  | [], m, h => h
  | a :: r, m, h => by
    rw [List.foldl_cons]
    refine fold_range r _ ?_
    unfold cst
    split
    · exact h
    · exact w64_range _
theorem callR_range (l : List UInt8) : InR (callR l).f_Controller := by
  have h := fold_range (l.take (numLen l)) (false, 0) (by unfold InR; decide)
  show InR (cond (!(qR l).1) (w64 (0 - (qR l).2)) (qR l).2)
  cases (qR l).1
  · exact w64_range _
  · exact h
theorem dec2_len : ∀ l : List UInt8, (dec2 l).length ≤ l.length
  | [] => Nat.le_refl _
  | [_] => by simp [dec2]
  | a :: b :: r => by have := dec2_len r; simp [dec2]; omega
theorem callR_len (l : List UInt8) : (callR l).f_Data.length ≤ l.length := by
  have := dec2_len (l.drop (numLen l + 1))
  rw [List.length_drop] at this
  show (dec2 (l.drop (numLen l + 1))).length ≤ _
  omega
end Go.Proofs.YtcglmhpembonmaaDoor

namespace Go.Proofs.YtcglmhpembonmaaDoor
open Go Gv
set_option linter.unusedVariables false
set_option linter.unusedSimpArgs false
set_option maxRecDepth 100000
/-! ### The document's reading of a line gives the request back -/
theorem dig_hx {d : Nat} (h : d < 10) : (hx (u2b (UInt8.ofNat (48 + d)))).toNat = d ∧ u2b (UInt8.ofNat (48 + d)) ≠ 45#8 := by
  have : ∀ d : Fin 10, (hx (u2b (UInt8.ofNat (48 + d.val)))).toNat = d.val ∧ u2b (UInt8.ofNat (48 + d.val)) ≠ 45#8 := by decide +kernel
  exact this ⟨d, h⟩
theorem cst_dig {m : Bool} {x : Int} {d : Nat} (hd : d < 10) (h : -9223372036854775808 ≤ 10 * x - d) (hx0 : x ≤ 0) : cst (m, x) (UInt8.ofNat (48 + d)) = (m, 10 * x - d) := by
  obtain ⟨h1, h2⟩ := dig_hx hd
  unfold cst
  rw [if_neg h2, h1]
  simp only
  rw [w64_in (by omega : -9223372036854775808 ≤ 10 * x) (by omega), w64_in (by omega) (by omega)]
theorem fold_dec (m : Bool) (u : Nat) (hu : u ≤ 9223372036854775808) : (Lib.decDigits u).foldl cst (m, 0) = (m, -(u : Int)) := by
  induction u using Nat.strongRecOn with
  | _ u ih =>
    by_cases h : u < 10
    · rw [Lib.decDigits, dif_pos h, List.foldl_cons, List.foldl_nil, cst_dig h (by omega) (by omega)]
      congr 1
      omega
    · rw [Lib.decDigits, dif_neg h, List.foldl_append, ih (u / 10) (by omega) (by omega), List.foldl_cons, List.foldl_nil, cst_dig (by omega) (by omega) (by omega)]
      congr 1
      omega
theorem dec2_all : ((List.range 256).all fun n => ((hx (u2b (hexAt (BitVec.ofNat 8 n >>> (4#64).toNat).toNat)) <<< (4#64).toNat) ||| hx (u2b (hexAt (BitVec.ofNat 8 n &&& 15#8).toNat))) == BitVec.ofNat 8 n) = true := by decide +kernel
theorem dec2_byte (x : BitVec 8) : ((hx (u2b (hexAt (x >>> (4#64).toNat).toNat)) <<< (4#64).toNat) ||| hx (u2b (hexAt (x &&& 15#8).toNat))) = x := by
  have h := beq_iff_eq.1 (List.all_eq_true.1 dec2_all x.toNat (List.mem_range.2 x.isLt))
  rw [BitVec.ofNat_toNat, BitVec.setWidth_eq] at h
  exact h
theorem dec2_hexs : ∀ (d : List (BitVec 8)) (e : UInt8), dec2 (d.flatMap hexL ++ [e]) = d
  | [], e => rfl
  | x :: r, e => by
    have e1 : (x :: r).flatMap hexL ++ [e] = hexAt (x >>> (4#64).toNat).toNat :: hexAt (x &&& 15#8).toNat :: (r.flatMap hexL ++ [e]) := by simp [hexL]
    rw [e1]
    unfold dec2
    rw [dec2_byte, dec2_hexs r e]
theorem u2b_eq {a : UInt8} {n : Nat} (hn : n < 256) (h : u2b a = BitVec.ofNat 8 n) : a = UInt8.ofNat n := by
  rw [← b2u_u2b a, h]
  unfold b2u
  rw [BitVec.toNat_ofNat, Nat.mod_eq_of_lt (by omega)]
theorem take_while {p : UInt8 → Bool} {x : UInt8} : ∀ {a b : List UInt8}, (∀ y ∈ a, p y = true) → p x = false → (a ++ x :: b).takeWhile p = a
  | [], b, _, h => by simp [h]
  | y :: r, b, h1, h2 => by
    rw [List.cons_append, List.takeWhile_cons, if_pos (h1 y (List.mem_cons_self ..)), take_while (fun z hz => h1 z (List.mem_cons_of_mem _ hz)) h2]
theorem numLen_line (c : T_api_Call) : numLen (lineL c) = (Lib.itoa c.f_Controller).length := by
  unfold numLen lineL
  rw [take_while (fun y hy => ?_) (by decide)]
  rw [bne_iff_ne]
  intro h
  have := u2b_eq (n := 32) (by omega) h
  subst this
  exact itoa_no32 _ hy
theorem callR_line {c : T_api_Call} (h : InR c.f_Controller) : callR (lineL c) = c := by
  have h1 : (lineL c).take (numLen (lineL c)) = Lib.itoa c.f_Controller := by rw [numLen_line]; unfold lineL; simp
  have h2 : (lineL c).drop (numLen (lineL c) + 1) = c.f_Data.flatMap hexL ++ [10] := by
    rw [numLen_line]; unfold lineL
    rw [← List.drop_drop, List.drop_left]; rfl
  have h3 : (cond (!(qR (lineL c)).1) (w64 (0 - (qR (lineL c)).2)) (qR (lineL c)).2) = c.f_Controller := by
    unfold qR
    rw [h1]
    unfold InR at h
    unfold Lib.itoa
    by_cases hn : c.f_Controller < 0
    · rw [if_pos hn, List.foldl_cons]
      have : cst (false, 0) 45 = (true, 0) := by decide
      rw [this, fold_dec true _ (by omega)]
      simp only [Bool.not_true, cond_false]
      omega
    · rw [if_neg hn, fold_dec false _ (by omega)]
      simp only [Bool.not_false, cond_true]
      rw [w64_in (by omega) (by omega)]
      omega
  unfold callR
  rw [h2, dec2_hexs, h3]
/-! ### Lines in a text -/
theorem hex_no10 : ∀ d : List (BitVec 8), (10 : UInt8) ∉ d.flatMap hexL := by
  intro d hm
  obtain ⟨x, _, hx⟩ := List.mem_flatMap.1 hm
  have : ∀ i : Fin 16, hexAt i.val ≠ 10 := by decide
  unfold hexL at hx
  simp only [List.mem_cons, List.not_mem_nil, or_false] at hx
  rcases hx with h | h
  · exact this ⟨_, hi_lt x⟩ h.symm
  · exact this ⟨_, lo_lt x⟩ h.symm
theorem itoa_no10 (n : Int) : (10 : UInt8) ∉ Lib.itoa n := by
  intro hm
  unfold Lib.itoa at hm
  split at hm
  · rcases List.mem_cons.1 hm with h | h
    · cases h
    · have := (dec_digit _ _ h).1
      simp at this
  · have := (dec_digit _ _ hm).1
    simp at this
def bodyL (c : T_api_Call) : List UInt8 := Lib.itoa c.f_Controller ++ 32 :: c.f_Data.flatMap hexL
theorem line_body (c : T_api_Call) : lineL c = bodyL c ++ [10] := by unfold lineL bodyL; simp
theorem body_no10 (c : T_api_Call) : (10 : UInt8) ∉ bodyL c := by
  intro hm
  unfold bodyL at hm
  rcases List.mem_append.1 hm with h | h
  · exact itoa_no10 _ h
  · rcases List.mem_cons.1 h with h | h
    · cases h
    · exact hex_no10 _ h
theorem substr_eq {l : List UInt8} {a b : Nat} (hab : a ≤ b) (hb : b ≤ l.length) : substr ⟨l.toArray⟩ (a : Int) (b : Int) = some ⟨((l.drop a).take (b - a)).toArray⟩ := by
  unfold substr
  rw [if_pos ⟨by omega, by omega, by rw [ba_size]; omega⟩]
  congr 1
  apply ByteArray.ext
  rw [ByteArray.data_extract]
  apply Array.toList_inj.1
  rw [Array.toList_extract]
  simp [List.extract]
theorem nl_loop {s : List UInt8} {n : Nat} (hs : s.length ≤ 2 ^ 40) (hn : n ≤ s.length) (h1 : ∀ k (h : k < s.length), k < n → (u2b s[k] != 10#8) = true) (h2 : ∀ h : n < s.length, (u2b s[n] != 10#8) = false) :
    loopM (σ := Int) (ε := (Int × Bool)) FUEL (fun s2 =>
        (condM (decide (s2 < ((⟨s.toArray⟩ : ByteArray).size : Int))) true (strM ⟨s.toArray⟩ s2)).bind fun y1 =>
        cond ((decide (s2 < ((⟨s.toArray⟩ : ByteArray).size : Int))) && (y1 != (10#8))) (
          some (.inl (w64 (s2 + 1)))) (
          some (.inr (s2, (decide (s2 < ((⟨s.toArray⟩ : ByteArray).size : Int))) && (y1 != (10#8)))))) 0 = some ((n : Int), false) := by
  have hr := loop_eq (b := fun (s2 : Int) =>
        (condM (decide (s2 < ((⟨s.toArray⟩ : ByteArray).size : Int))) true (strM ⟨s.toArray⟩ s2)).bind fun y1 =>
        cond ((decide (s2 < ((⟨s.toArray⟩ : ByteArray).size : Int))) && (y1 != (10#8))) (
          some (.inl (w64 (s2 + 1)))) (
          some (.inr (s2, (decide (s2 < ((⟨s.toArray⟩ : ByteArray).size : Int))) && (y1 != (10#8)))))) (e := ((n : Int), false)) n (fun k => (k : Int)) (by omega) (fun k hk => by
      have hd : decide ((k : Int) < ((⟨s.toArray⟩ : ByteArray).size : Int)) = true := decide_eq_true (by rw [ba_size]; omega)
      have hm : strM ⟨s.toArray⟩ (k : Int) = some (u2b s[k]) := strM_at (by omega)
      simp only [hd, hm, condM, if_pos, Option.bind_some, h1 k (by omega) hk, Bool.and_self, cond_true, w64_at (show k < 2 ^ 62 by omega)]) (by
      by_cases hlt : n < s.length
      · have hd : decide ((n : Int) < ((⟨s.toArray⟩ : ByteArray).size : Int)) = true := decide_eq_true (by rw [ba_size]; omega)
        have hm : strM ⟨s.toArray⟩ (n : Int) = some (u2b s[n]) := strM_at hlt
        simp only [hd, hm, condM, if_pos, Option.bind_some, h2 hlt, Bool.and_false, cond_false]
      · have hd : decide ((n : Int) < ((⟨s.toArray⟩ : ByteArray).size : Int)) = false := decide_eq_false (by rw [ba_size]; omega)
        simp only [hd, condM, Bool.false_eq_true, if_false, Option.bind_some, Bool.false_and, cond_false])
  exact hr
theorem ne10 {a : UInt8} (h : a ≠ 10) : (u2b a != 10#8) = true := by
  rw [bne_iff_ne]
  exact fun e => h (u2b_eq (n := 10) (by omega) e)
/-- the program's step -/
def pS : ByteArray × Int × List T_api_Call → Option ((ByteArray × Int × List T_api_Call) ⊕ (List T_api_Call ⊕ Int)) := fun s1 =>
    cond (s1.1.data.toList != (ByteArray.mk #[]).data.toList) (
      (cutM s1.1 (ByteArray.mk #[10])).bind fun y1 =>
      cond y1.2.2 (
        (callP y1.1).bind fun o =>
        match o with
        | none => some (.inr (.inr s1.2.1))
        | some cl => (appM 32 s1.2.2 [cl]).bind fun l => some (.inl (y1.2.1, w64 (s1.2.1 + 1), l))) (
        some (.inr (.inr s1.2.1)))) (
      some (.inr (.inl s1.2.2)))
/-- the document's -/
def pR : ByteArray × (List T_api_Call) → Option ((ByteArray × (List T_api_Call)) ⊕ ((ByteArray × Bool × (List T_api_Call)) ⊕ (ByteArray × Int × Int × Int × Bool × Bool × Bool × (List T_api_Call)))) := fun s1 =>
    cond (decide ((s1.1.size : Int) > 0)) (
      (loopM (σ := Int) (ε := (Int × Bool)) FUEL (fun s2 =>
        (condM (decide (s2 < (s1.1.size : Int))) true (strM s1.1 s2)).bind fun y1 =>
        cond ((decide (s2 < (s1.1.size : Int))) && (y1 != (10#8))) (
          some (.inl (w64 (s2 + 1)))) (
          some (.inr (s2, (decide (s2 < (s1.1.size : Int))) && (y1 != (10#8)))))) 0).bind fun e2 =>
      (substr s1.1 0 (min (w64 (e2.1 + 1)) (s1.1.size : Int))).bind fun y2 =>
      (L_ref33_call y2).bind fun y3 =>
      (L_ref33_Line y3).bind fun y4 =>
      (substr s1.1 0 (min (w64 (e2.1 + 1)) (s1.1.size : Int))).bind fun y5 =>
      cond (y4.data.toList != y5.data.toList) (
        some (.inr (Sum.inr (s1.1, (s1.2.length : Int), 2, min (w64 (e2.1 + 1)) (s1.1.size : Int), decide ((s1.1.size : Int) > 0), e2.2, y4.data.toList != y5.data.toList, s1.2)))) (
        (appM 32 s1.2 [y3]).bind fun y6 =>
        (substr s1.1 (min (w64 (e2.1 + 1)) (s1.1.size : Int)) s1.1.size).bind fun y7 =>
        some (.inl (y7, y6)))) (
      some (.inr (Sum.inl (s1.1, decide ((s1.1.size : Int) > 0), s1.2))))
/-- the two ends are one -/
def Agree (r : List T_api_Call ⊕ Int) (e : (ByteArray × Bool × (List T_api_Call)) ⊕ (ByteArray × Int × Int × Int × Bool × Bool × Bool × (List T_api_Call))) : Prop :=
  match r, e with
  | .inl l, .inl x => x.2.2 = l
  | .inr k, .inr x => x.2.1 = k ∧ x.2.2.1 = 2
  | _, _ => False
theorem pS_nil {i : Int} {out : List T_api_Call} : pS (⟨([] : List UInt8).toArray⟩, i, out) = some (.inr (.inl out)) := rfl
theorem pR_nil {out : List T_api_Call} : pR (⟨([] : List UInt8).toArray⟩, out) = some (.inr (.inl (⟨([] : List UInt8).toArray⟩, false, out))) := rfl
theorem app32 {out : List T_api_Call} {c : T_api_Call} (h : out.length ≤ 2 ^ 31) : appM 32 out [c] = some (out ++ [c]) := by
  unfold appM
  rw [if_pos ⟨by simp; omega, by simp [maxLen]; omega⟩]
theorem pS_cut {s : List UInt8} (hs : s ≠ []) (hl : s.length ≤ 2 ^ 30) (i : Int) (out : List T_api_Call) : pS (⟨s.toArray⟩, i, out) =
    cond (Lib.cut s [10]).2.2 ((callP ⟨(Lib.cut s [10]).1.toArray⟩).bind fun o => match o with
        | none => some (.inr (.inr i))
        | some cl => (appM 32 out [cl]).bind fun l => some (.inl (⟨(Lib.cut s [10]).2.1.toArray⟩, w64 (i + 1), l))) (some (.inr (.inr i))) := by
  have h1 : ((⟨s.toArray⟩ : ByteArray).data.toList != (ByteArray.mk #[]).data.toList) = true := bne_iff_ne.2 hs
  unfold pS
  simp only [h1, cond_true]
  rw [show ByteArray.mk #[10] = ⟨[(10 : UInt8)].toArray⟩ from rfl, cutM_eq (by omega)]
  rfl
theorem pR_at {s : List UInt8} (hs : s ≠ []) (hl : s.length ≤ 2 ^ 30) (out : List T_api_Call) {n m : Nat} (hn : n ≤ s.length) (h1 : ∀ k (h : k < s.length), k < n → (u2b s[k] != 10#8) = true) (h2 : ∀ h : n < s.length, (u2b s[n] != 10#8) = false) (hm : min (n + 1) s.length = m)
    (ho : out.length ≤ 2 ^ 31) :
    (lineL (callR (s.take m)) = s.take m → pR (⟨s.toArray⟩, out) = some (.inl (⟨(s.drop m).toArray⟩, out ++ [callR (s.take m)]))) ∧
    (lineL (callR (s.take m)) ≠ s.take m → ∃ x, pR (⟨s.toArray⟩, out) = some (.inr (.inr x)) ∧ x.2.1 = (out.length : Int) ∧ x.2.2.1 = 2) := by
  have hpos : 0 < s.length := List.length_pos_iff.2 hs
  have hg : decide (((⟨s.toArray⟩ : ByteArray).size : Int) > 0) = true := decide_eq_true (by rw [ba_size]; omega)
  have hmin : min (w64 ((n : Int) + 1)) ((⟨s.toArray⟩ : ByteArray).size : Int) = (m : Int) := by rw [w64_at (by omega), ba_size]; omega
  have hlen : (s.take m).length ≤ 2 ^ 30 := by rw [List.length_take]; omega
  have hsub : substr ⟨s.toArray⟩ 0 (m : Int) = some ⟨(s.take m).toArray⟩ := by
    have := substr_eq (l := s) (a := 0) (b := m) (Nat.zero_le _) (by omega)
    simpa using this
  have hsub2 : substr ⟨s.toArray⟩ (m : Int) ((⟨s.toArray⟩ : ByteArray).size : Int) = some ⟨(s.drop m).toArray⟩ := by
    rw [ba_size, substr_eq (by omega) (Nat.le_refl _)]
    congr 3
    rw [List.take_of_length_le (by rw [List.length_drop]; omega)]
  have hcl := callR_len (s.take m)
  have hline := Line_eq (callR_range (s.take m)) (by omega)
  unfold pR
  simp only [hg, cond_true]
  rw [nl_loop (by omega) hn h1 h2]
  simp only [Option.bind_some, hmin, hsub, call_eq (show (s.take m).length ≤ 2 ^ 40 by omega), hline]
  refine ⟨fun he => ?_, fun he => ?_⟩
  · have : ((⟨(lineL (callR (s.take m))).toArray⟩ : ByteArray).data.toList != (⟨(s.take m).toArray⟩ : ByteArray).data.toList) = false := by
      rw [bne_eq_false_iff_eq]; exact he
    simp only [this, cond_false, app32 ho, Option.bind_some, hsub2]
  · have : ((⟨(lineL (callR (s.take m))).toArray⟩ : ByteArray).data.toList != (⟨(s.take m).toArray⟩ : ByteArray).data.toList) = true := bne_iff_ne.2 he
    simp only [this, cond_true]
    exact ⟨_, rfl, rfl, rfl⟩
theorem fmt_cons (c : T_api_Call) (r : List T_api_Call) : fmtL (c :: r) = bodyL c ++ 10 :: fmtL r := by
  unfold fmtL
  rw [List.flatMap_cons, line_body]
  simp
/-- both read a text alike; what they accept is the text of what they return -/
theorem par : ∀ (N : Nat) (s : List UInt8) (out : List T_api_Call), s.length < N → s.length ≤ 2 ^ 30 → out.length + s.length ≤ 2 ^ 31 →
    ∃ r e, loopM N pS (⟨s.toArray⟩, (out.length : Int), out) = some r ∧ loopM N pR (⟨s.toArray⟩, out) = some e ∧ Agree r e ∧
      (∀ l, r = .inl l → ∃ l2, l = out ++ l2 ∧ (∀ c ∈ l2, InR c.f_Controller) ∧ fmtL l2 = s) ∧ (∀ l2, (∀ c ∈ l2, InR c.f_Controller) → fmtL l2 = s → r = .inl (out ++ l2))
  | 0, s, out, h, _, _ => by omega
  | N + 1, [], out, h, hl, ho => by
    refine ⟨.inl out, .inl (⟨([] : List UInt8).toArray⟩, false, out), by simp only [loopM, pS_nil], by simp only [loopM, pR_nil], rfl, fun l hr => ⟨[], ?_, by simp, rfl⟩, fun l2 _ hf => ?_⟩
    · cases hr; simp
    · cases l2 with
      | nil => simp
      | cons c r =>
        rw [fmt_cons] at hf
        exact absurd hf (by simp)
  | N + 1, a0 :: s0, out, h, hl, ho => by
    generalize hs : a0 :: s0 = s at *
    have hne : s ≠ [] := by rw [← hs]; simp
    rcases cut_one 10 s with ⟨h1, h2⟩ | ⟨a, b, h1, h2, h3⟩
    · -- no line ends
      have hp := pS_cut hne hl (out.length : Int) out
      rw [h2] at hp
      simp only [cond_false] at hp
      have hr := (pR_at hne hl out (n := s.length) (m := s.length) (Nat.le_refl _) (fun k hk _ => ne10 (fun e => h1 (e ▸ List.getElem_mem hk))) (fun hk => absurd hk (Nat.lt_irrefl _)) (by omega) (by omega)).2
      rw [List.take_length] at hr
      obtain ⟨x, hx, hx1, hx2⟩ := hr fun he => h1 (by rw [← he, line_body]; simp)
      refine ⟨.inr (out.length : Int), .inr x, by simp only [loopM, hp], by simp only [loopM, hx], ⟨hx1, hx2⟩, (fun l hr => by cases hr), fun l2 _ hf => ?_⟩
      exfalso
      cases l2 with
      | nil => exact hne hf.symm
      | cons c r =>
        rw [fmt_cons] at hf
        exact h1 (by rw [← hf]; simp)
    · have hp := pS_cut hne hl (out.length : Int) out
      rw [h3] at hp
      simp only [cond_true] at hp
      have hlen : s.length = a.length + b.length + 1 := by rw [h1]; simp; omega
      obtain ⟨o, ho1, ho2, ho3⟩ := callP_spec (ln := a) (by omega)
      rw [ho1, Option.bind_some] at hp
      have hat : ∀ k (hk : k < s.length), k < a.length → (u2b s[k] != 10#8) = true := fun k hk hka => ne10 fun e => h2 (by
        have : s[k] = a[k] := by subst h1; exact List.getElem_append_left hka
        rw [← e, this]; exact List.getElem_mem hka)
      have hend : ∀ hk : a.length < s.length, (u2b s[a.length] != 10#8) = false := fun hk => by
        have : s[a.length] = 10 := by subst h1; simp
        rw [this]; decide
      have hr := pR_at hne hl out (n := a.length) (m := a.length + 1) (by omega) hat hend (by omega) (by omega)
      have htake : s.take (a.length + 1) = a ++ [10] := by rw [h1, List.take_append, List.take_of_length_le (by omega)]; simp
      have hdrop : s.drop (a.length + 1) = b := by rw [h1, ← List.drop_drop, List.drop_left]; rfl
      rw [htake, hdrop] at hr
      cases o with
      | none =>
        obtain ⟨x, hx, hx1, hx2⟩ := hr.2 (ho3 rfl _ (callR_range _))
        refine ⟨.inr (out.length : Int), .inr x, by simp only [loopM, hp], by simp only [loopM, hx], ⟨hx1, hx2⟩, (fun l hr => by cases hr), fun l2 hR hf => ?_⟩
        exfalso
        cases l2 with
        | nil => exact hne hf.symm
        | cons c r =>
          rw [fmt_cons, h1] at hf
          obtain ⟨e1, _⟩ := split_one hf (body_no10 c) h2
          exact ho3 rfl c (hR c (List.mem_cons_self ..)) (by rw [line_body, e1])
      | some c =>
        obtain ⟨hc1, hc2, hc3⟩ := ho2 c rfl
        have hcr : callR (a ++ [10]) = c := by rw [← hc2]; exact callR_line hc1
        have hr1 := hr.1 (by rw [hcr]; exact hc2)
        rw [hcr] at hr1
        simp only [app32 (show out.length ≤ 2 ^ 31 by omega), Option.bind_some] at hp
        have hw : w64 ((out.length : Int) + 1) = ((out ++ [c]).length : Int) := by rw [w64_at (by omega)]; simp
        rw [hw] at hp
        obtain ⟨r, e, g1, g2, g3, g4, g5⟩ := par N b (out ++ [c]) (by omega) (by omega) (by simp; omega)
        refine ⟨r, e, by simp only [loopM, hp]; exact g1, by simp only [loopM, hr1]; exact g2, g3, fun l hl2 => ?_, fun l2 hR hf => ?_⟩
        · obtain ⟨l2, k1, k2, k3⟩ := g4 l hl2
          refine ⟨c :: l2, by rw [k1]; simp, fun x hx => ?_, ?_⟩
          · rcases List.mem_cons.1 hx with rfl | hx
            · exact hc1
            · exact k2 x hx
          · have hb : bodyL c = a := by rw [line_body] at hc2; exact List.append_cancel_right hc2
            rw [fmt_cons, k3, hb, ← h1]
        · cases l2 with
          | nil => exact absurd hf.symm hne
          | cons c' r' =>
            rw [fmt_cons, h1] at hf
            obtain ⟨e1, e2⟩ := split_one hf (body_no10 c') h2
            have hc' : c' = c := by
              have := callR_line (hR c' (List.mem_cons_self ..))
              rw [line_body, e1, hcr] at this
              exact this.symm
            subst hc'
            rw [g5 r' (fun x hx => hR x (List.mem_cons_of_mem _ hx)) e2]
            simp
theorem fmt_ge (l : List T_api_Call) : l.length ≤ (fmtL l).length := by
  induction l with
  | nil => simp
  | cons c r ih =>
    rw [fmt_cons, List.length_append, List.length_cons, List.length_cons]
    omega
/-- what is read out of a text -/
theorem parse_spec {s : List UInt8} (hl : s.length ≤ 2 ^ 30) : ∃ r : List T_api_Call × Int × Int, L_script_Parse ⟨s.toArray⟩ = some r ∧ L_ref33_Parse ⟨s.toArray⟩ = some r ∧
    (r.2.2 = 0 ∨ r.2.2 = 2) ∧ (r.2.2 = 0 → (∀ c ∈ r.1, InR c.f_Controller) ∧ fmtL r.1 = s) ∧ (∀ l, (∀ c ∈ l, InR c.f_Controller) → fmtL l = s → r = (l, 0, 0)) ∧ r.1.length ≤ s.length := by
  obtain ⟨r, e, h1, h2, h3, h4, h5⟩ := par FUEL s [] (by unfold FUEL; omega) hl (by simp; omega)
  have k1 : linesP ⟨s.toArray⟩ = some r := h1
  have k2 : L_ref33_Parse ⟨s.toArray⟩ = (some e).bind fun e1 => Sum.elim (fun e1 => some (e1.2.2, 0, 0)) (fun e1 => some (([] : List T_api_Call), e1.2.1, e1.2.2.1)) e1 := by
    rw [← h2]; rfl
  rw [Option.bind_some] at k2
  unfold L_script_Parse linesM
  rw [k1, Option.map_some, Option.bind_some]
  cases r with
  | inl l =>
    cases e with
    | inr x => exact h3.elim
    | inl x =>
      have h3 : x.2.2 = l := h3
      obtain ⟨l2, e1, e2, e3⟩ := h4 l rfl
      rw [List.nil_append] at e1
      subst e1
      refine ⟨(l, 0, 0), rfl, by rw [k2]; simp [h3], .inl rfl, fun _ => ⟨e2, e3⟩, fun l' hR hf => ?_, by rw [← e3]; exact fmt_ge l⟩
      have := h5 l' hR hf
      simp at this
      rw [this]
  | inr k =>
    cases e with
    | inl x => exact h3.elim
    | inr x =>
      have h3 : x.2.1 = k ∧ x.2.2.1 = 2 := h3
      refine ⟨([], k, 2), rfl, by rw [k2]; simp [h3.1, h3.2], .inr rfl, (fun h => by cases h), fun l' hR hf => ?_, Nat.zero_le _⟩
      have := h5 l' hR hf
      cases this
end Go.Proofs.YtcglmhpembonmaaDoor

namespace Go.Proofs.YtcglmhpembonmaaDoor
open Go Gv
set_option linter.unusedVariables false
set_option linter.unusedSimpArgs false
set_option maxRecDepth 100000
theorem Same_refl {l : List T_api_Call} (hl : l.length < 2 ^ 40) : L_ref33_Same l l = some true := by
  unfold L_ref33_Same
  have h0 : ((l.length : Int) != (l.length : Int)) = false := by simp
  rw [h0, cond_false]
  have hr := loop_eq (b := fun (s1 : Int) =>
      cond (decide (s1 < (l.length : Int))) (
        (idx l.length s1).bind fun k1 =>
        (idx l.length s1).bind fun k2 =>
        (condM (((lget l k1).f_Controller) != ((lget l k2).f_Controller)) false (idx l.length s1)).bind fun k3 =>
        (condM (((lget l k1).f_Controller) != ((lget l k2).f_Controller)) false (idx l.length s1)).bind fun k4 =>
        (some ((((lget l k1).f_Controller) != ((lget l k2).f_Controller)) || ((strOf ((lget l k3).f_Data)).data.toList != (strOf ((lget l k4).f_Data)).data.toList))).bind fun z1 =>
        cond z1 (
          some (.inr (Sum.inr (s1, s1, decide (s1 < (l.length : Int)), z1)))) (
          some (.inl (w64 (s1 + 1))))) (
        some (.inr (Sum.inl (s1, decide (s1 < (l.length : Int))))))) (e := (Sum.inl ((l.length : Int), false) : (Int × Bool) ⊕ (Int × Int × Bool × Bool))) l.length (fun k => (k : Int)) (by omega) (fun k hk => by
      have hd : decide ((k : Int) < (l.length : Int)) = true := decide_eq_true (by omega)
      have hc : ((lget l k).f_Controller != (lget l k).f_Controller) = false := by simp
      have hs : ((strOf ((lget l k).f_Data)).data.toList != (strOf ((lget l k).f_Data)).data.toList) = false := by simp
      simp only [hd, cond_true, idx_at hk, Option.bind_some, hc, condM, if_pos, hs, Bool.or_self, cond_false, w64_at (show k < 2 ^ 62 by omega)]) (by
      have hd : decide ((l.length : Int) < (l.length : Int)) = false := decide_eq_false (by omega)
      simp only [hd, cond_false])
  rw [show ((0 : Nat) : Int) = 0 from rfl] at hr
  rw [hr]
  rfl
theorem fmt_len {l : List T_api_Call} (h : ∀ c ∈ l, InR c.f_Controller ∧ c.f_Data.length ≤ 30) : (fmtL l).length ≤ 82 * l.length := by
  induction l with
  | nil => simp [fmtL]
  | cons c r ih =>
    have e : fmtL (c :: r) = lineL c ++ fmtL r := by simp [fmtL]
    have h1 := h c (List.mem_cons_self ..)
    have h2 := itoa_short h1.1
    have h3 := ih (fun x hx => h x (List.mem_cons_of_mem _ hx))
    rw [e, List.length_append, lineL_len, List.length_cons]
    omega
def cutD (c : T_api_Call) : T_api_Call := { c with f_Data := c.f_Data.take 30 }
theorem slice_min {α : Type} {l : List α} {n : Nat} : sliceM l 0 (min (l.length : Int) (n : Int)) = some (l.take n) := by
  unfold sliceM
  rw [if_pos (by omega)]
  congr 1
  rw [show ((0 : Int).toNat) = 0 from rfl, List.drop_zero, Nat.sub_zero]
  have e : (min (l.length : Int) (n : Int)).toNat = min l.length n := by omega
  rw [e]
  rcases Nat.le_total l.length n with h | h
  · rw [Nat.min_eq_left h, List.take_of_length_le (Nat.le_refl _), List.take_of_length_le h]
  · rw [Nat.min_eq_right h]
theorem lget_mid {α : Type} [Inhabited α] {A C : List α} {b : α} {k : Nat} (h : A.length = k) : lget (A ++ b :: C) k = b := by
  subst h
  simp [lget]
theorem lset_mid {α : Type} {A C : List α} {b v : α} {k : Nat} (h : A.length = k) : lset (A ++ b :: C) k v = A ++ v :: C := by
  subst h
  simp [lset]
/-- the first eight, with thirty bytes each -/
theorem short_ok {x0 : List T_api_Call} (h : ∀ c ∈ x0, InR c.f_Controller) : ∃ y, L_law33_short x0 = some y ∧ y.length ≤ 8 ∧ ∀ c ∈ y, InR c.f_Controller ∧ c.f_Data.length ≤ 30 := by
  have h8 : (x0.take 8).length ≤ 8 := List.length_take_le _ _
  have hx : ∀ c ∈ x0.take 8, InR c.f_Controller := fun c hc => h c (List.mem_of_mem_take hc)
  generalize hy : x0.take 8 = y at *
  have s1 : sliceM x0 0 (min (x0.length : Int) 8) = some y := by rw [← hy]; exact slice_min (n := 8)
  have s2 : appM 32 ([] : List T_api_Call) y = some y := by
    unfold appM
    rw [if_pos ⟨by simp; omega, by simp [maxLen]; omega⟩]
    rfl
  refine ⟨y.map cutD, ?_, by simpa using h8, fun c hc => ?_⟩
  · unfold L_law33_short
    rw [s1, Option.bind_some, s2, Option.bind_some]
    have hr := loop_eq (b := fun (s1 : Int × (List T_api_Call)) =>
      cond (decide (s1.1 < (y.length : Int))) (
        (idx s1.2.length s1.1).bind fun k1 =>
        (idx s1.2.length s1.1).bind fun k2 =>
        (sliceM ((lget s1.2 k1).f_Data) 0 (min (((lget s1.2 k2).f_Data).length : Int) 30)).bind fun y3 =>
        (idx s1.2.length s1.1).bind fun k3 =>
        some (.inl (w64 (s1.1 + 1), lset s1.2 k3 ({ (lget s1.2 k3) with f_Data := y3 } : T_api_Call)))) (
        some (.inr (s1.1, decide (s1.1 < (y.length : Int)), s1.2)))) (e := ((y.length : Int), false, y.map cutD)) y.length (fun k => ((k : Int), (y.take k).map cutD ++ y.drop k)) (by omega) (fun k hk => by
        have hd : decide ((k : Int) < (y.length : Int)) = true := decide_eq_true (by omega)
        have hA : ((y.take k).map cutD).length = k := by rw [List.length_map, List.length_take]; omega
        have e1 : y.drop k = y[k] :: y.drop (k + 1) := List.drop_eq_getElem_cons hk
        have hlen : ((y.take k).map cutD ++ y[k] :: y.drop (k + 1)).length = y.length := by rw [← e1, List.length_append, hA, List.length_drop]; omega
        have hi : idx y.length (k : Int) = some k := idx_at hk
        simp only [hd, cond_true, e1, hlen, hi, Option.bind_some, lget_mid hA, lset_mid hA]
        rw [show sliceM y[k].f_Data 0 (min (y[k].f_Data.length : Int) 30) = some (y[k].f_Data.take 30) from slice_min (n := 30), Option.bind_some, w64_at (show k < 2 ^ 62 by omega), List.take_succ_eq_append_getElem hk, List.map_append]
        simp [cutD]) (by
        have hd : decide ((y.length : Int) < (y.length : Int)) = false := decide_eq_false (by omega)
        simp only [hd, cond_false, List.take_length, List.drop_length, List.append_nil])
    simp only [List.take_zero, List.map_nil, List.nil_append, List.drop_zero] at hr
    rw [show ((0 : Nat) : Int) = 0 from rfl] at hr
    rw [hr]
    rfl
  · obtain ⟨c', hc', rfl⟩ := List.mem_map.1 hc
    exact ⟨hx c' hc', List.length_take_le _ _⟩
theorem begun_ok : L_law33_begun = some true := by
  unfold L_law33_begun
  have h3 : Lib.itoa 3 = [51] := by
    unfold Lib.itoa
    rw [if_neg (by decide), Lib.decDigits, dif_pos (by decide)]
    rfl
  have e : fmtL [(⟨3, [2#8]⟩ : T_api_Call)] = [51, 32, 48, 50, 10] := by
    show (lineL ⟨3, [2#8]⟩ ++ []) = _
    unfold lineL
    rw [show (⟨3, [2#8]⟩ : T_api_Call).f_Controller = 3 from rfl, h3]
    decide
  rw [Option.bind_some, Format_eq (fun c hc => by rw [List.mem_singleton.1 hc]; unfold InR; decide) (by rw [e]; decide), Option.bind_some, e]
  rfl
theorem take_sub {s : List UInt8} {n : Nat} : substr ⟨s.toArray⟩ 0 (min ((⟨s.toArray⟩ : ByteArray).size : Int) (n : Int)) = some ⟨(s.take n).toArray⟩ := by
  have h := substr_eq (l := s) (a := 0) (b := min s.length n) (Nat.zero_le _) (Nat.min_le_left _ _)
  have e : (min ((⟨s.toArray⟩ : ByteArray).size : Int) (n : Int)) = ((min s.length n : Nat) : Int) := by rw [ba_size]; omega
  rw [e]
  have e2 : (List.take (min s.length n - 0) (List.drop 0 s)) = s.take n := by
    rw [List.drop_zero, Nat.sub_zero]
    rcases Nat.le_total s.length n with h | h
    · rw [Nat.min_eq_left h, List.take_of_length_le (Nat.le_refl _), List.take_of_length_le h]
    · rw [Nat.min_eq_right h]
  rw [e2] at h
  exact h
theorem back_ok {x0 : List T_api_Call} {x1 : ByteArray} (h : ∀ c ∈ x0, InR c.f_Controller) : L_law33_ScriptBack x0 x1 = some true := by
  obtain ⟨y, h1, h2, h3⟩ := short_ok h
  have hfl := fmt_len h3
  have hR : ∀ c ∈ y, InR c.f_Controller := fun c hc => (h3 c hc).1
  obtain ⟨s, rfl⟩ : ∃ s : List UInt8, x1 = ⟨s.toArray⟩ := ⟨x1.data.toList, ba_eta x1⟩
  have ht : (s.take 100).length ≤ 100 := List.length_take_le _ _
  obtain ⟨r, p1, _, _, _, p5, p6⟩ := parse_spec (s := fmtL y) (by omega)
  have hr : r = (y, 0, 0) := p5 y hR rfl
  subst hr
  obtain ⟨q, q1, _, q3, q4, _, q6⟩ := parse_spec (s := s.take 100) (by omega)
  have t100 : substr ⟨s.toArray⟩ 0 (min ((⟨s.toArray⟩ : ByteArray).size : Int) 100) = some ⟨(s.take 100).toArray⟩ := take_sub (n := 100)
  unfold L_law33_ScriptBack
  rw [h1, Option.bind_some, Format_eq hR (by omega), Option.bind_some, p1, Option.bind_some, t100, Option.bind_some, q1, Option.bind_some]
  have c1 : condM ((((y, 0, 0) : List T_api_Call × Int × Int).2.2) == 0) true (L_ref33_Same ((y, 0, 0) : List T_api_Call × Int × Int).1 y) = some true := by
    show condM ((0 : Int) == 0) true (L_ref33_Same y y) = some true
    unfold condM
    rw [if_pos (by decide), Same_refl (by omega)]
  rw [c1, Option.bind_some]
  simp only [BEq.rfl, Bool.and_self, true_and]
  rcases q3 with hq | hq
  · obtain ⟨k1, k2⟩ := q4 hq
    have hdec : decide ((q.2.2 != 0) = false) = true := decide_eq_true (by rw [hq]; rfl)
    simp only [hdec, condM, if_pos]
    rw [Format_eq k1 (by rw [k2]; omega), Option.bind_some, Option.bind_some, Option.bind_some]
    have : (((q.2.2 != 0) || ((⟨(fmtL q.1).toArray⟩ : ByteArray).data.toList == (⟨(s.take 100).toArray⟩ : ByteArray).data.toList))) = true := by
      rw [k2]; simp
    rw [this]
    simp only [if_pos, begun_ok, Option.bind_some]
    rfl
  · have hdec : decide ((q.2.2 != 0) = false) = false := decide_eq_false (by rw [hq]; decide)
    simp only [hdec, condM, Bool.false_eq_true, if_false, Option.bind_some]
    have : (q.2.2 != 0) = true := by rw [hq]; rfl
    simp only [this, Bool.true_or, if_pos, begun_ok, Option.bind_some]
    rfl
end Go.Proofs.YtcglmhpembonmaaDoor

