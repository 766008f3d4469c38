/-
  The library of the decompiler, as far as it is needed here. Conditions: none.
-/
import Derived.Lib.ConvBytes
import Derived.Laws.Externs
import Derived.RecoverIn
import Derived.Laws.Pointers
import Derived.Laws.Concat
import Derived.Test.YtcglmhpembonmaaDoorKl1
namespace Gv
open Go
set_option linter.unusedVariables false
set_option linter.unusedSimpArgs false

/-- a part of a string; none: out of range -/
def substr (s : ByteArray) (lo hi : Int) : Option ByteArray := if 0 ≤ lo ∧ lo ≤ hi ∧ hi ≤ s.size then some (s.extract lo.toNat hi.toNat) else none
section
variable {c : Cx} {E : List (Nat × VP)} {L : List Ent} {ops : Array Oper} {Q : Exit → Act → World → Prop}
variable {d : Option Tmp} {ty : TypeId} {pos : String} {af : Array Edge} {g : Option (Nat × Bool)} {x y : Operand} {t t2 : TypeId}
theorem r_slcS {s0 r : ByteArray} {lo hi : Option Operand} {i j : Int} (hu : c.P.underlying t = some .string) (hx : Look c E L x (.of s0)) (hlo : Bd c E L lo i 0) (hhi : Bd c E L hi j s0.size)
    (h : substr s0 i j = some r) : HR c E L ⟨d, .slice t x lo hi none, ty, pos, af, g⟩ (.of r) := .pure fun a W s => by
  unfold substr at h
  split at h
  case isFalse => cases h
  rename_i hc
  cases h
  obtain ⟨m, n, rfl, rfl⟩ : ∃ m n : Nat, i = m ∧ j = n := ⟨i.toNat, j.toNat, by omega, by omega⟩
  have hmn : m ≤ n := by omega
  have hn : n ≤ s0.size := by omega
  have hL : ∀ v, v = Value.int .i64 m → (Instr.sliceBound v n .sliceB).run c.P W = .ok m W := fun v hv => run_sliceB hmn hv
  have hH : ∀ v, v = Value.int .i64 n → (Instr.sliceBound v s0.size .sliceAlen).run c.P W = .ok n W := fun v hv => run_sliceB hn hv
  refine ⟨.string (s0.extract m n), ?_, of_str.2 (by simp)⟩
  have hx' := of_str.1 (hx a W s)
  generalize hin : (n : Int) = nI at hhi
  generalize him : (m : Int) = mI at hlo
  generalize hxl : (s0.size : Int) = xl at hhi
  generalize hzz : (0 : Int) = zz at hlo
  cases hlo with
  | none =>
    have hm0 : m = 0 := by omega
    subst hm0
    cases hhi with
    | none =>
      have hnx : n = s0.size := by omega
      subst hnx
      simp [execOp, Instr.sliceAt, Instr.slice, Instr.sliceBounds, hx', run_underlying hu]
    | some h2 =>
      have h4 := hH _ ((of_int.1 (h2 a W s)).trans (by rw [hin]))
      simp [execOp, Instr.sliceAt, Instr.slice, Instr.sliceBounds, hx', run_underlying hu, h4]
  | some h1 =>
    cases hhi with
    | none =>
      have hnx : n = s0.size := by omega
      subst hnx
      have h3 := hL _ ((of_int.1 (h1 a W s)).trans (by rw [him]))
      simp [execOp, Instr.sliceAt, Instr.slice, Instr.sliceBounds, hx', run_underlying hu, h3]
    | some h2 =>
      have h3 := hL _ ((of_int.1 (h1 a W s)).trans (by rw [him]))
      have h4 := hH _ ((of_int.1 (h2 a W s)).trans (by rw [hin]))
      simp [execOp, Instr.sliceAt, Instr.slice, Instr.sliceBounds, hx', run_underlying hu, h3, h4]
/-- the bytes of a string -/
def bytesOf (s : ByteArray) : List (BitVec 8) := s.data.toList.map fun b => BitVec.ofNat 8 b.toNat
/-- a string as bytes; none: more than memory bears -/
def strB (s : ByteArray) : Option (List (BitVec 8)) := if s.size ≤ maxLen then some (bytesOf s) else none
end
/-- a deferred function that does nothing at a plain end (it recovers a panic, and there is none) -/
def Idle (P : Program) (f : FuncId) (us : List Value) : Prop := ∀ W, CallsDIn Fence.wide 8 P f us.toArray .returning W fun e u' W' => e = .returned (.tuple #[]) ∧ u' = .returning ∧ W' = W
theorem To.endR {c : Cx} {E : List (Nat × VP)} {L : List Ent} {fn : Func} {R : Ending → World → Prop} {f : FuncId} {us : List Value} (hds : c.ds = [dfn f us]) (en : En c.P f)
    (h : Idle c.P f us) (k : To { c with ds := [] } (bodyPost c.P fn R) .ret E L) : To c (bodyPostM Fence.wide 9 c.P fn R) .ret E L := fun a W s => by
  show LeavesInM Fence.wide 9 c.P fn a.tmps R a.defers .returning W
  rw [s.defers, hds]
  refine ⟨by simp, .inr ⟨(fun h => by cases h), Fn.func f, us.toArray, f, us.toArray, rfl, ?_, fun _ _ => trivial, ?_⟩⟩
  · simp [dfn, invoke, en.run]
  · refine (h W).mono fun e u' W' ⟨he, hu, hw⟩ => ?_
    subst he hu hw
    have s3 : St { c with ds := [] } E L { a with defers := [] } W' :=
      { defers := rfl, size := s.size, env := s.env, fr := s.fr, own := s.own, nodup := s.nodup, lt := s.lt, mine := s.mine, old := s.old }
    obtain ⟨_, v', h5, h6⟩ := k _ _ s3
    exact ⟨v', h5, h6⟩
/-- a method of an interface that touches nothing -/
structure MeetsF (P : Program) (name : String) (τ : VP) (τs : List VP) (ρ : VP) : Prop where
  go : ∀ (A : List Nat) (W : World) (u : Value) (vs : List Value), (∀ k ∈ A, k < W.heap.size) → HoldsAll A W (τ :: τs) (u :: vs) →
    ∃ f v, (∀ args, (callMethod u name args).run P W = .ok (.enter f (#[v] ++ args)) W) ∧ Calls P f (v :: vs).toArray W fun e W' => ∃ v, e = .returned v ∧ Fr [] W W' ∧ ρ.holds A W' v
theorem MeetsF.of {P : Program} {name : String} {t : TypeId} {f : FuncId} {τ σ ρ : VP} {τs : List VP} (mt : Mt P t name f) (hτ : ∀ A W u, τ.holds A W u → ∃ v, u = .iface t v ∧ σ.holds A W v) (h : Meets P f (σ :: τs) ρ) : MeetsF P name τ τs ρ where
  go A W u vs h1 h5 := by
    cases h5 with
    | cons h6 h7 =>
      obtain ⟨v, rfl, h8⟩ := hτ _ _ _ h6
      exact ⟨f, v, fun args => mt.run v W args, h A W (v :: vs) h1 (.cons h8 h7)⟩
section
variable {c : Cx} {E : List (Nat × VP)} {L : List Ent} {d : Option Tmp} {ty : TypeId} {pos : String} {af : Array Edge} {g : Option (Nat × Bool)} {x : Operand}
theorem HS.clo {f : FuncId} {fo : Operand} {xs : List Operand} {ats : Array TypeId} {τs τcs : List VP} {Lin : List Ent} {ρ : Unit → VP} {Lo : Unit → List Ent} (is : List Nat) (en : En c.P f) (hf : Look c E L fo (.clo f τcs)) (h : MeetsO c.P f (τs ++ τcs) Lin ρ Lo)
    (hx : Looks c E L xs τs) (hn : decide is.Nodup = true) (hp : Pick L is Lin) (hl : Lo () = Lin) : HS c E L ⟨d, .call ⟨.value fo, xs.toArray, ats⟩, ty, pos, af, g⟩ (ρ ()) := fun a W s => by
  obtain ⟨R, hR⟩ := hp.perm (of_decide_eq_true hn)
  have hkp := ks_perm hR
  have ho := OpS.clo (d := d) (ty := ty) (pos := pos) (af := af) (g := g) (ats := ats) (L := Lin ++ R) (Lr := R) Lin.length en (hf.perm hR) h (List.take_left' rfl) (List.drop_left' rfl) (hx.perm hR) a W (s.perm hR)
  unfold OpTo at ho ⊢
  refine Oper.wp_mono (fun a' W' ⟨v, h1, dd, h2, h3⟩ => ⟨v, h1, ?_, ?_⟩) ho
  · cases dd; have hl' : Lo PUnit.unit = Lin := hl; simp only [hl'] at h2; exact h2.perm hR.symm
  · cases dd
    have hl' : Lo PUnit.unit = Lin := hl
    simp only [hl'] at h3
    exact VP.mono _ (.drop fun k hm => by
      simp only [List.mem_append] at hm ⊢
      rwa [← hkp.mem_iff]) h3
end
/-- a function that leaves blocks behind which nobody asks for -/
theorem MeetsO.flat {P : Program} {f : FuncId} {τs : List VP} {δ : Type} {ρ : δ → VP} {Lo : δ → List Ent} {σ : VP} (h : MeetsO P f τs [] ρ Lo) (hs : ∀ d, ρ d = σ) : Meets P f τs σ := fun A W vs hA hv =>
  (h A W vs (fun k hk => ⟨hA k hk, fun h => by cases h⟩) .nil (fun k hk => by cases hk) (fun e he => by cases he) hv).mono fun e W' ⟨v, d, he, hf, _, _, _, h4⟩ => ⟨v, he, hf, by
    rw [hs d] at h4
    exact VP.mono _ (.drop fun k hm => List.mem_append.2 (.inr hm)) h4⟩
end Gv

namespace Gv
open Go
set_option linter.unusedVariables false
set_option linter.unusedSimpArgs false

/-- what a call leaves behind that ends in a panic with the value u -/
def PostX (X A0 : List Nat) (W0 : World) {δ : Type} (u : Value) (Lo : δ → List Ent) : Ending → World → Prop := fun e W' =>
  ∃ d, e = .panicked [{ v := u, recovered := false }] ∧ Fr X W0 W' ∧ (ks (Lo d)).Nodup ∧ (∀ k ∈ ks (Lo d), k < W'.heap.size ∧ (k < W0.heap.size → k ∈ X) ∧ k ∉ A0) ∧ (∀ e ∈ Lo d, e.ok (ks (Lo d) ++ A0) W')

/-- the function f, called with values that are as τs say and with the blocks of Lin, panics with u and leaves the blocks of Lo -/
def Panics (P : Program) (f : FuncId) (τs : List VP) (Lin : List Ent) (u : Value) {δ : Type} (Lo : δ → List Ent) : Prop :=
  ∀ (A : List Nat) (W : World) (vs : List Value), (∀ k ∈ A, k < W.heap.size ∧ k ∉ ks Lin) → (ks Lin).Nodup → (∀ k ∈ ks Lin, k < W.heap.size) → (∀ e ∈ Lin, e.ok (ks Lin ++ A) W) → HoldsAll (ks Lin ++ A) W τs vs →
    Calls P f vs.toArray W (PostX (ks Lin) A W u Lo)

theorem Panics.of {P : Program} {f : FuncId} {fn : Func} {code : Code} {n : Nat} {τs : List VP} {Lin : List Ent} {δ : Type} {u : Value} {Lo : δ → List Ent} (hf : P.funcs[f]? = some fn) (hb : fn.body = some code) (hn : fn.ntmps = n) (hlen : Nat.ble τs.length n = true)
    (h : ∀ W A, Wp ⟨P, n, W, ks Lin, A, none, []⟩ (bodyPost P fn (PostX (ks Lin) A W u Lo)) code (params 0 τs) Lin) : Panics P f τs Lin u Lo := by
  intro A W vs hA hnd hlt hok hv
  refine calls_of_wp hf hb (wpIn_wide.1 (h W A _ _ ?_))
  have hl := hv.length
  have hle : τs.length ≤ n := Nat.le_of_ble_eq_true hlen
  exact
  { defers := rfl
    size := by simp [hn, hl]; omega
    env := fun t τ hl' => by
      obtain ⟨_, v, h2, h3⟩ := look_params hv 0 t τ hl'
      refine ⟨v, ?_, h3⟩
      have hlt : t < vs.length := (List.getElem?_eq_some_iff.1 h2).1
      rw [Array.getElem?_append_left (by simpa using hlt)]
      simpa using h2
    fr := .refl _ _
    own := hok
    nodup := hnd
    lt := hlt
    mine := fun k hk _ => hk
    old := hA }

section
variable {c : Cx} {E : List (Nat × VP)} {L : List Ent} {ops : Array Oper} {Q : Exit → Act → World → Prop}
variable {d : Option Tmp} {ty : TypeId} {pos : String} {af : Array Edge} {g : Option (Nat × Bool)} {x y : Operand} {t t2 : TypeId}

/-- a function's end by a panic -/
theorem To.endX {fn : Func} {X A0 : List Nat} {W0 : World} {u : Value} {δ : Type} {Lo : δ → List Ent} (q : δ) (n : Nat) (hX : c.X = X) (hA : c.A0 = A0) (hW : c.W0 = W0) (hds : c.ds = []) (hL : L.drop n = Lo q) :
    To c (bodyPost c.P fn (PostX X A0 W0 u Lo)) (.panic [{ v := u, recovered := false }]) E L := fun a W s => by
  subst hX hA hW
  have s2 := s.dropL n
  rw [hL] at s2
  exact ⟨by rw [s.defers, hds], q, rfl, s2.fr, s2.nodup, fun k hk => ⟨s2.lt k hk, s2.mine k hk, fun h => (s2.old k h).2 hk⟩, s2.own⟩

/-- an operation that panics -/
theorem Sq.pan {rest : List Oper} {t : TypeId} {v : Value} (hx : ∀ a W, St c E L a W → a.eval x = .iface t v)
    (k : To c Q (.panic [{ v := .iface t v, recovered := false }]) E L) : Sq c ops Q (⟨d, .panic x, ty, pos, af, none⟩ :: rest) E L := fun a W s => wpListIn_plain rfl fun K hK => by
  refine ⟨fun _ _ => trivial, ?_⟩
  have h1 : (Oper.semAt c.F.round a.eval ⟨d, .panic x, ty, pos, af, none⟩).run c.P W = .halt (.panic (.iface t v)) W := by
    rw [Oper.semAt_eq _ _ _ (by intro c h; cases h)]
    show ((Instr.panic (a.eval x)).bind _).run c.P W = _
    rw [hx a W s]
    rfl
  rw [h1]
  exact k a W s
/-- a call that panics -/
theorem Sq.callX {rest : List Oper} {f : FuncId} {xs : List Operand} {ats : Array TypeId} {τs : List VP} {Lin Lr : List Ent} {u : Value} {δ : Type} {Lo : δ → List Ent} (en : En c.P f) (h : Panics c.P f τs Lin u Lo)
    (hx : Looks c E (Lin ++ Lr) xs τs) (k : ∀ q, To c Q (.panic [{ v := u, recovered := false }]) E (Lo q ++ Lr)) :
    Sq c ops Q (⟨d, .call ⟨.value (.func f), xs.toArray, ats⟩, ty, pos, af, none⟩ :: rest) E (Lin ++ Lr) := fun a W s => wpListIn_plain rfl fun K hK => by
  have hnd0 := s.nodup
  rw [ks_append] at hnd0
  obtain ⟨hn1, hn2, hn3⟩ := List.nodup_append.1 hnd0
  have hset : Ext (ks (Lin ++ Lr) ++ c.A0) W (ks Lin ++ (ks Lr ++ c.A0)) W := .drop fun k hm => by
    rw [ks_append]
    simp only [List.mem_append] at hm ⊢
    rcases hm with hm | hm | hm
    · exact .inl (.inl hm)
    · exact .inl (.inr hm)
    · exact .inr hm
  have hA : ∀ k ∈ ks Lr ++ c.A0, k < W.heap.size ∧ k ∉ ks Lin := fun k hm => by
    rcases List.mem_append.1 hm with hm | hm
    · exact ⟨s.lt k (by rw [ks_append]; exact List.mem_append.2 (.inr hm)), fun h => hn3 k h k hm rfl⟩
    · obtain ⟨h1, h2⟩ := s.old k hm
      exact ⟨h1, fun h => h2 (by rw [ks_append]; exact List.mem_append.2 (.inl h))⟩
  have hlt : ∀ k ∈ ks Lin, k < W.heap.size := fun k hm => s.lt k (by rw [ks_append]; exact List.mem_append.2 (.inl hm))
  refine ⟨fun _ _ => trivial, ?_⟩
  have h1 : (Oper.semAt c.F.round a.eval ⟨d, .call ⟨.value (.func f), xs.toArray, ats⟩, ty, pos, af, none⟩).run c.P W = .ok (.enter f (xs.map a.eval).toArray) W := by
    rw [Oper.semAt_eq _ _ _ (by intro c h; cases h)]
    simp [execOp, resolve, Deferred.ofValue, Act.eval, invoke, en.run]
  rw [h1]
  refine ⟨fun h => by simp at h, CallsIn.ofCalls ?_⟩
  refine (h (ks Lr ++ c.A0) W (xs.map a.eval) hA hn1 hlt (fun e he => Ent.ok_mono (s.own e (List.mem_append.2 (.inl he))) hset fun _ _ => rfl) ((hx.holds a W s).mono hset)).mono fun e W' ⟨q, he, hf, h1, h2, h3⟩ => ?_
  subst he
  exact k q a W' (s.after hf h1 h2 h3)
/-- bytes as a string -/
def strOf (xs : List (BitVec 8)) : ByteArray := ⟨(xs.map fun b => UInt8.ofNat b.toNat).toArray⟩
theorem r_b2s {xs : List (BitVec 8)} {e : TypeId} (hu : c.P.underlying t = some (.slice e)) (he : c.P.underlying e = some (.int .u8)) (hd : c.P.underlying t2 = some .string) (hx : Look c E L x (.of xs)) :
    HR c E L ⟨d, .convert t t2 x, ty, pos, af, g⟩ (.of (strOf xs)) := .pure fun a W s => by
  rcases of_list.1 (hx a W s) with ⟨⟨a0, h0⟩, rfl⟩ | ⟨b, off, cap, cur, T, fz, h1, h2, h3, h4, h7, h8, h9⟩
  · refine ⟨.string .empty, ?_, of_str.2 rfl⟩
    have h5 := run_convert_bytes_string (P := c.P) W t t2 e a0 0 0 hu he hd
    cases a0 <;> simp [execOp, h0, h5, Conv.bytesToString, loadCells, loadCellsFrom]
  · refine ⟨.string (strOf xs), ?_, of_str.2 rfl⟩
    have h5 := run_convert_bytes_back (P := c.P) W t t2 e ⟨b, off, none⟩ cap (xs.map fun b => UInt8.ofNat b.toNat) hu he hd fun j hj => by
      have hj' : j < xs.length := by simpa using hj
      have h6 := h9.2 j hj'
      have hsz : Rp.size (BitVec 8) = 1 := rfl
      have hlt : off + j < cur.size := by rw [hsz] at h8; omega
      have h10 : ((((cur.toList.drop off).take (xs.length * Rp.size (BitVec 8))).drop (j * Rp.size (BitVec 8))).take (Rp.size (BitVec 8))) = [cur[off + j]] := by
        rw [hsz, Nat.mul_one, Nat.mul_one]
        apply List.ext_getElem?
        intro i
        rcases i with _ | i
        · simp [List.getElem?_take, List.getElem?_drop, hj', hlt]
        · simp; omega
      rw [h10] at h6
      have ho : (cur[off + j]).oneCell' = true := Rp.one h6 _ (by simp)
      have h11 := (of_u8 (A := ks L ++ c.A0) (W := W) (v := cur[off + j]) (x := xs[j])).1 ⟨ho, by rw [cells_one ho]; exact h6⟩
      have h12 : (xs[j].toNat) < 256 := xs[j].isLt
      rw [addr_add, cell_of_row W b (off + j) cur T fz h3]
      simp [hlt, h11, UInt8.toNat_ofNat', Nat.mod_eq_of_lt h12]
    simp only [List.length_map] at h5
    simp [execOp, h1, h5, strOf]
/-- two strings one behind the other; none: longer than an int counts -/
def catM (a b : ByteArray) : Option ByteArray := if a.size + b.size ≤ 9223372036854775807 then some (a ++ b) else none
theorem r_cat {u v r : ByteArray} (hx : Look c E L x (.of u)) (hy : Look c E L y (.of v)) (h : catM u v = some r) : HR c E L ⟨d, .binOp .add t x y t2, ty, pos, af, g⟩ (.of r) := .pure fun a W s => by
  unfold catM at h
  split at h
  case isFalse => cases h
  rename_i hn
  cases h
  refine ⟨.string (u ++ v), ?_, of_str.2 rfl⟩
  have h1 := of_str.1 (hx a W s)
  have h2 := of_str.1 (hy a W s)
  have h3 : (Op.stringOp .add u v).run c.P W = .ok (.string (u ++ v)) W := by apply run_string_add_sum; exact hn
  simp [execOp, h1, h2, eqGuard, binOp, h3]
end
end Gv

namespace Gv
open Go
set_option linter.unusedVariables false
set_option linter.unusedSimpArgs false

/-- variables that stay as they are: their blocks, and what they hold -/
structure Gr where
  keys : List Nat
  is : World → Prop
  keep : ∀ {W W' : World}, (∀ k ∈ keys, W'.heap[k]? = W.heap[k]?) → is W → is W'
  lt : ∀ {W : World}, is W → ∀ k ∈ keys, k < W.heap.size
def Gr.on (G : Gr) (X : List Nat) (W : World) : Prop := G.is W ∧ ∀ k ∈ G.keys, k ∉ X
theorem Gr.on.fr {G : Gr} {X : List Nat} {W W' : World} (h : G.on X W) (f : Fr X W W') : G.on X W' :=
  ⟨G.keep (fun k hk => f.block k (G.lt h.1 k hk) (h.2 k hk)) h.1, h.2⟩
theorem Gr.on.st {G : Gr} {c : Cx} {E : List (Nat × VP)} {L : List Ent} {a : Act} {W : World} (h : G.on c.X c.W0) (s : St c E L a W) : G.on (ks L) W :=
  ⟨(h.fr s.fr).1, fun k hk hm => h.2 k hk (s.mine k hm (G.lt h.1 k hk))⟩
theorem Gr.on.sub {G : Gr} {X Y : List Nat} {W : World} (h : G.on X W) (hs : ∀ k ∈ Y, k ∈ X) : G.on Y W := ⟨h.1, fun k hk hm => h.2 k hk (hs k hm)⟩

/-- f, called with values that are as τs say, with the blocks of Lin and in a world that G is about, ends as R says -/
def MeetsH (G : Gr) (P : Program) (f : FuncId) (τs : List VP) (Lin : List Ent) (R : List Nat → World → Ending → World → Prop) : Prop :=
  ∀ (A : List Nat) (W : World) (vs : List Value), G.on (ks Lin) W → (∀ k ∈ A, k < W.heap.size ∧ k ∉ ks Lin) → (ks Lin).Nodup → (∀ k ∈ ks Lin, k < W.heap.size) → (∀ e ∈ Lin, e.ok (ks Lin ++ A) W) → HoldsAll (ks Lin ++ A) W τs vs →
    Calls P f vs.toArray W (R A W)
section
variable {G : Gr} {P : Program} {f : FuncId} {fn : Func} {code : Code} {n : Nat} {τs : List VP} {Lin : List Ent} {R : List Nat → World → Ending → World → Prop}
theorem MeetsH.st {a : Act} {W : World} {A : List Nat} {vs : List Value} (hn : fn.ntmps = n) (hlen : Nat.ble τs.length n = true) (hA : ∀ k ∈ A, k < W.heap.size ∧ k ∉ ks Lin) (hnd : (ks Lin).Nodup) (hlt : ∀ k ∈ ks Lin, k < W.heap.size) (hok : ∀ e ∈ Lin, e.ok (ks Lin ++ A) W) (hv : HoldsAll (ks Lin ++ A) W τs vs) :
    St ⟨P, n, W, ks Lin, A, none, []⟩ (params 0 τs) Lin { tmps := vs.toArray ++ Array.replicate (fn.ntmps - vs.toArray.size) undef, defers := [] } W := by
  have hl := hv.length
  have hle : τs.length ≤ n := Nat.le_of_ble_eq_true hlen
  exact
  { defers := rfl
    size := by simp [hn, hl]; omega
    env := fun t τ hl' => by
      obtain ⟨_, v, h2, h3⟩ := look_params hv 0 t τ hl'
      refine ⟨v, ?_, h3⟩
      have hlt : t < vs.length := (List.getElem?_eq_some_iff.1 h2).1
      rw [Array.getElem?_append_left (by simpa using hlt)]
      simpa using h2
    fr := .refl _ _
    own := hok
    nodup := hnd
    lt := hlt
    mine := fun k hk _ => hk
    old := hA }
theorem MeetsH.of (hf : P.funcs[f]? = some fn) (hb : fn.body = some code) (hn : fn.ntmps = n) (hlen : Nat.ble τs.length n = true)
    (h : ∀ W A, G.on (ks Lin) W → Wp ⟨P, n, W, ks Lin, A, none, []⟩ (bodyPost P fn (R A W)) code (params 0 τs) Lin) : MeetsH G P f τs Lin R := fun A W vs hG hA hnd hlt hok hv =>
  calls_of_wp hf hb (wpIn_wide.1 (h W A hG _ _ (MeetsH.st (a := ⟨#[], []⟩) hn hlen hA hnd hlt hok hv)))
theorem MeetsH.ofM (hf : P.funcs[f]? = some fn) (hb : fn.body = some code) (hn : fn.ntmps = n) (hlen : Nat.ble τs.length n = true)
    (h : ∀ W A, G.on (ks Lin) W → Wp ⟨P, n, W, ks Lin, A, none, []⟩ (bodyPostM Fence.wide 9 P fn (R A W)) code (params 0 τs) Lin) : MeetsH G P f τs Lin R := fun A W vs hG hA hnd hlt hok hv =>
  (callsIn_wide (n := 9)).1 (callsIn_of_wp_marks hf hb trivial (h W A hG _ _ (MeetsH.st (a := ⟨#[], []⟩) hn hlen hA hnd hlt hok hv)))
theorem MeetsH.mono {R' : List Nat → World → Ending → World → Prop} (h : MeetsH G P f τs Lin R) (hr : ∀ A W e W', R A W e W' → R' A W e W') : MeetsH G P f τs Lin R' := fun A W vs hG hA hnd hlt hok hv => (h A W vs hG hA hnd hlt hok hv).mono (hr A W)
end

/-- with a value, or with a panic -/
def PostE (X A0 : List Nat) (W0 : World) {δ β : Type} (r : β ⊕ Value) (ρ : β → VP) (Lo : δ → List Ent) : Ending → World → Prop :=
  match r with
  | .inl b => PostO X A0 W0 (fun _ => ρ b) Lo
  | .inr u => PostX X A0 W0 u Lo

section
variable {c : Cx} {E : List (Nat × VP)} {L : List Ent} {ops : Array Oper} {Q : Exit → Act → World → Prop}
variable {d : Option Tmp} {ty : TypeId} {pos : String} {af : Array Edge} {g : Option (Nat × Bool)} {x y : Operand} {t t2 : TypeId}
theorem To.pthen {y : Act → World → Prop} {ch : List PanicEntry} (h : To c Q (.panic ch) E L) : To c (Exit.then y Q) (.panic ch) E L := fun a W s => h a W s
theorem To.bpan {id : Nat} {ch : List PanicEntry} (h : To c Q (.panic ch) E L) : To c (Exit.inBlock id Q) (.panic ch) E L := fun a W s => h a W s
theorem St.call {a : Act} {W : World} {Lin Lr : List Ent} {f : FuncId} {τs : List VP} {xs : List Operand} {G : Gr} {R : List Nat → World → Ending → World → Prop} (s : St c E (Lin ++ Lr) a W) (hG : G.on c.X c.W0) (h : MeetsH G c.P f τs Lin R) (hx : HoldsAll (ks (Lin ++ Lr) ++ c.A0) W τs (xs.map a.eval)) :
    Calls c.P f (xs.map a.eval).toArray W (R (ks Lr ++ c.A0) W) := by
  have hnd0 := s.nodup
  rw [ks_append] at hnd0
  obtain ⟨hn1, hn2, hn3⟩ := List.nodup_append.1 hnd0
  have hset : Ext (ks (Lin ++ Lr) ++ c.A0) W (ks Lin ++ (ks Lr ++ c.A0)) W := .drop fun k hm => by
    rw [ks_append]
    simp only [List.mem_append] at hm ⊢
    rcases hm with hm | hm | hm
    · exact .inl (.inl hm)
    · exact .inl (.inr hm)
    · exact .inr hm
  have hA : ∀ k ∈ ks Lr ++ c.A0, k < W.heap.size ∧ k ∉ ks Lin := fun k hm => by
    rcases List.mem_append.1 hm with hm | hm
    · exact ⟨s.lt k (by rw [ks_append]; exact List.mem_append.2 (.inr hm)), fun h => hn3 k h k hm rfl⟩
    · obtain ⟨h1, h2⟩ := s.old k hm
      exact ⟨h1, fun h => h2 (by rw [ks_append]; exact List.mem_append.2 (.inl h))⟩
  exact h (ks Lr ++ c.A0) W _ ((hG.st s).sub fun k hk => by rw [ks_append]; exact List.mem_append.2 (.inl hk)) hA hn1 (fun k hm => s.lt k (by rw [ks_append]; exact List.mem_append.2 (.inl hm))) (fun e he => Ent.ok_mono (s.own e (List.mem_append.2 (.inl he))) hset fun _ _ => rfl) (hx.mono hset)
theorem opto_callH {a : Act} {W : World} {G : Gr} {f : FuncId} {xs : List Operand} {ats : Array TypeId} {τs : List VP} {Lin Lr : List Ent} {δ : Type} {ρ : δ → VP} {Lo : δ → List Ent} (en : En c.P f) (hG : G.on c.X c.W0) (h : MeetsH G c.P f τs Lin fun A W => PostO (ks Lin) A W ρ Lo)
    (s : St c E (Lin ++ Lr) a W) (hx : HoldsAll (ks (Lin ++ Lr) ++ c.A0) W τs (xs.map a.eval)) :
    OpTo c.P ⟨d, .call ⟨.value (.func f), xs.toArray, ats⟩, ty, pos, af, g⟩ a W fun v W' => ∃ dd, St c E (Lo dd ++ Lr) a W' ∧ (ρ dd).holds (ks (Lo dd ++ Lr) ++ c.A0) W' v := by
  refine .of_enter (f := f) (args := (xs.map a.eval).toArray) (W' := W) (by simp [execOp, resolve, Deferred.ofValue, Act.eval, invoke, en.run]) ?_
  refine (s.call hG h hx).mono fun e W' ⟨v, dd, he, hf, h1, h2, h3, h4⟩ => ?_
  refine ⟨v, he, dd, s.after hf h1 h2 h3, (ρ dd).mono (.drop fun k hm => ?_) h4⟩
  rw [ks_append] at hm
  simp only [List.mem_append] at hm ⊢
  rcases hm with (hm | hm) | hm
  · exact .inl hm
  · exact .inr (.inl hm)
  · exact .inr (.inr hm)
/-- a call in a world that G is about -/
theorem Sq.callH {rest : List Oper} {dd : Nat} {G : Gr} {f : FuncId} {xs : List Operand} {ats : Array TypeId} {τs : List VP} {Lin Lr : List Ent} {δ : Type} {ρ : δ → VP} {Lo : δ → List Ent} (hG : G.on c.X c.W0) (en : En c.P f) (h : MeetsH G c.P f τs Lin fun A W => PostO (ks Lin) A W ρ Lo)
    (hx : Looks c E (Lin ++ Lr) xs τs) (hn : Nat.blt dd c.n = true) (k : ∀ q, Sq c ops Q rest ((dd, ρ q) :: E) (Lo q ++ Lr)) :
    Sq c ops Q (⟨some dd, .call ⟨.value (.func f), xs.toArray, ats⟩, ty, pos, af, none⟩ :: rest) E (Lin ++ Lr) := fun a W s =>
  wpList_op rfl (opto_callH en hG h s (hx.holds a W s)) fun v W' ⟨q, s', hv⟩ => k q _ _ (s'.put (by simpa using hn) hv)
/-- .. that panics -/
theorem Sq.callHX {rest : List Oper} {G : Gr} {f : FuncId} {xs : List Operand} {ats : Array TypeId} {τs : List VP} {Lin Lr : List Ent} {u : Value} {δ : Type} {Lo : δ → List Ent} (hG : G.on c.X c.W0) (en : En c.P f) (h : MeetsH G c.P f τs Lin fun A W => PostX (ks Lin) A W u Lo)
    (hx : Looks c E (Lin ++ Lr) xs τs) (k : ∀ q, To c Q (.panic [{ v := u, recovered := false }]) E (Lo q ++ Lr)) :
    Sq c ops Q (⟨d, .call ⟨.value (.func f), xs.toArray, ats⟩, ty, pos, af, none⟩ :: rest) E (Lin ++ Lr) := fun a W s => wpListIn_plain rfl fun K hK => by
  refine ⟨fun _ _ => trivial, ?_⟩
  have h1 : (Oper.semAt c.F.round a.eval ⟨d, .call ⟨.value (.func f), xs.toArray, ats⟩, ty, pos, af, none⟩).run c.P W = .ok (.enter f (xs.map a.eval).toArray) W := by
    rw [Oper.semAt_eq _ _ _ (by intro c h; cases h)]
    simp [execOp, resolve, Deferred.ofValue, Act.eval, invoke, en.run]
  rw [h1]
  refine ⟨fun h => by simp at h, CallsIn.ofCalls ?_⟩
  refine (s.call hG h (hx.holds a W s)).mono fun e W' ⟨q, he, hf, h1, h2, h3⟩ => ?_
  subst he
  exact k q a W' (s.after hf h1 h2 h3)
/-- a call of the library's own that touches nothing of ours -/
def MeetsL (G : Gr) (P : Program) (f : FuncId) (τs : List VP) (ρ : VP) : Prop := ∀ (A : List Nat) (W : World) (vs : List Value), G.is W → (∀ k ∈ A, k < W.heap.size) → HoldsAll A W τs vs →
    Calls P f vs.toArray W fun e W' => ∃ v, e = .returned v ∧ Fr [] W W' ∧ ρ.holds A W' v
theorem MeetsL.of {G : Gr} {P : Program} {f : FuncId} {fn : Func} {code : Code} {n : Nat} {τs : List VP} {ρ : VP} (hf : P.funcs[f]? = some fn) (hb : fn.body = some code) (hn : fn.ntmps = n) (hlen : Nat.ble τs.length n = true)
    (h : ∀ W A, G.on [] W → Wp ⟨P, n, W, [], A, none, []⟩ (bodyPost P fn (Post ⟨P, n, W, [], A, none, []⟩ ρ)) code (params 0 τs) []) : MeetsL G P f τs ρ := fun A W vs hG hA hv =>
  calls_of_wp hf hb (wpIn_wide.1 (h W A ⟨hG, fun k hk => by simp⟩ _ _ (MeetsH.st (Lin := []) (a := ⟨#[], []⟩) hn hlen (fun k hk => ⟨hA k hk, by simp [ks]⟩) .nil (fun k hk => by cases hk) (fun e he => by cases he) hv)))
theorem r_callG {G : Gr} {f : FuncId} {xs : List Operand} {ats : Array TypeId} {τs : List VP} {ρ : VP} (hG : G.on c.X c.W0) (en : En c.P f) (h : MeetsL G c.P f τs ρ) (hx : Looks c E L xs τs) :
    HR c E L ⟨d, .call ⟨.value (.func f), xs.toArray, ats⟩, ty, pos, af, g⟩ ρ := fun a W s => by
  refine .of_enter (f := f) (args := (xs.map a.eval).toArray) (W' := W) (by simp [execOp, resolve, Deferred.ofValue, Act.eval, invoke, en.run]) ?_
  exact h _ W _ (hG.fr s.fr).1 s.all_lt (hx.holds a W s)
theorem MeetsH.flat {G : Gr} {P : Program} {f : FuncId} {τs : List VP} {δ : Type} {ρ : δ → VP} {Lo : δ → List Ent} {σ : VP} (h : MeetsH G P f τs [] fun A W => PostO [] A W ρ Lo) (hs : ∀ d, ρ d = σ) : MeetsL G P f τs σ := fun A W vs hG hA hv =>
  (h A W vs ⟨hG, fun k hm => by simp [ks]⟩ (fun k hk => ⟨hA k hk, fun h => by cases h⟩) .nil (fun k hk => by cases hk) (fun e he => by cases he) hv).mono fun e W' ⟨v, d, he, hf, _, _, _, h4⟩ => ⟨v, he, hf, by
    rw [hs d] at h4
    exact VP.mono _ (.drop fun k hm => List.mem_append.2 (.inr hm)) h4⟩
/-- an interface value that is nil or is not -/
def VP.nilq (b : Bool) : VP where
  holds _ _ v := if b = true then v = .nilIface else ∃ t u, v = .iface t u
  mono _ h := h
end
end Gv

