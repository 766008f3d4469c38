/-
  Each function meets its functional program. Conditions: none.
-/
import Derived.Test.YtmlgdkccoomiaaaJd
import Derived.Test.YtmlgdkccoomiaaaJl0
namespace Gv
open Go
set_option linter.unusedVariables false
set_option linter.unusedSimpArgs false

/-- a slice at the head of a row of elements of type T, in a block that is not among the first N -/
def Pin (α : Type) [Rp α] (N T : Nat) (A : List Nat) (W : World) (v : Value) : Prop :=
  v = .slice none 0 0 ∨ ∃ b cap o, ∃ xs : List α, v = .slice (some ⟨b, 0, none⟩) xs.length cap ∧ N ≤ b ∧ b ∉ A ∧ W.heap[b]? = some o ∧ (CP.row T xs cap).holds A W o
theorem Pin.mono {α : Type} [Rp α] {N T : Nat} {A W A' W' v} (e : Ext A W A' W') (h : Pin α N T A W v) : Pin α N T A' W' v := by
  rcases h with h | ⟨b, cap, o, xs, h1, h2, h3, h4, h5⟩
  · exact .inl h
  · have hlt : b < W.heap.size := (Array.getElem?_eq_some_iff.1 h4).1
    exact .inr ⟨b, cap, o, xs, h1, h2, fun hm => h3 (e.new b hm hlt), by rw [e.block b hlt h3]; exact h4, CP.mono _ e h5⟩
theorem Pin.le {α : Type} [Rp α] {N M T : Nat} {A W v} (hl : N ≤ M) (h : Pin α M T A W v) : Pin α N T A W v := by
  rcases h with h | ⟨b, cap, o, xs, h1, h2, h3, h4, h5⟩
  · exact .inl h
  · exact .inr ⟨b, cap, o, xs, h1, Nat.le_trans hl h2, h3, h4, h5⟩

/-- a list whose row is new, if f says so -/
structure Fz (α : Type) (N T : Nat) where
  xs : List α
  f : Bool
instance {α : Type} {N T : Nat} : Inhabited (Fz α N T) := ⟨⟨[], false⟩⟩
instance {α : Type} [Rp α] {N T : Nat} : Rp (Fz α N T) where
  size := 1
  agg := false
  rep A W cs x := ∃ v, cs = [v] ∧ Sl A W v x.xs ∧ (x.f = true → Pin α N T A W v)
  len h := by obtain ⟨v, rfl, _⟩ := h; rfl
  one h := by
    obtain ⟨v, rfl, h, _⟩ := h
    intro u hu
    rw [List.mem_singleton.1 hu]; exact h.one
  flat _ := rfl
  mono e h := let ⟨v, h1, h2, h3⟩ := h; ⟨v, h1, h2.mono e, fun hf => (h3 hf).mono e⟩
instance {α : Type} [Rp α] {N T : Nat} : Zc (Fz α N T) := ⟨[.slice none 0 0], fun _ _ => ⟨_, rfl, .inl ⟨rfl, rfl⟩, fun h => by cases h⟩⟩
theorem of_fz {α : Type} [Rp α] {N T : Nat} {A W v} {x : Fz α N T} : (VP.of x).holds A W v ↔ Sl A W v x.xs ∧ (x.f = true → Pin α N T A W v) := by
  constructor
  · rintro ⟨h1, u, h2, h3⟩
    have : v = u := toList_one h1 h2
    rw [this]; exact h3
  · intro h
    exact ⟨h.1.one, v, by rw [cells_one h.1.one], h⟩
theorem look_fz {α : Type} [Rp α] {N T : Nat} {c : Cx} {E : List (Nat × VP)} {L : List Ent} {x : Operand} {z : Fz α N T} {ys : List α} (h : Look c E L x (.of z)) (e : z.xs = ys := by rfl) : Look c E L x (.of ys) :=
  fun a W s => e ▸ of_list.2 (of_fz.1 (h a W s)).1

/-- more is known of a value than is told -/
def Imp (τ τ' : VP) : Prop := ∀ A W v, τ.holds A W v → τ'.holds A W v
theorem Wp.imp {c : Cx} {E : List (Nat × VP)} {L : List Ent} {Q : Exit → Act → World → Prop} {code : Code} (d : Nat) {τ τ' : VP} (hd : look E d = Option.some τ) (i : Imp τ τ') (k : Wp c Q code ((d, τ') :: E) L) : Wp c Q code E L := fun a W s => k a W (s.less fun t σ hl => by
  simp only [look] at hl
  by_cases e : Nat.beq d t = true
  · rw [e] at hl
    simp only [cond_true, Option.some.injEq] at hl
    subst hl
    have := look_beq.1 e
    subst this
    exact ⟨τ, hd, i⟩
  · simp only [Bool.not_eq_true] at e
    rw [e] at hl
    exact ⟨σ, hl, fun _ _ _ h => h⟩)

/-! ### Calls that hand back what is new -/

/-- as Meets, where at least N blocks are there already -/
def MeetsN (N : Nat) (P : Program) (f : FuncId) (τs : List VP) (ρ : VP) : Prop :=
  ∀ (A : List Nat) (W : World) (vs : List Value), (∀ k ∈ A, k < W.heap.size) → N ≤ W.heap.size → HoldsAll A W τs vs →
    Calls P f vs.toArray W fun e W' => ∃ v, e = .returned v ∧ Fr [] W W' ∧ ρ.holds A W' v
theorem MeetsN.of {N : Nat} {P : Program} {f : FuncId} {fn : Func} {code : Code} {n : Nat} {τs : List VP} {ρ : VP} (hf : P.funcs[f]? = some fn) (hb : fn.body = some code) (hn : fn.ntmps = n) (hlen : Nat.ble τs.length n = true)
    (h : ∀ W A, N ≤ W.heap.size → Wp ⟨P, n, W, [], A, none, []⟩ (bodyPost P fn (Post ⟨P, n, W, [], A, none, []⟩ ρ)) code (params 0 τs) []) : MeetsN N P f τs ρ := by
  intro A W vs hA hN hv
  refine calls_of_wp hf hb (wpIn_wide.1 (h W A hN _ _ ?_))
  have hl := hv.length
  have hle : τs.length ≤ n := Nat.le_of_ble_eq_true hlen
  exact
  { defers := rfl
    size := by simp [hn, hl]; omega
    env := fun t τ hl' => by
      obtain ⟨_, v, h2, h3⟩ := look_params hv 0 t τ hl'
      refine ⟨v, ?_, h3⟩
      have hlt : t < vs.length := (List.getElem?_eq_some_iff.1 h2).1
      rw [Array.getElem?_append_left (by simpa using hlt)]
      simpa using h2
    fr := .refl _ _
    own := fun e he => by cases he
    nodup := .nil
    lt := fun k hk => by cases hk
    mine := fun k hk => by cases hk
    old := fun k hk => ⟨hA k hk, fun h => by cases h⟩ }
section
variable {c : Cx} {E : List (Nat × VP)} {L : List Ent} {ops : Array Oper} {Q : Exit → Act → World → Prop} {d : Option Tmp} {dd : Nat} {ty : TypeId} {pos : String} {af : Array Edge} {g : Option (Nat × Bool)}
theorem r_callN {N : Nat} {f : FuncId} {xs : List Operand} {ats : Array TypeId} {τs : List VP} {ρ : VP} (hN : N ≤ c.W0.heap.size) (en : En c.P f) (h : MeetsN N c.P f τs ρ) (hx : Looks c E L xs τs) :
    HR c E L ⟨d, .call ⟨.value (.func f), xs.toArray, ats⟩, ty, pos, af, g⟩ ρ := fun a W s => by
  refine .of_enter (f := f) (args := (xs.map a.eval).toArray) (W' := W) ?_ (h _ W _ s.all_lt (Nat.le_trans hN s.fr.size) (hx.holds a W s))
  simp [execOp, resolve, Deferred.ofValue, Act.eval, invoke, en.run]
theorem HclN {N : Nat} {f : FuncId} {xs : List Operand} {ats : Array TypeId} {τs : List VP} {ρ : VP} {hyp : List Ent → Prop} (hN : N ≤ c.W0.heap.size) (en : En c.P f) (h : MeetsN N c.P f τs ρ) (hx : ∀ L', Looks c E L' xs τs) :
    ∀ L', hyp L' → HO c ops E L' ⟨some dd, .call ⟨.value (.func f), xs.toArray, ats⟩, ty, pos, af, none⟩ ρ := fun L' _ => .v (r_callN hN en h (hx L')) rfl
end
theorem ext_drop {b : Nat} {A : List Nat} {W : World} : Ext ([b] ++ A) W A W := ⟨Nat.le_refl _, fun _ _ _ => rfl, fun k hk _ => List.mem_append.2 (.inr hk)⟩

/-- what hands back a row of its own hands back a list whose row is new -/
theorem MeetsO.new {P : Program} {f : FuncId} {τs : List VP} {α : Type} [Rp α] {r : List α} {T : Nat} (h : MeetsO P f τs [] (δ := Option Nat × Nat) (fun d => .eq (slv d.1 r.length d.2)) (fun d => [⟨d.1, .row T r d.2⟩])) (N : Nat) :
    MeetsN N P f τs (.of (⟨r, true⟩ : Fz α N T)) := by
  intro A W vs hA hN hv
  refine (h A W vs (fun k hk => ⟨hA k hk, fun h => by cases h⟩) .nil (fun k hk => by cases hk) (fun e he => by cases he) hv).mono ?_
  rintro e W' ⟨v, ⟨key, cap⟩, h1, h2, h3, h4, h5, h6⟩
  refine ⟨v, h1, h2, of_fz.2 ?_⟩
  have h6 : v = slv key r.length cap := h6
  subst h6
  have ho := h5 _ (List.mem_singleton.2 rfl)
  cases key with
  | none => exact ⟨.inl ⟨rfl, ho.1⟩, fun _ => .inl rfl⟩
  | some p =>
    obtain ⟨o, hob, hrow⟩ := ho
    have hk := h4 p (by simp [ks])
    have hrow : (CP.row T r cap).holds A W' o := CP.mono _ ext_drop hrow
    refine ⟨?_, fun _ => .inr ⟨p, cap, o, r, rfl, ?_, hk.2.2, hob, hrow⟩⟩
    · obtain ⟨cs, rfl, hsz, hn, hcm, hr⟩ := hrow
      obtain ⟨h3, h4⟩ := reps_prefix hsz hn hr
      exact .inr ⟨p, 0, cap, cs, T, (0, 0), rfl, hk.2.2, hob, hn, Nat.le_trans hn hcm, h3, h4⟩
    · by_cases hlt : p < W.heap.size
      · cases hk.2.1 hlt
      · omega

/-- a row of n elements, whatever they are -/
def CP.rowE (α : Type) [Rp α] (T : TypeId) (n cap : Nat) : CP where
  holds A W o := ∃ xs : List α, xs.length = n ∧ (CP.row T xs cap).holds A W o
  nilOk := n = 0 ∧ cap = 0
  mono e h := let ⟨xs, h1, h2⟩ := h; ⟨xs, h1, CP.mono _ e h2⟩
end Gv

namespace Go.Proofs.Ytmlgdkccoomiaaa
open Go Gv
set_option linter.unusedVariables false
set_option linter.unusedSimpArgs false
set_option maxRecDepth 100000
set_option maxHeartbeats 2000000
attribute [local irreducible] Sq Wp To HR Look Stp LQG LQW VP.of VP.ptr VP.eq VP.cond VP.tup
theorem C_mcase_New {x0 x1 r} (h : L_mcase_New x0 x1 = some r) : MeetsO Try.prog 4 [VP.of (x0), VP.of (x1)] [] (δ := Nat) (fun d => VP.pb d) (fun d => [vr d r]) := by
 unfold L_mcase_New at h
 refine MeetsO.of Try.func4 rfl Try.ntmps4 rfl fun W A => Qsr (Qv (r_asg (look_e (.pointer none))) ?_)
 refine go1 ?_
 refine Qbf h fun y1 hy1 h => Qv (r_slice Try.underlying22 ty5 (look_t rfl) .none (.some (look_t rfl)) hy1) ?_
 refine go1 fun p1 => ?_
 refine To.bring 0 rfl ?_
 cases h
 exact Qo1 p1
theorem C_mcase_Codes_Left {x0 pp0 r} (h : L_mcase_Codes_Left x0 = some r) : MV Try.prog 23 [VP.pb pp0] pp0 x0 (VP.of (r)) x0 := by
 unfold L_mcase_Codes_Left at h
 refine MeetsO.of Try.func23 rfl Try.ntmps23 rfl fun W A => ?_
 refine go1 ?_
 refine Wp.dw 10 ?_
 exact go
theorem C_ordered_List_matching {x1 u0 r} (h : L_ordered_List_matching x1 = some r) : Meets Try.prog 21 [VP.eq (.pointer u0), VP.of (x1)] (VP.clo 31 [VP.pv (VP.eq (.pointer u0)), VP.ptr r]) := by
 unfold L_ordered_List_matching at h
 refine Meets.of Try.func21 rfl Try.ntmps21 rfl fun W A => Qsr (Sq.boxF (look_t rfl) one_eqp rfl (Qbx fun p2 => ?_))
 refine Qv (r_asg (look_e .nilFunc)) (Qnr ?_)
 refine Sq.share (α := Vector T_api_Value 4) 0 3 rfl rfl (Qv (r_mkI (f := 31) (τs := [VP.pv (VP.eq (.pointer u0)), VP.ptr x1]) ⟨look_t rfl, look_t rfl, trivial⟩) ?_)
 exact go
theorem C_check_TableOf_fn1 {x0 x1 r} (h : L_check_TableOf_fn1 x0 x1 = some r) : Meets Try.prog 72 [VP.of (x0), VP.ptr x1] (VP.of (r)) := by
 unfold L_check_TableOf_fn1 at h
 refine Meets.of Try.func72 rfl Try.ntmps72 rfl fun W A => ?_
 exact go
theorem C_slices_IndexFunc_api_Table {x0 x1 r} (h : L_slices_IndexFunc_api_Table x0 x1 = some r) : Meets Try.prog 71 [VP.of (x0), VP.fn1 Try.prog x1] (VP.of (r)) := by
 unfold L_slices_IndexFunc_api_Table at h
 refine Meets.of Try.func71 rfl Try.ntmps71 rfl fun W A => ?_
 refine go1 ?_
 refine Qbf h fun e1 hl h => ?_
 refine Qlp (γ:=Unit) (δ:=Unit) hl [0, 1, 7] (fun s1 g1 => [(4, VP.of (0 : Int)), (8, VP.of (s1))]) (fun s1 g1 => []) (fun q1 => Sum.elim (fun q1 => Exit.exit 0) (fun q1 => Exit.ret) q1) (fun q1 g1 => Sum.elim (fun q1 => [(4, VP.of (0 : Int)), (8, VP.of (q1.1)), (9, VP.of (q1.2))]) (fun q1 => [(4, VP.of (q1.1)), (5, VP.of (q1.2.1)), (8, VP.of (q1.2.2.1)), (9, VP.of (q1.2.2.2.1)), (16, VP.of (q1.2.2.2.2))]) q1) (fun q1 g1 => []) () (fun s1 r h g1 => ?_) fun g1 => ?_
 ·clear hl
  refine go1 (fun k1 hk1 h => ?_)
  refine Qbf h fun y1 hy1 h => Qv (r_callF1 (look_t rfl) (look_t rfl) hy1) ?_
  exact go
 ·clear hl
  rcases e1 with e1 | e1
  ·simp only [Sum.elim_inl] at h
   exact go
  ·simp only [Sum.elim_inr] at h
   exact go
theorem C_check_FieldOf_fn1 {x0 x1 r} (h : L_check_FieldOf_fn1 x0 x1 = some r) : Meets Try.prog 77 [VP.of (x0), VP.ptr x1] (VP.of (r)) := by
 unfold L_check_FieldOf_fn1 at h
 refine Meets.of Try.func77 rfl Try.ntmps77 rfl fun W A => ?_
 exact go
theorem C_slices_IndexFunc_api_Field {x0 x1 r} (h : L_slices_IndexFunc_api_Field x0 x1 = some r) : Meets Try.prog 76 [VP.of (x0), VP.fn1 Try.prog x1] (VP.of (r)) := by
 unfold L_slices_IndexFunc_api_Field at h
 refine Meets.of Try.func76 rfl Try.ntmps76 rfl fun W A => ?_
 refine go1 ?_
 refine Qbf h fun e1 hl h => ?_
 refine Qlp (γ:=Unit) (δ:=Unit) hl [0, 1, 7] (fun s1 g1 => [(4, VP.of (0 : Int)), (8, VP.of (s1))]) (fun s1 g1 => []) (fun q1 => Sum.elim (fun q1 => Exit.exit 0) (fun q1 => Exit.ret) q1) (fun q1 g1 => Sum.elim (fun q1 => [(4, VP.of (0 : Int)), (8, VP.of (q1.1)), (9, VP.of (q1.2))]) (fun q1 => [(4, VP.of (q1.1)), (5, VP.of (q1.2.1)), (8, VP.of (q1.2.2.1)), (9, VP.of (q1.2.2.2.1)), (16, VP.of (q1.2.2.2.2))]) q1) (fun q1 g1 => []) () (fun s1 r h g1 => ?_) fun g1 => ?_
 ·clear hl
  refine go1 (fun k1 hk1 h => ?_)
  refine Qbf h fun y1 hy1 h => Qv (r_callF1 (look_t rfl) (look_t rfl) hy1) ?_
  exact go
 ·clear hl
  rcases e1 with e1 | e1
  ·simp only [Sum.elim_inl] at h
   exact go
  ·simp only [Sum.elim_inr] at h
   exact go
instance k73 : K1 Try.prog 73 _ _ L_value_within VP.of VP.of := .i Try.func73 rfl Try.ntmps73 rfl fun x0 r h W A => by
 unfold L_value_within at h
 exact go
instance k84 : K2 Try.prog 84 _ _ _ L_value_Right VP.of VP.of VP.of := .i Try.func84 rfl Try.ntmps84 rfl fun x0 x1 r h W A => by
 unfold L_value_Right at h
 exact go
instance k74 : K2 Try.prog 74 _ _ _ L_value_Xor VP.of VP.of VP.of := .i Try.func74 rfl Try.ntmps74 rfl fun x0 x1 r h W A => by
 unfold L_value_Xor at h
 exact go
instance k59 : K2 Try.prog 59 _ _ _ L_value_And VP.of VP.of VP.of := .i Try.func59 rfl Try.ntmps59 rfl fun x0 x1 r h W A => by
 unfold L_value_And at h
 exact go
instance k60 : K2 Try.prog 60 _ _ _ L_value_Compare VP.of VP.of VP.of := .i Try.func60 rfl Try.ntmps60 rfl fun x0 x1 r h W A => by
 unfold L_value_Compare at h
 refine go1 (fun p1 p2 h => ?_)
 refine Qg (fun hb => r_and (look_tc rfl hb) (look_t rfl) (fun h => ⟨hb, h⟩)) ?_
 exact go
theorem C_slices_Clone_api_Match {x0 r} (h : L_slices_Clone_api_Match x0 = some r) : Meets Try.prog 48 [VP.of (x0)] (VP.of (r)) := by
 unfold L_slices_Clone_api_Match at h
 refine Meets.of Try.func48 rfl Try.ntmps48 rfl fun W A => Qsr (Qv (r_asg (look_nil (α := T_api_Match))) ?_)
 refine go1 ?_
 refine Qv (r_nil Try.underlying37 (look_t rfl)) (Qnx ?_)
 refine Wp.condN (look_t rfl) (fun hx => ?_) ?_
 ·subst hx; replace h := clone_nil h; subst h
  have h : some ([] : List T_api_Match) = some [] := rfl
  refine Qsr (Qv (r_asg (look_nil (α := T_api_Match))) (Qnx (Wp.ret (To.ret ?_))))
  replace h := some_in h
  clear h
  exact Qe1
 ·refine Qkn (Qsr (Sq.bslO (α := T_api_Match) (r := ([] : List T_api_Match)) Try.underlying37 ty58 zr58 rfl rfl (.nil) rfl fun key1 => Qm ?_))
  refine Qbf h fun y1 hy1 h => Qap 0 Try.underlying37 ty58 zr58 hy1 fun key2 cap1 => ?_
  refine Qa (Qnx (Wp.ret ?_))
  refine To.freezeL (α := T_api_Match) 0 [2, 7] ⟨rfl, rfl, trivial⟩ rfl ?_
  exact go
instance k48 : K1 Try.prog 48 _ _ L_slices_Clone_api_Match VP.of VP.of :=
  ⟨⟨_, Try.func48, rfl, by kernel_rfl⟩, fun _ _ h => C_slices_Clone_api_Match h⟩
theorem C_slices_Clone_api_Value {x0 r} (h : L_slices_Clone_api_Value x0 = some r) : Meets Try.prog 49 [VP.of (x0)] (VP.of (r)) := by
 unfold L_slices_Clone_api_Value at h
 refine Meets.of Try.func49 rfl Try.ntmps49 rfl fun W A => Qsr (Qv (r_asg (look_nil (α := T_api_Value))) ?_)
 refine go1 ?_
 refine Qv (r_nil Try.underlying38 (look_t rfl)) (Qnx ?_)
 refine Wp.condN (look_t rfl) (fun hx => ?_) ?_
 ·subst hx; replace h := clone_nil h; subst h
  have h : some ([] : List T_api_Value) = some [] := rfl
  refine Qsr (Qv (r_asg (look_nil (α := T_api_Value))) (Qnx (Wp.ret (To.ret ?_))))
  replace h := some_in h
  clear h
  exact Qe1
 ·refine Qkn (Qsr (Sq.bslO (α := T_api_Value) (r := ([] : List T_api_Value)) Try.underlying38 ty47 zr47 rfl rfl (.nil) rfl fun key1 => Qm ?_))
  refine Qbf h fun y1 hy1 h => Qap 0 Try.underlying38 ty47 zr47 hy1 fun key2 cap1 => ?_
  refine Qa (Qnx (Wp.ret ?_))
  refine To.freezeL (α := T_api_Value) 0 [2, 7] ⟨rfl, rfl, trivial⟩ rfl ?_
  exact go
instance k49 : K1 Try.prog 49 _ _ L_slices_Clone_api_Value VP.of VP.of :=
  ⟨⟨_, Try.func49, rfl, by kernel_rfl⟩, fun _ _ h => C_slices_Clone_api_Value h⟩
theorem Cn0_ordered_List_Lookup {x1 r} (h : Ln0_ordered_List_Lookup x1 = some r) : Meets Try.prog 6 [VP.eq (.pointer none), VP.of (x1)] (VP.tup [VP.of (r.1), VP.of (r.2)]) := by
 unfold Ln0_ordered_List_Lookup at h
 refine Meets.ofM Try.func6 rfl Try.ntmps6 rfl fun W A => ?_
 refine go1 fun p1 p2 p3 => ?_
 refine Qv (r_nilnil Try.underlying36 (look_t rfl)) (Qnx ?_)
 refine Wp.condT (look_t rfl) rfl ?_
 refine go1 ?_
 cases h
 refine To.endM ?_
 exact To.end2 rfl (Qrc 1 ty42) (Qrc 0 ty4)
theorem Cf0_mcase_Codes_Left {x0 r} (h : Lf0_mcase_Codes_Left x0 = some r) : Meets Try.prog 23 [VP.ptr x0] (VP.of (r)) := by
 unfold Lf0_mcase_Codes_Left at h
 refine Meets.of Try.func23 rfl Try.ntmps23 rfl fun W A => ?_
 refine go1 ?_
 refine Wp.dw 10 ?_
 exact go
instance k34 : K2 Try.prog 34 _ _ _ L_mcase_Mod VP.of VP.of VP.of := .i Try.func34 rfl Try.ntmps34 rfl fun x0 x1 r h W A => by
 unfold L_mcase_Mod at h
 exact go
instance k50 : K2 Try.prog 50 _ _ _ L_mcase_bitsOf VP.of VP.of VP.of := .i Try.func50 rfl Try.ntmps50 rfl fun x0 x1 r h W A => by
 unfold L_mcase_bitsOf at h
 refine go1 fun p1 => ?_
 refine Qbf h fun e1 hl h => ?_
 refine Qlp (γ:=Unit) (δ:=Unit) hl [0, 1, 2, 8, 9] (fun s1 g1 => [(4, VP.of (0 : Int)), (10, VP.of (s1))]) (fun s1 g1 => []) (fun q1 => Sum.elim (fun q1 => Exit.exit 0) (fun q1 => Exit.ret) q1) (fun q1 g1 => Sum.elim (fun q1 => [(4, VP.of (0 : Int)), (10, VP.of (q1.1)), (11, VP.of (q1.2))]) (fun q1 => [(4, VP.of (q1.1)), (10, VP.of (q1.2.1)), (11, VP.of (q1.2.2.1)), (17, VP.of (q1.2.2.2))]) q1) (fun q1 g1 => []) () (fun s1 r h g1 => ?_) fun g1 => ?_
 ·clear hl
  exact go
 ·clear hl
  rcases e1 with e1 | e1
  ·simp only [Sum.elim_inl] at h
   exact go
  ·simp only [Sum.elim_inr] at h
   exact go
end Go.Proofs.Ytmlgdkccoomiaaa

namespace Go.Proofs.Ytmlgdkccoomiaaa
open Go Gv
set_option linter.unusedVariables false
set_option linter.unusedSimpArgs false
set_option maxRecDepth 100000
set_option maxHeartbeats 2000000
attribute [local irreducible] Sq Wp To HR Look Stp LQG LQW VP.of VP.ptr VP.eq VP.cond VP.tup
instance k37 : K2 Try.prog 37 _ _ _ L_mcase_Low VP.of VP.of VP.of := .i Try.func37 rfl Try.ntmps37 rfl fun x0 x1 r h W A => by
 unfold L_mcase_Low at h
 exact go
instance k51 : K2 Try.prog 51 _ _ _ L_mcase_mask VP.of VP.of VP.of := .i Try.func51 rfl Try.ntmps51 rfl fun x0 x1 r h W A => by
 unfold L_mcase_mask at h
 exact go
instance k36 : K2 Try.prog 36 _ _ _ L_mcase_ActionIn VP.of VP.of VP.of := .i Try.func36 rfl Try.ntmps36 rfl fun x0 x1 r h W A => by
 unfold L_mcase_ActionIn at h
 refine go1 fun p1 p2 => ?_
 refine Qbf h fun e1 hl h => ?_
 refine Qlp (γ:=Unit) (δ:=Unit) hl [0, 1, 2, 4, 8, 9] (fun s1 g1 => [(10, VP.of (s1))]) (fun s1 g1 => []) (fun q1 => Sum.elim (fun q1 => Exit.exit 0) (fun q1 => Exit.ret) q1) (fun q1 g1 => Sum.elim (fun q1 => [(10, VP.of (q1.1)), (11, VP.of (q1.2))]) (fun q1 => [(10, VP.of (q1.1)), (11, VP.of (q1.2.1)), (17, VP.of (q1.2.2.1))]) q1) (fun q1 g1 => Sum.elim (fun q1 => []) (fun q1 => [(0, vr p2 q1.2.2.2)]) q1) () (fun s1 r h g1 => ?_) fun g1 => ?_
 ·clear hl
  exact go
 ·clear hl
  rcases e1 with e1 | e1
  ·simp only [Sum.elim_inl] at h
   exact go
  ·simp only [Sum.elim_inr] at h
   exact go
theorem C_ordered_List_find_fn1 {x0 x1 r} (h : L_ordered_List_find_fn1 x0 x1 = some r) : Meets Try.prog 42 [VP.of (x0), VP.ptr x1] (VP.of (r)) := by
 unfold L_ordered_List_find_fn1 at h
 refine Meets.of Try.func42 rfl Try.ntmps42 rfl fun W A => ?_
 exact go
theorem C_slices_IndexFunc_api_Installed {x0 x1 r} (h : L_slices_IndexFunc_api_Installed x0 x1 = some r) : Meets Try.prog 41 [VP.of (x0), VP.fn1 Try.prog x1] (VP.of (r)) := by
 unfold L_slices_IndexFunc_api_Installed at h
 refine Meets.of Try.func41 rfl Try.ntmps41 rfl fun W A => ?_
 refine go1 ?_
 refine Qbf h fun e1 hl h => ?_
 refine Qlp (γ:=Unit) (δ:=Unit) hl [0, 1, 7] (fun s1 g1 => [(4, VP.of (0 : Int)), (8, VP.of (s1))]) (fun s1 g1 => []) (fun q1 => Sum.elim (fun q1 => Exit.exit 0) (fun q1 => Exit.ret) q1) (fun q1 g1 => Sum.elim (fun q1 => [(4, VP.of (0 : Int)), (8, VP.of (q1.1)), (9, VP.of (q1.2))]) (fun q1 => [(4, VP.of (q1.1)), (5, VP.of (q1.2.1)), (8, VP.of (q1.2.2.1)), (9, VP.of (q1.2.2.2.1)), (16, VP.of (q1.2.2.2.2))]) q1) (fun q1 g1 => []) () (fun s1 r h g1 => ?_) fun g1 => ?_
 ·clear hl
  refine go1 (fun k1 hk1 h => ?_)
  refine Qbf h fun y1 hy1 h => Qv (r_callF1 (look_t rfl) (look_t rfl) hy1) ?_
  exact go
 ·clear hl
  rcases e1 with e1 | e1
  ·simp only [Sum.elim_inl] at h
   exact go
  ·simp only [Sum.elim_inr] at h
   exact go
theorem C_slices_BinarySearchFunc_api_Installed {x0 x1 x2 r} (h : L_slices_BinarySearchFunc_api_Installed x0 x1 x2 = some r) : Meets Try.prog 39 [VP.of (x0), VP.of (x1), VP.fn2 Try.prog x2] (VP.tup [VP.of (r.1), VP.of (r.2)]) := by
 unfold L_slices_BinarySearchFunc_api_Installed at h
 refine Meets.of Try.func39 rfl Try.ntmps39 rfl fun W A => ?_
 refine go1 fun p1 => ?_
 refine Qbf h fun e1 hl h => ?_
 refine Qlp (γ:=Unit) (δ:=Unit) hl [0, 1, 2, 4, 6, 7, 8] (fun s1 g1 => [(9, VP.of (s1.1)), (10, VP.of (s1.2))]) (fun s1 g1 => []) (fun q1 => Exit.exit 0) (fun q1 g1 => [(9, VP.of (q1.1)), (10, VP.of (q1.2.1)), (17, VP.of (q1.2.2))]) (fun q1 g1 => []) () (fun s1 r h g1 => ?_) fun g1 => ?_
 ·clear hl
  refine go1 (fun h => ?_)
  refine Qbf h fun k1 hk1 h => Qbf h fun y1 hy1 h => Wp.dv mixed 8 (rg 24 8) [[], [], [], [1, 2], [3], [], [0, 4, 5], [6]] [_, _, _, _, _, _, _, _] ⟨Hm, Hm, Hm, Hix hk1 Try.underlying51 ty42, H1 (r_loadp ty42), Hl0 0 ty42, Hu fun hL => r_callF2 (look_t rfl) (look_t rfl) (look_t rfl) hy1, H2 r_lss, trivial⟩ (Qnx ?_)
  refine Qbf h fun m1 hm1 h => ?_
  refine Qcm (γ:=Unit) [0, 1, 2, 4, 6, 7, 8, 11, 17, 31] (fun g2 => [(9, VP.of (m1.1)), (10, VP.of (m1.2))]) (fun g2 => []) (fun g2 => ?_) (fun hm hc => ?_) fun hm hc => ?_
  ·clear hm1
   exact go
  ·have h := cond_t hc hm1
   exact go
  ·have h := cond_f hc hm1
   exact go
 ·clear hl
  refine To.bexit (To.next (Wp.seq (Qbf h fun k2 hk2 h => Qbf h fun y2 hy2 h => Qwl [0, 1, 2, 4, 8, 9, 10, 17] ?_)))
  refine Wp.en 1 (Hp 35 [] [] _ :: Hp 36 [] [] _ :: Hp 37 [] [] _ :: Hp 38 [1, 2] [] _ :: Hp 39 [3] [] _ :: Hp 40 [4] [] _ :: Hp 41 [4] [] _ :: Hp 42 [4] [] _ :: Hp 43 [4, 6, 7] [] _ :: Hp 44 [4, 8] [] _ :: Hp 45 [4] [0] _ :: Hp 46 [4, 5, 9, 10] [] (VP.cond ((decide (e1.1 < (x0.length : Int))) = true) (VP.of (y2))) :: Hp 47 [4, 11] [] _ :: Hp 48 [4, 12] [] _ :: Hp 6 [0] [] _ :: Hp 7 [13] [] _ :: []) (ki ?_ kn) (fun hd1 => ?_)
  ·exact HeadD.q (hd_g rfl rfl rfl rfl (fun hd => rfl) fun hd E' L' hE hL hb => r_callF2 (look_tc (hE _ _ rfl) hb) (look_tc (hE _ _ rfl) hb) (look_tc (hE _ _ rfl) hb) (condM_some hy2 hb))
  refine To.eqL (L2 := [vr p1 x1]) rfl (Qte ?_)
  exact go
instance k78 : K1 Try.prog 78 _ _ L_cmp_isNaN_int VP.of VP.of := .i Try.func78 rfl Try.ntmps78 rfl fun x0 r h W A => by
 unfold L_cmp_isNaN_int at h
 exact go
theorem C_slices_IndexFunc_api_Key {x0 x1 r} (h : L_slices_IndexFunc_api_Key x0 x1 = some r) : Meets Try.prog 79 [VP.of (x0), VP.fn1 Try.prog x1] (VP.of (r)) := by
 unfold L_slices_IndexFunc_api_Key at h
 refine Meets.of Try.func79 rfl Try.ntmps79 rfl fun W A => ?_
 refine go1 ?_
 refine Qbf h fun e1 hl h => ?_
 refine Qlp (γ:=Unit) (δ:=Unit) hl [0, 1, 7] (fun s1 g1 => [(4, VP.of (0 : Int)), (8, VP.of (s1))]) (fun s1 g1 => []) (fun q1 => Sum.elim (fun q1 => Exit.exit 0) (fun q1 => Exit.ret) q1) (fun q1 g1 => Sum.elim (fun q1 => [(4, VP.of (0 : Int)), (8, VP.of (q1.1)), (9, VP.of (q1.2))]) (fun q1 => [(4, VP.of (q1.1)), (5, VP.of (q1.2.1)), (8, VP.of (q1.2.2.1)), (9, VP.of (q1.2.2.2.1)), (16, VP.of (q1.2.2.2.2))]) q1) (fun q1 g1 => []) () (fun s1 r h g1 => ?_) fun g1 => ?_
 ·clear hl
  refine go1 (fun k1 hk1 h => ?_)
  refine Qbf h fun y1 hy1 h => Qv (r_callF1 (look_t rfl) (look_t rfl) hy1) ?_
  exact go
 ·clear hl
  rcases e1 with e1 | e1
  ·simp only [Sum.elim_inl] at h
   exact go
  ·simp only [Sum.elim_inr] at h
   exact go
theorem C_entry_Prefix_fn1 {x0 r} (h : L_entry_Prefix_fn1 x0 = some r) : Meets Try.prog 80 [VP.of (x0)] (VP.of (r)) := by
 unfold L_entry_Prefix_fn1 at h
 refine Meets.of Try.func80 rfl Try.ntmps80 rfl fun W A => ?_
 exact go
instance k62 : K1 Try.prog 62 _ _ L_entry_first VP.of VP.of := .i Try.func62 rfl Try.ntmps62 rfl fun x0 r h W A => by
 unfold L_entry_first at h
 refine go1 ?_
 refine Qbf h fun e1 hl h => ?_
 refine Qlp (γ:=Unit) (δ:=Unit) hl [0, 5, 6] (fun s1 g1 => [(2, VP.of (0 : Int)), (7, VP.of (s1))]) (fun s1 g1 => []) (fun q1 => Sum.elim (fun q1 => Exit.exit 0) (fun q1 => Exit.ret) q1) (fun q1 g1 => Sum.elim (fun q1 => [(2, VP.of (0 : Int)), (7, VP.of (q1.1)), (8, VP.of (q1.2))]) (fun q1 => [(2, VP.of (q1.1)), (4, VP.of (q1.2.1)), (7, VP.of (q1.2.2.1)), (8, VP.of (q1.2.2.2.1)), (12, VP.of (q1.2.2.2.2))]) q1) (fun q1 g1 => []) () (fun s1 r h g1 => ?_) fun g1 => ?_
 ·clear hl
  exact go
 ·clear hl
  rcases e1 with e1 | e1
  ·simp only [Sum.elim_inl] at h
   exact go
  ·simp only [Sum.elim_inr] at h
   exact go
end Go.Proofs.Ytmlgdkccoomiaaa

namespace Go.Proofs.Ytmlgdkccoomiaaa
open Go Gv
set_option linter.unusedVariables false
set_option linter.unusedSimpArgs false
set_option maxRecDepth 100000
set_option maxHeartbeats 2000000
attribute [local irreducible] Sq Wp To HR Look Stp LQG LQW VP.of VP.ptr VP.eq VP.cond VP.tup
theorem Cq0_1_ordered_New {x0 r} (h : Lq0_1_ordered_New x0 = some r) : MeetsO Try.prog 7 [VP.of (x0)] [] (δ := Nat × (Option Nat × Nat)) (fun d => VP.pb d.1) (fun d => [⟨some d.1, .varX ({ r with f_l := [] } : T_ordered_List) [(10, slv d.2.1 (r.f_l).length d.2.2)]⟩, ⟨d.2.1, .row 42 r.f_l d.2.2⟩]) := by
 unfold Lq0_1_ordered_New at h
 refine MeetsO.of Try.func7 rfl Try.ntmps7 rfl fun W A => Qsr (Qbx fun p1 => ?_)
 refine Qv (r_asg (look_e (.pointer none))) (Qnr ?_)
 refine Ql0 0 ty32 ?_
 refine Qv (r_buildX (b := ({ (default : T_ordered_List) with f_schema := x0 } : T_ordered_List)) [10] zh87_10 rfl bu87 zr87 (.cons le_T_ordered_List_schema rfl (look_t rfl) rfl (by rfl) (.nil))) ?_
 refine Sq.own (α := T_api_Installed) 42 (Sq.boxX (look_t rfl) rfl fun p2 => Qa (Qnx (Wp.ret ?_)))
 refine To.clr (γ := T_api_Installed) (b' := ({ ({ (default : T_ordered_List) with f_schema := x0 } : T_ordered_List) with f_l := [] } : T_ordered_List)) ((Lens.id T_ordered_List).comp le_T_ordered_List_l) 0 0 rfl rfl rfl (To.bring 1 rfl (To.bring 1 rfl ?_))
 cases h
 exact Qo1 (p2, (none, 0))
theorem Cn0_ordered_List_Len   {r : Int} (h : Ln0_ordered_List_Len  = some r) : Meets Try.prog 9 [VP.eq (.pointer none)] (VP.of (r)) := by
 unfold Ln0_ordered_List_Len at h
 refine Meets.of Try.func9 rfl Try.ntmps9 rfl fun W A => ?_
 refine go1 ?_
 refine Qv (r_nilnil Try.underlying36 (look_t rfl)) (Qnx ?_)
 refine Wp.condT (look_t rfl) rfl ?_
 exact go
theorem Cn0_ordered_List_find {x1 r} (h : Ln0_ordered_List_find x1 = some r) : Meets Try.prog 26 [VP.eq (.pointer none), VP.of (x1)] (VP.of (r)) := by
 unfold Ln0_ordered_List_find at h
 refine Meets.of Try.func26 rfl Try.ntmps26 rfl fun W A => ?_
 refine go1 fun p1 => ?_
 refine Qv (r_nilnil Try.underlying36 (look_t rfl)) (Qnx ?_)
 refine Wp.condT (look_t rfl) rfl ?_
 exact go
end Go.Proofs.Ytmlgdkccoomiaaa

namespace Go.Proofs.Ytmlgdkccoomiaaa
open Go Gv
set_option linter.unusedVariables false
set_option linter.unusedSimpArgs false
set_option maxRecDepth 100000
set_option maxHeartbeats 2000000
attribute [local irreducible] Sq Wp To HR Look Stp LQG LQW VP.of VP.ptr VP.eq VP.cond VP.tup
instance k69 : K2 Try.prog 69 _ _ _ L_ref04_index VP.of VP.of VP.of := .i Try.func69 rfl Try.ntmps69 rfl fun x0 x1 r h W A => by
 unfold L_ref04_index at h
 refine go1 ?_
 refine Qbf h fun e1 hl h => ?_
 refine Qlp (γ:=Unit) (δ:=Unit) hl [0, 1, 7, 8] (fun s1 g1 => [(4, VP.of (0 : Int)), (9, VP.of (s1))]) (fun s1 g1 => []) (fun q1 => Sum.elim (fun q1 => Exit.exit 0) (fun q1 => Exit.ret) q1) (fun q1 g1 => Sum.elim (fun q1 => [(4, VP.of (0 : Int)), (9, VP.of (q1.1)), (10, VP.of (q1.2))]) (fun q1 => [(4, VP.of (q1.1)), (5, VP.of (q1.2.1)), (6, VP.of (q1.2.2.1)), (9, VP.of (q1.2.2.2.1)), (10, VP.of (q1.2.2.2.2.1)), (16, VP.of (q1.2.2.2.2.2))]) q1) (fun q1 g1 => []) () (fun s1 r h g1 => ?_) fun g1 => ?_
 ·clear hl
  exact go
 ·clear hl
  rcases e1 with e1 | e1
  ·simp only [Sum.elim_inl] at h
   exact go
  ·simp only [Sum.elim_inr] at h
   exact go
instance k66 : K2 Try.prog 66 _ _ _ L_ref10_number VP.of VP.of VP.of := .i Try.func66 rfl Try.ntmps66 rfl fun x0 x1 r h W A => by
 unfold L_ref10_number at h
 exact go
instance k85 : K1 Try.prog 85 _ _ L_ref01_Read VP.of VP.of := .i Try.func85 rfl Try.ntmps85 rfl fun x0 r h W A => by
 unfold L_ref01_Read at h
 refine go1 fun p1 p2 p3 => ?_
 refine Qbf h fun e1 hl h => ?_
 refine Qlp (γ:=Unit) (δ:=Unit) hl [0, 1, 2, 3] (fun s1 g1 => [(4, VP.of (s1.1))]) (fun s1 g1 => [(0, vr p3 s1.2)]) (fun q1 => Exit.exit 0) (fun q1 g1 => [(4, VP.of (q1.1)), (6, VP.of (q1.2.1))]) (fun q1 g1 => [(0, vr p3 q1.2.2)]) () (fun s1 r h g1 => ?_) fun g1 => ?_
 ·clear hl
  refine go1 (fun h => ?_)
  refine Qbf h fun k1 hk1 h => Qbf h fun z1 hz1 h => Qbf h fun k2 hk2 h => Qbf h fun z2 hz2 h => Qwl [0, 1, 2, 3, 4, 5, 6] ?_
  refine Wp.ew 3 (Hp 9 [] [] _ :: Hp 10 [] [] _ :: Hp 11 [1] [] _ :: Hp 12 [] [] _ :: Hp 13 [3] [2] _ :: Hp 14 [] [] _ :: Hp 15 [5] [] _ :: Hp 16 [4, 6] [] _ :: Hp 17 [7] [] _ :: Hp 18 [8] [] _ :: Hp 19 [] [] _ :: Hp 20 [10] [2] _ :: Hp 21 [] [] _ :: Hp 22 [12] [] _ :: Hp 23 [11, 13] [] _ :: Hp 24 [14] [] _ :: Hp 25 [15] [] _ :: Hp 26 [0] [] _ :: Hs [9, 17] [0] [0] (fun hd => vr p3 z1) :: Hp 27 [2] [] _ :: Hs [16, 18, 19] [0] [0] (fun hd => vr p3 z2) :: []) (fun hd1 => ?_)
  refine To.eqL (L2 := [vr p3 z2, vr p2 (default : Vector Bool 128), vr p1 x0]) rfl (Qte ?_)
  exact go
 ·clear hl
  exact go
theorem Cf0_ordered_List_Len {x0 r} (h : Lf0_ordered_List_Len x0 = some r) : Meets Try.prog 9 [VP.ptr x0] (VP.of (r)) := by
 unfold Lf0_ordered_List_Len at h
 refine Meets.of Try.func9 rfl Try.ntmps9 rfl fun W A => ?_
 refine go1 ?_
 refine Qv (r_pnilp Try.underlying36 (look_t rfl)) (Qnx ?_)
 refine Wp.condF (look_t rfl) rfl ?_
 exact go
theorem Co_slices_Clone_api_Match {x0 r} (h : L_slices_Clone_api_Match x0 = some r) : MeetsO Try.prog 48 [VP.of (x0)] [] (δ := (Option Nat × Nat)) (fun d => VP.eq (slv d.1 (r).length d.2)) (fun d => [⟨d.1, .row 58 r d.2⟩]) := by
 unfold L_slices_Clone_api_Match at h
 refine MeetsO.of Try.func48 rfl Try.ntmps48 rfl fun W A => Qsr (Sq.own (α := T_api_Match) 58 (Qv (r_asg look_own) ?_))
 refine go1 ?_
 refine Qv (r_nil Try.underlying37 (look_t rfl)) (Qnx ?_)
 refine Wp.condN (look_t rfl) (fun hx => ?_) ?_
 ·subst hx; replace h := clone_nil h; subst h
  have h : some ([] : List T_api_Match) = some [] := rfl
  refine Qsr (Sq.own (α := T_api_Match) 58 (Qv (r_asg look_own) (Qnx (Wp.ret (To.ret ?_)))))
  refine To.bring 0 rfl ?_
  replace h := some_in h
  clear h
  exact Qo1 (none, 0)
 ·refine Qkn (Qsr (Sq.bslO (α := T_api_Match) (r := ([] : List T_api_Match)) Try.underlying37 ty58 zr58 rfl rfl (.nil) rfl fun key1 => Qm ?_))
  refine Qbf h fun y1 hy1 h => Qap 0 Try.underlying37 ty58 zr58 hy1 fun key2 cap1 => ?_
  refine Qa (Qnx (Wp.ret ?_))
  refine To.bring 0 rfl ?_
  cases h
  exact Qo1 (key2, cap1)
theorem Co_slices_Clone_api_Value {x0 r} (h : L_slices_Clone_api_Value x0 = some r) : MeetsO Try.prog 49 [VP.of (x0)] [] (δ := (Option Nat × Nat)) (fun d => VP.eq (slv d.1 (r).length d.2)) (fun d => [⟨d.1, .row 47 r d.2⟩]) := by
 unfold L_slices_Clone_api_Value at h
 refine MeetsO.of Try.func49 rfl Try.ntmps49 rfl fun W A => Qsr (Sq.own (α := T_api_Value) 47 (Qv (r_asg look_own) ?_))
 refine go1 ?_
 refine Qv (r_nil Try.underlying38 (look_t rfl)) (Qnx ?_)
 refine Wp.condN (look_t rfl) (fun hx => ?_) ?_
 ·subst hx; replace h := clone_nil h; subst h
  have h : some ([] : List T_api_Value) = some [] := rfl
  refine Qsr (Sq.own (α := T_api_Value) 47 (Qv (r_asg look_own) (Qnx (Wp.ret (To.ret ?_)))))
  refine To.bring 0 rfl ?_
  replace h := some_in h
  clear h
  exact Qo1 (none, 0)
 ·refine Qkn (Qsr (Sq.bslO (α := T_api_Value) (r := ([] : List T_api_Value)) Try.underlying38 ty47 zr47 rfl rfl (.nil) rfl fun key1 => Qm ?_))
  refine Qbf h fun y1 hy1 h => Qap 0 Try.underlying38 ty47 zr47 hy1 fun key2 cap1 => ?_
  refine Qa (Qnx (Wp.ret ?_))
  refine To.bring 0 rfl ?_
  cases h
  exact Qo1 (key2, cap1)
theorem C_mcase_Codes_Next {x0 x1 pp0 r} (h : L_mcase_Codes_Next x0 x1 = some r) : MV Try.prog 15 [VP.pb pp0, VP.of (x1)] pp0 x0 (VP.of (r.1)) r.2 := by
 unfold L_mcase_Codes_Next at h
 refine MeetsO.of Try.func15 rfl Try.ntmps15 rfl fun W A => ?_
 refine go1 ?_
 refine Qbf h fun y1 hy1 h => Sq.vS (HS.call [0] en23 (C_mcase_Codes_Left hy1) ⟨look_t rfl, trivial⟩ rfl ⟨rfl, trivial⟩ rfl) rfl rfl rfl ?_
 refine go1 (fun h => ?_)
 refine Qbf h fun k1 hk1 h => Qbf h fun y2 hy2 h => Wp.dw 14 ?_
 exact go
instance k57 : K2 Try.prog 57 _ _ _ L_check_TableOf VP.of VP.of VP.of := .i Try.func57 rfl Try.ntmps57 rfl fun x0 x1 r h W A => by
 unfold L_check_TableOf at h
 refine go1 fun p1 p2 => ?_
 refine Sq.share (α := Int) 0 3 rfl rfl (Qv (r_clo1 (F := (fun a0 => L_check_TableOf_fn1 a0 x1)) (τs := [VP.ptr x1]) en72 ⟨look_t rfl, trivial⟩ (fun _ _ h => C_check_TableOf_fn1 h)) ?_)
 refine Qbf h fun y1 hy1 h => Qcl en71 (C_slices_IndexFunc_api_Table hy1) ?_
 exact go
instance k61 : K2 Try.prog 61 _ _ _ L_check_FieldOf VP.of VP.of VP.of := .i Try.func61 rfl Try.ntmps61 rfl fun x0 x1 r h W A => by
 unfold L_check_FieldOf at h
 refine go1 fun p1 p2 => ?_
 refine Sq.share (α := Int) 0 3 rfl rfl (Qv (r_clo1 (F := (fun a0 => L_check_FieldOf_fn1 a0 x1)) (τs := [VP.ptr x1]) en77 ⟨look_t rfl, trivial⟩ (fun _ _ h => C_check_FieldOf_fn1 h)) ?_)
 refine Qbf h fun y1 hy1 h => Qcl en76 (C_slices_IndexFunc_api_Field hy1) ?_
 exact go
instance k75 : K1 Try.prog 75 _ _ L_value_Ones VP.of VP.of := .i Try.func75 rfl Try.ntmps75 rfl fun x0 r h W A => by
 unfold L_value_Ones at h
 exact go
instance k33 : K1 Try.prog 33 _ _ L_own_Entry VP.of VP.of := .i Try.func33 rfl Try.ntmps33 rfl fun x0 r h W A => by
 unfold L_own_Entry at h
 refine go1 fun p1 p2 => ?_
 refine Qbf h fun y1 hy1 h => Qbf h fun y2 hy2 h => Wp.dw 7 ?_
 refine Qst 1 le_T_api_Entry_Matches ty37 ?_
 refine Q1 (r_fa fd40_4.fd) ?_
 refine Qbf h fun z1 hz1 h => ?_
 refine Qsn 1 le_T_api_Entry_Args ty38 (hb := by exact hz1) ?_
 exact go
theorem Cf0_ordered_List_find {x0 x1 r} (h : Lf0_ordered_List_find x0 x1 = some r) : Meets Try.prog 26 [VP.ptr x0, VP.of (x1)] (VP.of (r)) := by
 unfold Lf0_ordered_List_find at h
 refine Meets.of Try.func26 rfl Try.ntmps26 rfl fun W A => ?_
 refine go1 fun p1 => ?_
 refine Qv (r_pnilp Try.underlying36 (look_t rfl)) (Qnx ?_)
 refine Wp.condF (look_t rfl) rfl ?_
 refine go1 ?_
 refine Sq.share (α := Int) 0 3 rfl rfl (Qv (r_clo1 (F := (fun a0 => L_ordered_List_find_fn1 a0 x1)) (τs := [VP.ptr x1]) en42 ⟨look_t rfl, trivial⟩ (fun _ _ h => C_ordered_List_find_fn1 h)) ?_)
 refine Qbf h fun y1 hy1 h => Qcl en41 (C_slices_IndexFunc_api_Installed hy1) ?_
 exact go
instance k63 : K2 Try.prog 63 _ _ _ L_cmp_Compare_int VP.of VP.of VP.of := .i Try.func63 rfl Try.ntmps63 rfl fun x0 x1 r h W A => by
 unfold L_cmp_Compare_int at h
 exact go
theorem Cn0_ordered_List_Remove {x1 r} (h : Ln0_ordered_List_Remove x1 = some r) : Meets Try.prog 10 [VP.eq (.pointer none), VP.of (x1)] (VP.of (r)) := by
 unfold Ln0_ordered_List_Remove at h
 refine Meets.of Try.func10 rfl Try.ntmps10 rfl fun W A => ?_
 refine go1 ?_
 refine Qbf h fun y1 hy1 h => Qcl en26 (Cn0_ordered_List_find hy1) ?_
 refine go1 (fun h => ?_)
 cases h
end Go.Proofs.Ytmlgdkccoomiaaa

namespace Go.Proofs.Ytmlgdkccoomiaaa
open Go Gv Go.Proofs.Try
set_option linter.unusedVariables false
set_option linter.unusedSimpArgs false
set_option maxRecDepth 100000

structure FE (N : Nat) where
  f_Table : Int
  f_Matches : Fz T_api_Match N 58
  f_Priority : Int
  f_Action : Int
  f_Args : Fz T_api_Value N 47
  deriving Inhabited
instance {N : Nat} : Rp (FE N) := .str (sxb Int (sxb (Fz T_api_Match N 58) (sxb Int (sxb Int (sxa (Fz T_api_Value N 47)))))) (fun x => (x.f_Table, x.f_Matches, x.f_Priority, x.f_Action, x.f_Args)) 5
abbrev fe_M (N : Nat) : Lens (FE N) (Fz T_api_Match N 58) := .str (sft sf2) 1 FE.f_Matches fun b g => { b with f_Matches := g }
abbrev fe_A (N : Nat) : Lens (FE N) (Fz T_api_Value N 47) := .str (sft (sft (sft (sft sf1)))) 4 FE.f_Args fun b g => { b with f_Args := g }
instance {N : Nat} : Zc (FE N) := ⟨Zc.cells Int ++ Zc.cells (Fz T_api_Match N 58) ++ Zc.cells Int ++ Zc.cells Int ++ Zc.cells (Fz T_api_Value N 47), fun A W => ⟨by rfl, Zc.ok (α := Int) A W, Zc.ok (α := Fz T_api_Match N 58) A W, Zc.ok (α := Int) A W, Zc.ok (α := Int) A W, Zc.ok (α := Fz T_api_Value N 47) A W⟩⟩
structure FI (N : Nat) where
  f_Entry : FE N
  f_Number : Int
  f_Owner : Int
  deriving Inhabited
instance {N : Nat} : Rp (FI N) := .str (sxb (FE N) (sxb Int (sxa Int))) (fun x => (x.f_Entry, x.f_Number, x.f_Owner)) 7
abbrev fi_E (N : Nat) : Lens (FI N) (FE N) := .str sf2 0 FI.f_Entry fun b g => { b with f_Entry := g }
instance {N : Nat} : Zc (FI N) := ⟨Zc.cells (FE N) ++ Zc.cells Int ++ Zc.cells Int, fun A W => ⟨by rfl, Zc.ok (α := FE N) A W, Zc.ok (α := Int) A W, Zc.ok (α := Int) A W⟩⟩
theorem fy42 {N : Nat} : Ty Try.prog 42 (FI N) := Ty.of (by rfl) Try.underlying42 (by kernel_rfl)
theorem fr42 {N : Nat} : Zr Try.prog 42 (default : FI N) := Zr.of (by kernel_rfl)
theorem fy40 {N : Nat} : Ty Try.prog 40 (FE N) := Ty.of (by rfl) Try.underlying40 (by kernel_rfl)
theorem fr40 {N : Nat} : Zr Try.prog 40 (default : FE N) := Zr.of (by kernel_rfl)
theorem fy37 {N : Nat} : Ty Try.prog 37 (Fz T_api_Match N 58) := Ty.of (by rfl) Try.underlying37 (by kernel_rfl)
theorem fy38 {N : Nat} : Ty Try.prog 38 (Fz T_api_Value N 47) := Ty.of (by rfl) Try.underlying38 (by kernel_rfl)

theorem eo48 : En Try.prog 48 := ⟨_, Try.func48, rfl, by kernel_rfl⟩
theorem eo49 : En Try.prog 49 := ⟨_, Try.func49, rfl, by kernel_rfl⟩
theorem eo33 : En Try.prog 33 := ⟨_, Try.func33, rfl, by kernel_rfl⟩
theorem eo22 : En Try.prog 22 := ⟨_, Try.func22, rfl, by kernel_rfl⟩

def toFE (N : Nat) (b : Bool) (x : T_api_Entry) : FE N := ⟨x.f_Table, ⟨x.f_Matches, b⟩, x.f_Priority, x.f_Action, ⟨x.f_Args, b⟩⟩
def toFI (N : Nat) (b : Bool) (x : T_api_Installed) : FI N := ⟨toFE N b x.f_Entry, x.f_Number, x.f_Owner⟩
theorem imp_FE {N : Nat} {x : T_api_Entry} : Imp (.of x) (.of (toFE N false x)) := fun A W v ⟨h1, h2, h3, ⟨u, h4, h5⟩, h6, h7, ⟨w, h8, h9⟩⟩ =>
  ⟨h1, h2, h3, ⟨u, h4, h5, fun e => by cases e⟩, h6, h7, ⟨w, h8, h9, fun e => by cases e⟩⟩
theorem imp_EF {N : Nat} {b : Bool} {x : T_api_Entry} : Imp (.of (toFE N b x)) (.of x) := fun A W v ⟨h1, h2, h3, ⟨u, h4, h5, _⟩, h6, h7, ⟨w, h8, h9, _⟩⟩ =>
  ⟨h1, h2, h3, ⟨u, h4, h5⟩, h6, h7, ⟨w, h8, h9⟩⟩
theorem imp_FI {N : Nat} {x : T_api_Installed} : Imp (.of x) (.of (toFI N false x)) := fun A W v ⟨h1, h2, ⟨h0, h3, ⟨u, h4, h5⟩, h6, h7, ⟨w, h8, h9⟩⟩, h10, h11⟩ =>
  ⟨h1, h2, ⟨h0, h3, ⟨u, h4, h5, fun e => by cases e⟩, h6, h7, ⟨w, h8, h9, fun e => by cases e⟩⟩, h10, h11⟩
theorem look_imp {c : Cx} {E : List (Nat × VP)} {L : List Ent} {x : Operand} {τ τ' : VP} (h : Look c E L x τ) (i : Imp τ τ') : Look c E L x τ' := fun a W s => i _ _ _ (h a W s)

theorem CN_Entry {N : Nat} {x0 r : T_api_Entry} (h : L_own_Entry x0 = some r) : MeetsN N Try.prog 33 [VP.of x0] (VP.of (toFE N true r)) := by
  unfold L_own_Entry at h
  refine MeetsN.of Try.func33 rfl Try.ntmps33 rfl fun W A hN => Wp.imp 0 rfl (imp_FE (N := N)) ?_
  refine Qsr (Qbx fun p1 => ?_)
  refine Qal (fr40 (N := N)) fun p2 => Qns ?_
  refine Qbf h fun y1 hy1 h => Qbf h fun y2 hy2 h => Wp.dv mixed 7 (rg 3 7) [[], [0], [1], [], [3], [4], []] [_, _, _, _, _, _, _] ⟨H1 (r_fa fd40_1.fd), Hld 1 (fe_M N) fy37, HclN hN eo48 (MeetsO.new (Co_slices_Clone_api_Match hy1) N) (fun L' => ⟨look_fz (look_t rfl), trivial⟩), H1 (r_fa fd40_4.fd), Hld 1 (fe_A N) fy38, HclN hN eo49 (MeetsO.new (Co_slices_Clone_api_Value hy2) N) (fun L' => ⟨look_fz (look_t rfl), trivial⟩), H1 (r_fa fd40_1.fd), trivial⟩ ?_
  refine Qst 1 (fe_M N) fy37 ?_
  refine Q1 (r_fa fd40_4.fd) ?_
  refine Qst 1 (fe_A N) fy38 ?_
  refine Qnr (Ql0 1 fy40 ?_)
  refine Qs0 0 fy40 (Qnx (Wp.ret ?_))
  cases h
  exact To.end1 rfl (Qrc 0 fy40)
theorem CN_Installed {N : Nat} {x0 r : T_api_Installed} (h : L_own_Installed x0 = some r) : MeetsN N Try.prog 22 [VP.of x0] (VP.of (toFI N true r)) := by
  unfold L_own_Installed at h
  refine MeetsN.of Try.func22 rfl Try.ntmps22 rfl fun W A hN => Wp.imp 0 rfl (imp_FI (N := N)) ?_
  refine Qsr (Qbx fun p1 => ?_)
  refine Qal (fr42 (N := N)) fun p2 => Qnr ?_
  refine Q1 (r_fa fd42_0.fd) ?_
  refine Qld 1 (fi_E N) fy40 ?_
  refine Qbf h fun y1 hy1 h => Qv (r_callN hN eo33 (CN_Entry (N := N) hy1) ⟨look_imp (look_t rfl) (imp_EF (b := false)), trivial⟩) ?_
  refine Q1 (r_fa fd42_0.fd) ?_
  refine Qst 1 (fi_E N) fy40 (Qnr ?_)
  refine Ql0 1 fy42 ?_
  refine Qs0 0 fy42 (Qnx (Wp.ret ?_))
  cases h
  exact To.end1 rfl (Qrc 0 fy42)
end Go.Proofs.Ytmlgdkccoomiaaa

namespace Go.Proofs.Ytmlgdkccoomiaaa
open Go Gv Go.Proofs.Try
set_option linter.unusedVariables false
set_option linter.unusedSimpArgs false
set_option maxRecDepth 100000

instance inhEx : Inhabited Ex := ⟨⟨.slice none 0 0⟩⟩
instance : Zc Ex := ⟨[.slice none 0 0], fun _ _ => ⟨rfl, rfl⟩⟩
structure RE where
  f_Table : Int
  f_Matches : Ex
  f_Priority : Int
  f_Action : Int
  f_Args : List T_api_Value
  deriving Inhabited
instance : Rp RE := .str (sxb Int (sxb Ex (sxb Int (sxb Int (sxa (List T_api_Value)))))) (fun x => (x.f_Table, x.f_Matches, x.f_Priority, x.f_Action, x.f_Args)) 5
abbrev re_M : Lens RE Ex := .str (sft sf2) 1 RE.f_Matches fun b g => { b with f_Matches := g }
instance : Zc RE := ⟨Zc.cells Int ++ Zc.cells Ex ++ Zc.cells Int ++ Zc.cells Int ++ Zc.cells (List T_api_Value), fun A W => ⟨by rfl, Zc.ok (α := Int) A W, Zc.ok (α := Ex) A W, Zc.ok (α := Int) A W, Zc.ok (α := Int) A W, Zc.ok (α := List T_api_Value) A W⟩⟩
structure RI where
  f_Entry : RE
  f_Number : Int
  f_Owner : Int
  deriving Inhabited
instance : Rp RI := .str (sxb RE (sxb Int (sxa Int))) (fun x => (x.f_Entry, x.f_Number, x.f_Owner)) 7
abbrev ri_E : Lens RI RE := .str sf2 0 RI.f_Entry fun b g => { b with f_Entry := g }
instance : Zc RI := ⟨Zc.cells RE ++ Zc.cells Int ++ Zc.cells Int, fun A W => ⟨by rfl, Zc.ok (α := RE) A W, Zc.ok (α := Int) A W, Zc.ok (α := Int) A W⟩⟩
theorem gy42 : Ty Try.prog 42 RI := Ty.of (by rfl) Try.underlying42 (by kernel_rfl)
theorem gr42 : Zr Try.prog 42 (default : RI) := Zr.of (by kernel_rfl)
theorem gy37 : Ty Try.prog 37 Ex := Ty.of (by rfl) Try.underlying37 (by kernel_rfl)

def toRI (r : T_api_Installed) (d : Option Nat × Nat) : RI := ⟨⟨r.f_Entry.f_Table, ⟨slv d.1 r.f_Entry.f_Matches.length d.2⟩, r.f_Entry.f_Priority, r.f_Entry.f_Action, r.f_Entry.f_Args⟩, r.f_Number, r.f_Owner⟩
def entR (r : T_api_Installed) (d : Option Nat × Nat) : Ent := ⟨d.1, CP.rowE T_api_Match 58 r.f_Entry.f_Matches.length d.2⟩

theorem sl_len {α : Type} [Rp α] {A W} {xs : List α} {v : Value} (h : Sl A W v xs) : (v = .slice none 0 0 ∧ xs = []) ∨ ∃ b off cap, v = .slice (some ⟨b, off, none⟩) xs.length cap := by
  rcases h with h | ⟨b, off, cap, cur, T, fz, h1, _⟩
  · exact .inl h
  · exact .inr ⟨b, off, cap, h1⟩
theorem slice_inj {b b' o o' n n' k k' : Nat} (h : Value.slice (some ⟨b, o, none⟩) n k = .slice (some ⟨b', o', none⟩) n' k') : b = b' ∧ n = n' := by
  injection h with e1 e2 e3
  injection e1 with e1
  injection e1 with e1 e4 e5
  exact ⟨e1, e2⟩
theorem sl_other {A : List Nat} {W : World} {b N : Nat} {w : Value} {xs : List T_api_Value} {o : Obj} {ms : List T_api_Match} {cap : Nat} (hb : W.heap[b]? = some o) (ho : (CP.row 58 ms cap).holds A W o) (h : Sl A W w xs) (p : Pin T_api_Value N 47 A W w) : Sl ([b] ++ A) W w xs := by
  rcases h with h | ⟨b1, off, cap1, cur, T, fz, h1, h2, h3, h4, h5, h6, h7⟩
  · exact .inl h
  · refine .inr ⟨b1, off, cap1, cur, T, fz, h1, ?_, h3, h4, h5, h6, h7⟩
    intro hm
    rcases List.mem_append.1 hm with hm | hm
    · have hm := List.mem_singleton.1 hm
      subst hm
      rcases p with p | ⟨b2, cap2, o2, ys, p1, p2, p3, p4, p5⟩
      · rw [p] at h1; cases h1
      · rw [p1] at h1
        have e := (slice_inj h1).1
        subst e
        rw [hb] at p4
        cases p4
        obtain ⟨c1, e1, _⟩ := ho
        obtain ⟨c2, e2, _⟩ := p5
        rw [e1] at e2
        cases e2
    · exact h2 hm

theorem CO_Installed {x0 r : T_api_Installed} (h : L_own_Installed x0 = some r) : MeetsO Try.prog 22 [VP.of x0] [] (δ := Option Nat × Nat) (fun d => VP.of (toRI r d)) (fun d => [entR r d]) := by
  intro A W vs hA hnd hlt hok hv
  refine (CN_Installed (N := W.heap.size) h A W vs (fun k hk => (hA k hk).1) (Nat.le_refl _) hv).mono ?_
  rintro e W' ⟨v, h1, h2, hs, hl, ⟨h0, t1, ⟨u, hu, su, pu⟩, t3, t4, ⟨w, hw, sw, pw⟩⟩, n1, n2⟩
  have su : Sl A W' u r.f_Entry.f_Matches := su
  have sw : Sl A W' w r.f_Entry.f_Args := sw
  rcases pu rfl with rfl | ⟨b, cap, o, xs, rfl, hb, hbA, hbo, hrow⟩
  · have he : r.f_Entry.f_Matches = [] := by
      rcases sl_len su with h | ⟨b, off, cap, h⟩
      · exact h.2
      · cases h
    refine ⟨v, (none, 0), h1, h2, .nil, fun k hk => (by cases hk), fun e he' => ?_, hs, hl, ⟨h0, t1, ⟨hu, rfl⟩, t3, t4, ⟨w, hw, sw⟩⟩, n1, n2⟩
    rw [List.mem_singleton.1 he']
    exact ⟨by rw [he]; rfl, rfl⟩
  · have he : r.f_Entry.f_Matches.length = xs.length := by
      rcases sl_len su with h | ⟨b, off, cap, h⟩
      · cases h.1
      · exact ((slice_inj h).2).symm
    have hlt : b < W'.heap.size := (Array.getElem?_eq_some_iff.1 hbo).1
    refine ⟨v, (some b, cap), h1, h2, List.nodup_cons.2 ⟨List.not_mem_nil, .nil⟩, fun k hk => ?_, fun e he' => ?_, hs, hl, ⟨h0, t1, ⟨hu.trans (by rw [← he]; rfl), rfl⟩, t3, t4, ⟨w, hw, sl_other hbo hrow sw (pw rfl)⟩⟩, n1, n2⟩
    · have hk : k = b := List.mem_singleton.1 hk
      subst hk
      exact ⟨hlt, fun hl => absurd hl (by omega), hbA⟩
    · rw [List.mem_singleton.1 he']
      refine ⟨o, hbo, xs, he.symm, ?_⟩
      obtain ⟨cs, e1, e2, e3, e4, e5⟩ := hrow
      exact ⟨cs, e1, e2, e3, e4, e5⟩
end Go.Proofs.Ytmlgdkccoomiaaa

namespace Go.Proofs.Ytmlgdkccoomiaaa
open Go Gv
set_option linter.unusedVariables false
set_option linter.unusedSimpArgs false
set_option maxRecDepth 100000
set_option maxHeartbeats 2000000
attribute [local irreducible] Sq Wp To HR Look Stp LQG LQW VP.of VP.ptr VP.eq VP.cond VP.tup
instance k70 : K1 Try.prog 70 _ _ L_ref04_ids VP.of VP.of := .i Try.func70 rfl Try.ntmps70 rfl fun x0 r h W A => by
 unfold L_ref04_ids at h
 refine Qsr (Qbx fun p1 => ?_)
 refine Qal zr149 fun p2 => Qnr ?_
 refine Sq.allocX (z := (default : Vector (List Int) 6)) [0, 1, 2, 3, 4, 5] zh149_0_1_2_3_4_5 zr149 rfl fun p3 => Sq.own (α := Int) 3 (Sq.own (α := Int) 3 (Sq.own (α := Int) 3 (Sq.own (α := Int) 3 (Sq.own (α := Int) 3 (Sq.own (α := Int) 3 ?_)))))
 refine go1 ?_
 refine Qbf h fun e1 hl h => ?_
 refine Qlp (γ:=(Option Nat × Nat)) (δ:=(Option Nat × Nat)) hl [0, 1, 2, 3, 17, 18] (fun s1 g1 => [(19, VP.of (s1.1))]) (fun s1 g1 => [(5, ⟨g1.1, .row 3 s1.2.1 g1.2⟩), (6, ⟨some p3, .varX s1.2.2 [(0, slv g1.1 s1.2.1.length g1.2), (1, slv none ([] : List Int).length 0), (2, slv none ([] : List Int).length 0), (3, slv none ([] : List Int).length 0), (4, slv none ([] : List Int).length 0), (5, slv none ([] : List Int).length 0)]⟩)]) (fun q1 => Exit.exit 0) (fun q1 g1 => [(19, VP.of (q1.1)), (20, VP.of (q1.2.1))]) (fun q1 g1 => [(5, ⟨g1.1, .row 3 q1.2.2.1 g1.2⟩), (6, ⟨some p3, .varX q1.2.2.2 [(0, slv g1.1 q1.2.2.1.length g1.2), (1, slv none ([] : List Int).length 0), (2, slv none ([] : List Int).length 0), (3, slv none ([] : List Int).length 0), (4, slv none ([] : List Int).length 0), (5, slv none ([] : List Int).length 0)]⟩)]) (none, 0) (fun s1 r h g1 => ?_) fun g1 => ?_
 ·clear hl
  refine go2 (fun k1 hk1 p4 h => ?_) (fun h => ?_)
  ·refine Qv (r_ia (k := 0) ar149 (look_t rfl) (look_int 0) ⟨by decide, rfl⟩) ?_
   refine Qv (r_loadH (i := 7) (q := 0) (β := Vector (List Int) 6) (γ := Int) ty68 (look_t rfl) rfl rfl) ?_
   refine go1 ?_
   refine Qbf h fun y1 hy1 h => Qap 6 Try.underlying68 ty3 zr3 hy1 fun key1 cap1 => ?_
   refine Qv (r_ia (k := 0) ar149 (look_t rfl) (look_int 0) ⟨by decide, rfl⟩) ?_
   refine Sq.storeH (i := 7) (γ := Int) (b' := (vset s1.2.2 0 [] : Vector (List Int) 6)) (os' := [(0, slv key1 y1.length cap1), (1, slv none ([] : List Int).length 0), (2, slv none ([] : List Int).length 0), (3, slv none ([] : List Int).length 0), (4, slv none ([] : List Int).length 0), (5, slv none ([] : List Int).length 0)]) ((Lens.id (Vector (List Int) 6)).comp (Lens.idx (α := List Int) 6 0 (by decide))) ty68 (look_t rfl) (look_t rfl) slv_one rfl rfl rfl rfl ?_
   refine go1 ?_
   cases h
   exact Qrd (key1, cap1) 1
  ·cases h
   exact Qlv (g1.1, g1.2) 0
 ·clear hl
  refine go1 ?_
  refine Qbf h fun e2 hl h => ?_
  refine Qlp (γ:=(Option Nat × Nat)) (δ:=(Option Nat × Nat)) hl [0, 1, 2, 3, 17, 18, 19, 20, 32, 33] (fun s2 g2 => [(34, VP.of (s2.1))]) (fun s2 g2 => [(4, ⟨g2.1, .row 3 s2.2.1 g2.2⟩), (6, ⟨some p3, .varX s2.2.2 [(0, slv g1.1 e1.2.2.1.length g1.2), (1, slv g2.1 s2.2.1.length g2.2), (2, slv none ([] : List Int).length 0), (3, slv none ([] : List Int).length 0), (4, slv none ([] : List Int).length 0), (5, slv none ([] : List Int).length 0)]⟩)]) (fun q2 => Exit.exit 2) (fun q2 g2 => [(34, VP.of (q2.1)), (35, VP.of (q2.2.1))]) (fun q2 g2 => [(4, ⟨g2.1, .row 3 q2.2.2.1 g2.2⟩), (6, ⟨some p3, .varX q2.2.2.2 [(0, slv g1.1 e1.2.2.1.length g1.2), (1, slv g2.1 q2.2.2.1.length g2.2), (2, slv none ([] : List Int).length 0), (3, slv none ([] : List Int).length 0), (4, slv none ([] : List Int).length 0), (5, slv none ([] : List Int).length 0)]⟩)]) (none, 0) (fun s2 r h g2 => ?_) fun g2 => ?_
  ·clear hl
   refine go2 (fun k2 hk2 p5 h => ?_) (fun h => ?_)
   ·refine Qv (r_ia (k := 1) ar149 (look_t rfl) (look_int 1) ⟨by decide, rfl⟩) ?_
    refine Qv (r_loadH (i := 7) (q := 1) (β := Vector (List Int) 6) (γ := Int) ty68 (look_t rfl) rfl rfl) ?_
    refine go1 ?_
    refine Qbf h fun y2 hy2 h => Qap 5 Try.underlying68 ty3 zr3 hy2 fun key2 cap2 => ?_
    refine Qv (r_ia (k := 1) ar149 (look_t rfl) (look_int 1) ⟨by decide, rfl⟩) ?_
    refine Sq.storeH (i := 7) (γ := Int) (b' := (vset s2.2.2 1 [] : Vector (List Int) 6)) (os' := [(0, slv g1.1 e1.2.2.1.length g1.2), (1, slv key2 y2.length cap2), (2, slv none ([] : List Int).length 0), (3, slv none ([] : List Int).length 0), (4, slv none ([] : List Int).length 0), (5, slv none ([] : List Int).length 0)]) ((Lens.id (Vector (List Int) 6)).comp (Lens.idx (α := List Int) 6 1 (by decide))) ty68 (look_t rfl) (look_t rfl) slv_one rfl rfl rfl rfl ?_
    refine go1 ?_
    cases h
    exact Qrd (key2, cap2) 1
   ·cases h
    exact Qlv (g2.1, g2.2) 0
  ·clear hl
   refine go1 ?_
   refine Qbf h fun e3 hl h => ?_
   refine Qlp (γ:=(Option Nat × Nat)) (δ:=(Option Nat × Nat)) hl [0, 1, 2, 3, 17, 18, 19, 20, 32, 33, 34, 35, 47, 48] (fun s3 g3 => [(49, VP.of (s3.1))]) (fun s3 g3 => [(3, ⟨g3.1, .row 3 s3.2.1 g3.2⟩), (6, ⟨some p3, .varX s3.2.2 [(0, slv g1.1 e1.2.2.1.length g1.2), (1, slv g2.1 e2.2.2.1.length g2.2), (2, slv g3.1 s3.2.1.length g3.2), (3, slv none ([] : List Int).length 0), (4, slv none ([] : List Int).length 0), (5, slv none ([] : List Int).length 0)]⟩)]) (fun q3 => Exit.exit 4) (fun q3 g3 => [(49, VP.of (q3.1)), (50, VP.of (q3.2.1))]) (fun q3 g3 => [(3, ⟨g3.1, .row 3 q3.2.2.1 g3.2⟩), (6, ⟨some p3, .varX q3.2.2.2 [(0, slv g1.1 e1.2.2.1.length g1.2), (1, slv g2.1 e2.2.2.1.length g2.2), (2, slv g3.1 q3.2.2.1.length g3.2), (3, slv none ([] : List Int).length 0), (4, slv none ([] : List Int).length 0), (5, slv none ([] : List Int).length 0)]⟩)]) (none, 0) (fun s3 r h g3 => ?_) fun g3 => ?_
   ·clear hl
    refine go2 (fun k3 hk3 p6 h => ?_) (fun h => ?_)
    ·refine Qv (r_ia (k := 2) ar149 (look_t rfl) (look_int 2) ⟨by decide, rfl⟩) ?_
     refine Qv (r_loadH (i := 7) (q := 2) (β := Vector (List Int) 6) (γ := Int) ty68 (look_t rfl) rfl rfl) ?_
     refine go1 ?_
     refine Qbf h fun y3 hy3 h => Qap 4 Try.underlying68 ty3 zr3 hy3 fun key3 cap3 => ?_
     refine Qv (r_ia (k := 2) ar149 (look_t rfl) (look_int 2) ⟨by decide, rfl⟩) ?_
     refine Sq.storeH (i := 7) (γ := Int) (b' := (vset s3.2.2 2 [] : Vector (List Int) 6)) (os' := [(0, slv g1.1 e1.2.2.1.length g1.2), (1, slv g2.1 e2.2.2.1.length g2.2), (2, slv key3 y3.length cap3), (3, slv none ([] : List Int).length 0), (4, slv none ([] : List Int).length 0), (5, slv none ([] : List Int).length 0)]) ((Lens.id (Vector (List Int) 6)).comp (Lens.idx (α := List Int) 6 2 (by decide))) ty68 (look_t rfl) (look_t rfl) slv_one rfl rfl rfl rfl ?_
     refine go1 ?_
     cases h
     exact Qrd (key3, cap3) 1
    ·cases h
     exact Qlv (g3.1, g3.2) 0
   ·clear hl
    refine go1 ?_
    refine Qbf h fun e4 hl h => ?_
    refine Qlp (γ:=(Option Nat × Nat)) (δ:=(Option Nat × Nat)) hl [0, 1, 2, 3, 17, 18, 19, 20, 32, 33, 34, 35, 47, 48, 49, 50, 62, 63] (fun s4 g4 => [(64, VP.of (s4.1))]) (fun s4 g4 => [(2, ⟨g4.1, .row 3 s4.2.1 g4.2⟩), (6, ⟨some p3, .varX s4.2.2 [(0, slv g1.1 e1.2.2.1.length g1.2), (1, slv g2.1 e2.2.2.1.length g2.2), (2, slv g3.1 e3.2.2.1.length g3.2), (3, slv g4.1 s4.2.1.length g4.2), (4, slv none ([] : List Int).length 0), (5, slv none ([] : List Int).length 0)]⟩)]) (fun q4 => Exit.exit 6) (fun q4 g4 => [(64, VP.of (q4.1)), (65, VP.of (q4.2.1))]) (fun q4 g4 => [(2, ⟨g4.1, .row 3 q4.2.2.1 g4.2⟩), (6, ⟨some p3, .varX q4.2.2.2 [(0, slv g1.1 e1.2.2.1.length g1.2), (1, slv g2.1 e2.2.2.1.length g2.2), (2, slv g3.1 e3.2.2.1.length g3.2), (3, slv g4.1 q4.2.2.1.length g4.2), (4, slv none ([] : List Int).length 0), (5, slv none ([] : List Int).length 0)]⟩)]) (none, 0) (fun s4 r h g4 => ?_) fun g4 => ?_
    ·clear hl
     refine go2 (fun k4 hk4 p7 h => ?_) (fun h => ?_)
     ·refine Qv (r_ia (k := 3) ar149 (look_t rfl) (look_int 3) ⟨by decide, rfl⟩) ?_
      refine Qv (r_loadH (i := 7) (q := 3) (β := Vector (List Int) 6) (γ := Int) ty68 (look_t rfl) rfl rfl) ?_
      refine go1 ?_
      refine Qbf h fun y4 hy4 h => Qap 3 Try.underlying68 ty3 zr3 hy4 fun key4 cap4 => ?_
      refine Qv (r_ia (k := 3) ar149 (look_t rfl) (look_int 3) ⟨by decide, rfl⟩) ?_
      refine Sq.storeH (i := 7) (γ := Int) (b' := (vset s4.2.2 3 [] : Vector (List Int) 6)) (os' := [(0, slv g1.1 e1.2.2.1.length g1.2), (1, slv g2.1 e2.2.2.1.length g2.2), (2, slv g3.1 e3.2.2.1.length g3.2), (3, slv key4 y4.length cap4), (4, slv none ([] : List Int).length 0), (5, slv none ([] : List Int).length 0)]) ((Lens.id (Vector (List Int) 6)).comp (Lens.idx (α := List Int) 6 3 (by decide))) ty68 (look_t rfl) (look_t rfl) slv_one rfl rfl rfl rfl ?_
      refine go1 ?_
      cases h
      exact Qrd (key4, cap4) 1
     ·cases h
      exact Qlv (g4.1, g4.2) 0
    ·clear hl
     refine go1 ?_
     refine Qbf h fun e5 hl h => ?_
     refine Qlp (γ:=(Option Nat × Nat)) (δ:=(Option Nat × Nat)) hl [0, 1, 2, 3, 17, 18, 19, 20, 32, 33, 34, 35, 47, 48, 49, 50, 62, 63, 64, 65, 77, 78] (fun s5 g5 => [(79, VP.of (s5.1))]) (fun s5 g5 => [(1, ⟨g5.1, .row 3 s5.2.1 g5.2⟩), (6, ⟨some p3, .varX s5.2.2 [(0, slv g1.1 e1.2.2.1.length g1.2), (1, slv g2.1 e2.2.2.1.length g2.2), (2, slv g3.1 e3.2.2.1.length g3.2), (3, slv g4.1 e4.2.2.1.length g4.2), (4, slv g5.1 s5.2.1.length g5.2), (5, slv none ([] : List Int).length 0)]⟩)]) (fun q5 => Exit.exit 8) (fun q5 g5 => [(79, VP.of (q5.1)), (80, VP.of (q5.2.1))]) (fun q5 g5 => [(1, ⟨g5.1, .row 3 q5.2.2.1 g5.2⟩), (6, ⟨some p3, .varX q5.2.2.2 [(0, slv g1.1 e1.2.2.1.length g1.2), (1, slv g2.1 e2.2.2.1.length g2.2), (2, slv g3.1 e3.2.2.1.length g3.2), (3, slv g4.1 e4.2.2.1.length g4.2), (4, slv g5.1 q5.2.2.1.length g5.2), (5, slv none ([] : List Int).length 0)]⟩)]) (none, 0) (fun s5 r h g5 => ?_) fun g5 => ?_
     ·clear hl
      refine go2 (fun k5 hk5 p8 h => ?_) (fun h => ?_)
      ·refine Qv (r_ia (k := 4) ar149 (look_t rfl) (look_int 4) ⟨by decide, rfl⟩) ?_
       refine Qv (r_loadH (i := 7) (q := 4) (β := Vector (List Int) 6) (γ := Int) ty68 (look_t rfl) rfl rfl) ?_
       refine go1 ?_
       refine Qbf h fun y5 hy5 h => Qap 2 Try.underlying68 ty3 zr3 hy5 fun key5 cap5 => ?_
       refine Qv (r_ia (k := 4) ar149 (look_t rfl) (look_int 4) ⟨by decide, rfl⟩) ?_
       refine Sq.storeH (i := 7) (γ := Int) (b' := (vset s5.2.2 4 [] : Vector (List Int) 6)) (os' := [(0, slv g1.1 e1.2.2.1.length g1.2), (1, slv g2.1 e2.2.2.1.length g2.2), (2, slv g3.1 e3.2.2.1.length g3.2), (3, slv g4.1 e4.2.2.1.length g4.2), (4, slv key5 y5.length cap5), (5, slv none ([] : List Int).length 0)]) ((Lens.id (Vector (List Int) 6)).comp (Lens.idx (α := List Int) 6 4 (by decide))) ty68 (look_t rfl) (look_t rfl) slv_one rfl rfl rfl rfl ?_
       refine go1 ?_
       cases h
       exact Qrd (key5, cap5) 1
      ·cases h
       exact Qlv (g5.1, g5.2) 0
     ·clear hl
      refine go1 ?_
      refine Qbf h fun e6 hl h => ?_
      refine Qlp (γ:=(Option Nat × Nat)) (δ:=(Option Nat × Nat)) hl [0, 1, 2, 3, 17, 18, 19, 20, 32, 33, 34, 35, 47, 48, 49, 50, 62, 63, 64, 65, 77, 78, 79, 80, 92, 93] (fun s6 g6 => [(94, VP.of (s6.1))]) (fun s6 g6 => [(0, ⟨g6.1, .row 3 s6.2.1 g6.2⟩), (6, ⟨some p3, .varX s6.2.2 [(0, slv g1.1 e1.2.2.1.length g1.2), (1, slv g2.1 e2.2.2.1.length g2.2), (2, slv g3.1 e3.2.2.1.length g3.2), (3, slv g4.1 e4.2.2.1.length g4.2), (4, slv g5.1 e5.2.2.1.length g5.2), (5, slv g6.1 s6.2.1.length g6.2)]⟩)]) (fun q6 => Exit.exit 10) (fun q6 g6 => [(94, VP.of (q6.1)), (95, VP.of (q6.2.1))]) (fun q6 g6 => [(0, ⟨g6.1, .row 3 q6.2.2.1 g6.2⟩), (6, ⟨some p3, .varX q6.2.2.2 [(0, slv g1.1 e1.2.2.1.length g1.2), (1, slv g2.1 e2.2.2.1.length g2.2), (2, slv g3.1 e3.2.2.1.length g3.2), (3, slv g4.1 e4.2.2.1.length g4.2), (4, slv g5.1 e5.2.2.1.length g5.2), (5, slv g6.1 q6.2.2.1.length g6.2)]⟩)]) (none, 0) (fun s6 r h g6 => ?_) fun g6 => ?_
      ·clear hl
       refine go2 (fun k6 hk6 p9 h => ?_) (fun h => ?_)
       ·refine Qv (r_ia (k := 5) ar149 (look_t rfl) (look_int 5) ⟨by decide, rfl⟩) ?_
        refine Qv (r_loadH (i := 7) (q := 5) (β := Vector (List Int) 6) (γ := Int) ty68 (look_t rfl) rfl rfl) ?_
        refine go1 ?_
        refine Qbf h fun y6 hy6 h => Qap 1 Try.underlying68 ty3 zr3 hy6 fun key6 cap6 => ?_
        refine Qv (r_ia (k := 5) ar149 (look_t rfl) (look_int 5) ⟨by decide, rfl⟩) ?_
        refine Sq.storeH (i := 7) (γ := Int) (b' := (vset s6.2.2 5 [] : Vector (List Int) 6)) (os' := [(0, slv g1.1 e1.2.2.1.length g1.2), (1, slv g2.1 e2.2.2.1.length g2.2), (2, slv g3.1 e3.2.2.1.length g3.2), (3, slv g4.1 e4.2.2.1.length g4.2), (4, slv g5.1 e5.2.2.1.length g5.2), (5, slv key6 y6.length cap6)]) ((Lens.id (Vector (List Int) 6)).comp (Lens.idx (α := List Int) 6 5 (by decide))) ty68 (look_t rfl) (look_t rfl) slv_one rfl rfl rfl rfl ?_
        refine go1 ?_
        cases h
        exact Qrd (key6, cap6) 1
       ·cases h
        exact Qlv (g6.1, g6.2) 0
      ·clear hl
       refine To.bexit (To.next (Qsr ?_))
       refine Sq.thaw (β := Vector (List Int) 6) (γ := Int) (b' := (vset e6.2.2.2 0 e1.2.2.1 : Vector (List Int) 6)) ((Lens.id (Vector (List Int) 6)).comp (Lens.idx (α := List Int) 6 0 (by decide))) 6 5 0 rfl rfl rfl rfl rfl rfl ?_
       refine Sq.thaw (β := Vector (List Int) 6) (γ := Int) (b' := (vset (vset e6.2.2.2 0 e1.2.2.1) 1 e2.2.2.1 : Vector (List Int) 6)) ((Lens.id (Vector (List Int) 6)).comp (Lens.idx (α := List Int) 6 1 (by decide))) 6 4 0 rfl rfl rfl rfl rfl rfl ?_
       refine Sq.thaw (β := Vector (List Int) 6) (γ := Int) (b' := (vset (vset (vset e6.2.2.2 0 e1.2.2.1) 1 e2.2.2.1) 2 e3.2.2.1 : Vector (List Int) 6)) ((Lens.id (Vector (List Int) 6)).comp (Lens.idx (α := List Int) 6 2 (by decide))) 6 3 0 rfl rfl rfl rfl rfl rfl ?_
       refine Sq.thaw (β := Vector (List Int) 6) (γ := Int) (b' := (vset (vset (vset (vset e6.2.2.2 0 e1.2.2.1) 1 e2.2.2.1) 2 e3.2.2.1) 3 e4.2.2.1 : Vector (List Int) 6)) ((Lens.id (Vector (List Int) 6)).comp (Lens.idx (α := List Int) 6 3 (by decide))) 6 2 0 rfl rfl rfl rfl rfl rfl ?_
       refine Sq.thaw (β := Vector (List Int) 6) (γ := Int) (b' := (vset (vset (vset (vset (vset e6.2.2.2 0 e1.2.2.1) 1 e2.2.2.1) 2 e3.2.2.1) 3 e4.2.2.1) 4 e5.2.2.1 : Vector (List Int) 6)) ((Lens.id (Vector (List Int) 6)).comp (Lens.idx (α := List Int) 6 4 (by decide))) 6 1 0 rfl rfl rfl rfl rfl rfl ?_
       refine Sq.thaw (β := Vector (List Int) 6) (γ := Int) (b' := (vset (vset (vset (vset (vset (vset e6.2.2.2 0 e1.2.2.1) 1 e2.2.2.1) 2 e3.2.2.1) 3 e4.2.2.1) 4 e5.2.2.1) 5 e6.2.2.1 : Vector (List Int) 6)) ((Lens.id (Vector (List Int) 6)).comp (Lens.idx (α := List Int) 6 5 (by decide))) 6 0 0 rfl rfl rfl rfl rfl rfl ?_
       refine Sq.fromX 6 rfl ?_
       exact go
end Go.Proofs.Ytmlgdkccoomiaaa

namespace Go.Proofs.Ytmlgdkccoomiaaa
open Go Gv
set_option linter.unusedVariables false
set_option linter.unusedSimpArgs false
set_option maxRecDepth 100000
set_option maxHeartbeats 2000000
attribute [local irreducible] Sq Wp To HR Look Stp LQG LQW VP.of VP.ptr VP.eq VP.cond VP.tup
instance k56 : K2 Try.prog 56 _ _ _ L_ref04_TableOf VP.of VP.of VP.of := .i Try.func56 rfl Try.ntmps56 rfl fun x0 x1 r h W A => by
 unfold L_ref04_TableOf at h
 refine go1 fun p1 y1 hy1 h => ?_
 refine Qv (r_index (k := 4) Try.underlying149 ty68 (look_t rfl) (look_int 4) ⟨by decide, rfl⟩) ?_
 exact go
instance k83 : K2 Try.prog 83 _ _ _ L_ref01_Compare VP.of VP.of VP.of := .i Try.func83 rfl Try.ntmps83 rfl fun x0 x1 r h W A => by
 unfold L_ref01_Compare at h
 refine Qsr (Qbx fun p1 => ?_)
 refine Qbx fun p2 => ?_
 refine Qa (Qns ?_)
 refine Qbf h fun y1 hy1 h => Qbf h fun y2 hy2 h => Wp.keep 2 (Qwl [0, 1, 2, 3, 4] ?_)
 refine Wp.eD mixed (Hp 8 [] [1] _ :: Hp 9 [0] [] _ :: Hp 10 [] [0] _ :: Hp 11 [2] [] _ :: ⟨some 5, [], [2], [2], fun hd => VP.pb ((hd 4 0).getD 0), fun hd _ => vr ((hd 4 0).getD 0) (default : Vector Bool 128)⟩ :: ⟨some 6, [], [3], [3], fun hd => VP.pb ((hd 5 0).getD 0), fun hd _ => vr ((hd 5 0).getD 0) (default : Vector Bool 128)⟩ :: Hs [1, 4] [2] [2] (fun hd => vr ((hd 4 0).getD 0) y1) :: Hs [3, 5] [3] [3] (fun hd => vr ((hd 5 0).getD 0) y2) :: []) ⟨Dl0 1 ty47, Du fun hE hL => r_call k85.en (k85.m _ _ hy1) ⟨look_t (hE _ _ rfl), trivial⟩, Dl0 0 ty47, Du fun hE hL => r_call k85.en (k85.m _ _ hy2) ⟨look_t (hE _ _ rfl), trivial⟩, ?_, ?_, ?_, ?_, trivial⟩ fun hd1 => ?_
 ·intro hd E' L' hE hL
  refine Qal zr161 fun p3 => Sq.nil ?_
  refine To.place 2 (hL 2 _ rfl rfl) ?_
  exact To.fin (gm [some p3]) rfl rfl
 ·intro hd E' L' hE hL
  refine Qal zr161 fun p4 => Sq.nil ?_
  refine To.place 3 (hL 3 _ rfl rfl) ?_
  exact To.fin (gm [some p4]) rfl rfl
 ·intro hd E' L' hE hL
  refine Sq.store (i := 2) (Lens.id (Vector Bool 128)) (v := y1) (b' := y1) ty161 (look_t (hE _ _ rfl)) (look_t (hE _ _ rfl)) (hL 2 _ rfl rfl) rfl rfl (Sq.nil ?_)
  exact To.fin (gm []) rfl rfl
 ·intro hd E' L' hE hL
  refine Sq.store (i := 3) (Lens.id (Vector Bool 128)) (v := y2) (b' := y2) ty161 (look_t (hE _ _ rfl)) (look_t (hE _ _ rfl)) (hL 3 _ rfl rfl) rfl rfl (Sq.nil ?_)
  exact To.fin (gm []) rfl rfl
 refine To.eqL (L2 := [vr p2 x1, vr p1 x0, vr ((hd1 4 0).getD 0) y1, vr ((hd1 5 0).getD 0) y2]) rfl (Qte ?_)
 refine To.bring 2 rfl (To.bring 3 rfl (To.next (Wp.seq (Qsr (Qa (Qnx (Wp.block ?_)))))))
 refine Qbf h fun e1 hl h => ?_
 refine Qlp (γ:=Unit) (δ:=Unit) hl [0, 1, 2, 3, 5, 6] (fun s1 g1 => [(4, VP.of (0 : Int)), (7, VP.of (s1))]) (fun s1 g1 => []) (fun q1 => Sum.elim (fun q1 => Exit.exit 0) (fun q1 => Exit.ret) q1) (fun q1 g1 => Sum.elim (fun q1 => [(4, VP.of (0 : Int)), (7, VP.of (q1.1)), (13, VP.of (q1.2))]) (fun q1 => [(4, VP.of (q1.1)), (7, VP.of (q1.2.1)), (13, VP.of (q1.2.2.1)), (22, VP.of (q1.2.2.2.1)), (25, VP.of (q1.2.2.2.2))]) q1) (fun q1 g1 => []) () (fun s1 r h g1 => ?_) fun g1 => ?_
 ·clear hl
  refine Wp.seq (Qsr (Qm ?_))
  refine Q2 r_geq (Qnx ?_)
  refine Qcd h (fun h=>?_) fun h=>?_
  ·refine Qkn (Wp.seq (Wp.block (Wp.seq (Qbf h fun k1 hk1 h => Qbf h fun k2 hk2 h => Wp.dv mixed 7 (rg 16 7) [[], [0], [1], [], [3], [4], [2, 5]] [_, _, _, _, _, _, _] ⟨Hm, Hu fun hL => r_ia (k := k1) ar161 (look_t rfl) (look_t rfl) (idx_some hk1), Hld 1 ((Lens.id (Vector Bool 128)).comp (Lens.idx (α := Bool) 128 k1 (idx_some hk1).1)) ty4, Hm, Hu fun hL => r_ia (k := k2) ar161 (look_t rfl) (look_t rfl) (idx_some hk2), Hld 0 ((Lens.id (Vector Bool 128)).comp (Lens.idx (α := Bool) 128 k2 (idx_some hk2).1)) ty4, H2 (r_bne Try.underlying4), trivial⟩ (Qnx ?_)))))
   refine Qcd h (fun h=>?_) fun h=>?_
   ·refine Wp.seq (Qsr (Qm ?_))
    refine Qbf h fun k3 hk3 h => Qv (r_ia (k := k3) ar161 (look_t rfl) (look_t rfl) (idx_some hk3)) ?_
    refine Qld 0 ((Lens.id (Vector Bool 128)).comp (Lens.idx (α := Bool) 128 k3 (idx_some hk3).1)) ty4 (Qnx ?_)
    refine Qcd h (fun h=>?_) fun h=>?_
    ·refine Qsr (Qa (Qnx (Wp.ret (To.ret ?_))))
     refine To.bret (To.ret ?_)
     cases h
     exact Qlv () 0
    ·refine Qkn (Qsr (Qa (Qnx (Wp.ret ?_))))
     refine To.bret (To.ret ?_)
     cases h
     exact Qlv () 0
   ·refine Wp.skip (To.bnorm (To.next (Wp.reg (Qm ?_))))
    refine Q2 r_sub ?_
    refine Qa (Sq.nil ?_)
    cases h
    exact Qrd () 0
  ·refine Wp.exit (To.exit ?_)
   cases h
   exact Qlv () 0
 ·clear hl
  rcases e1 with e1 | e1
  ·simp only [Sum.elim_inl] at h
   refine To.bexit (To.next (Qsr (Qa (Qnx (Wp.ret ?_)))))
   cases h
   exact Qe1
  ·simp only [Sum.elim_inr] at h
   refine To.bret (To.ret ?_)
   cases h
   exact Qe1
theorem C_mcase_Codes_Bool {x0 pp0 r} (h : L_mcase_Codes_Bool x0 = some r) : MV Try.prog 20 [VP.pb pp0] pp0 x0 (VP.of (r.1)) r.2 := by
 unfold L_mcase_Codes_Bool at h
 refine MeetsO.of Try.func20 rfl Try.ntmps20 rfl fun W A => ?_
 refine go1 ?_
 refine Sq.bring 0 rfl (Qbf h fun y1 hy1 h => QcO 1 en15 (C_mcase_Codes_Next hy1) fun q1 => ?_)
 exact go
instance k45 : K2 Try.prog 45 _ _ _ L_entry_table VP.of VP.of (fun r => VP.tup [VP.of (r.1), VP.of (r.2)]) := .i Try.func45 rfl Try.ntmps45 rfl fun x0 x1 r h W A => by
 unfold L_entry_table at h
 exact go
theorem C_entry_bitsOf {x0 x1 r} (h : L_entry_bitsOf x0 x1 = some r) : Meets Try.prog 47 [VP.of (x0), VP.of (x1)] (VP.of (r)) := by
 unfold L_entry_bitsOf at h
 refine Meets.of Try.func47 rfl Try.ntmps47 rfl fun W A => ?_
 exact go
instance k47 : K2 Try.prog 47 _ _ _ L_entry_bitsOf VP.of VP.of VP.of :=
  ⟨⟨_, Try.func47, rfl, by kernel_rfl⟩, fun _ _ _ h => C_entry_bitsOf h⟩
instance k58 : K2 Try.prog 58 _ _ _ L_value_Leading VP.of VP.of VP.of := .i Try.func58 rfl Try.ntmps58 rfl fun x0 x1 r h W A => by
 unfold L_value_Leading at h
 exact go
instance k22 : K1 Try.prog 22 _ _ L_own_Installed VP.of VP.of := .i Try.func22 rfl Try.ntmps22 rfl fun x0 r h W A => by
 unfold L_own_Installed at h
 exact go
end Go.Proofs.Ytmlgdkccoomiaaa

namespace Go.Proofs.Ytmlgdkccoomiaaa
open Go Gv
set_option linter.unusedVariables false
set_option linter.unusedSimpArgs false
set_option maxRecDepth 100000
set_option maxHeartbeats 2000000
attribute [local irreducible] Sq Wp To HR Look Stp LQG LQW VP.of VP.ptr VP.eq VP.cond VP.tup
theorem C_mcase_Codes_match {x0 x1 x2 pp0 r} (h : L_mcase_Codes_match x0 x1 x2 = some r) : MV Try.prog 35 [VP.pb pp0, VP.of (x1), VP.of (x2)] pp0 x0 (VP.of (r.1)) r.2 := by
 unfold L_mcase_Codes_match at h
 refine MeetsO.of Try.func35 rfl Try.ntmps35 rfl fun W A => ?_
 refine go1 fun p1 p2 p3 y1 hy1 h => ?_
 refine Sq.bring 3 rfl (Qbf h fun y2 hy2 h => QcO 1 en15 (C_mcase_Codes_Next hy2) fun q1 => ?_)
 refine go1 ?_
 refine Sq.bring 0 rfl (Qbf h fun y3 hy3 h => QcO 1 en15 (C_mcase_Codes_Next hy3) fun q2 => ?_)
 refine go1 fun z1 hz1 h => ?_
 refine Sq.bring 0 rfl (Qbf h fun y4 hy4 h => QcO 1 en15 (C_mcase_Codes_Next hy4) fun q3 => ?_)
 refine go3 (fun z2 hz2 y5 hy5 p4 h => ?_) (fun z2 hz2 y5 hy5 p4 h => ?_) (fun z2 hz2 y5 hy5 p4 h => ?_)
 ·refine Sq.bring 1 rfl (Qbf h fun y6 hy6 h => QcO 1 en15 (C_mcase_Codes_Next hy6) fun q4 => ?_)
  refine go1 (fun h => ?_)
  refine Sq.bring 0 rfl (Qbf h fun y7 hy7 h => QcO 1 en15 (C_mcase_Codes_Next hy7) fun q5 => ?_)
  refine go1 ?_
  refine Sq.bring 0 rfl (Qbf h fun y8 hy8 h => QcO 1 en15 (C_mcase_Codes_Next hy8) fun q6 => ?_)
  refine go1 fun k1 hk1 h => ?_
  refine Qbf h fun y9 hy9 h => Qbf h fun z3 hz3 h => Qbf h fun z4 hz4 h => Wp.dv mixed 10 (rg 51 10) [[], [], [1], [], [], [3, 4], [5], [2, 6], [7], [0, 8]] [_, _, _, _, _, _, _, _, _, _] ⟨Hm, H1 (r_fa fd47_1.fd), Hld 1 le_T_api_Value_Lo ty45, Hm, Hm, Hcl k51.en (k51.m _ _ _ hy9), Hu fun hL => r_field le_T_api_Value_Lo fv47_1 ty45 rfl (look_t rfl) rfl rfl, H2 r_and64, Hn hz3 fun L' hL => r_build (b := ({ (default : T_api_Value) with f_Lo := y5.f_Lo &&& y9.f_Lo } : T_api_Value)) rfl bu47 zr47 (.cons le_T_api_Value_Lo rfl (look_t rfl) rfl (.nil)), Hn hz4 fun L' hL => r_build (b := ({ (default : T_api_Match) with f_Present := true, f_Prefix := lget [y1, 8, 16, 1, w64 (1 + y7.1)] k1, f_Value := z3 } : T_api_Match)) rfl bu58 zr58 (.cons le_T_api_Match_Present rfl (look_bool true) rfl (.cons le_T_api_Match_Prefix rfl (look_t rfl) rfl (.cons le_T_api_Match_Value rfl (look_t rfl) rfl (.nil)))), trivial⟩ ?_
  exact go
 ·refine Sq.bring 1 rfl (Qbf h fun y10 hy10 h => QcO 1 en15 (C_mcase_Codes_Next hy10) fun q7 => ?_)
  refine go1 ?_
  refine Sq.bring 0 rfl (Qbf h fun y11 hy11 h => QcO 1 en15 (C_mcase_Codes_Next hy11) fun q8 => ?_)
  exact go
 ·refine Qbf h fun y13 hy13 h => Qbf h fun z8 hz8 h => Qwl [0, 1, 2, 4, 5, 6, 7, 8, 12, 13, 14, 15, 16, 17, 18, 19, 20, 21, 22, 23, 24, 25, 26, 27, 28, 29, 30, 31, 32, 33, 36, 37, 61, 62, 85, 86] ?_
  refine Wp.en 5 (Hp 87 [] [] _ :: Hp 88 [0] [0] _ :: Hp 89 [] [] _ :: ⟨some 90, [2], [1], [1], fun _ => VP.of (y13.1), fun hd _ => vr pp0 y13.2⟩ :: Hp 91 [3] [] _ :: Hp 92 [1, 4] [] _ :: Hp 93 [] [] _ :: Hp 94 [6] [] _ :: Hp 95 [7] [] _ :: Hp 96 [8] [] _ :: Hp 97 [5, 9] [] _ :: Hp 11 [10] [] _ :: []) (ki ?_ kn) (fun hd1 => ?_)
  ·intro hd E' L' hE hL hP
   refine Sq.bring 1 (hL 1 _ rfl rfl) (Sq.callO (Lin := [vr pp0 y4.2]) (Lr := L'.eraseIdx 1) en15 (C_mcase_Codes_Next hy13) ⟨look_t (hE _ _ rfl), look_int 256, trivial⟩ rfl fun q9 => Sq.nil (To.back 1 (hL 1 _ rfl rfl) ?_))
   exact To.fin (gm []) rfl rfl
  refine To.eqL (L2 := [vr p4 y5, vr pp0 y13.2, vr p3 (default : T_api_Match), vr p2 x2, vr p1 x1]) rfl (Qte (To.next (Qsr ?_)))
  refine Qm ?_
  refine Sq.bring 1 rfl (Qbf h fun y14 hy14 h => QcO 1 en15 (C_mcase_Codes_Next hy14) fun q10 => ?_)
  refine go1 ?_
  refine Qg (fun hb => r_and (look_tc rfl hb) (look_t rfl) (fun h => ⟨hb, h⟩)) ?_
  exact go
instance k44 : K2 Try.prog 44 _ _ _ L_ref10_Prefix VP.of VP.of VP.of := .i Try.func44 rfl Try.ntmps44 rfl fun x0 x1 r h W A => by
 unfold L_ref10_Prefix at h
 refine go1 (fun p1 p2 y1 hy1 k1 hk1 h => ?_)
 refine Qbf h fun e1 hl h => ?_
 refine Qlp (γ:=Unit) (δ:=Unit) hl [0, 1, 2, 3, 5, 13, 19, 20] (fun s1 g1 => [(4, VP.of (0 : Int)), (21, VP.of (s1))]) (fun s1 g1 => []) (fun q1 => Sum.elim (fun q1 => Exit.exit 0) (fun q1 => Exit.ret) q1) (fun q1 g1 => Sum.elim (fun q1 => [(4, VP.of (0 : Int)), (21, VP.of (q1.1)), (22, VP.of (q1.2))]) (fun q1 => [(4, VP.of (q1.1)), (6, VP.of (q1.2.1)), (21, VP.of (q1.2.2.1)), (22, VP.of (q1.2.2.2.1)), (35, VP.of (q1.2.2.2.2))]) q1) (fun q1 g1 => []) () (fun s1 r h g1 => ?_) fun g1 => ?_
 ·clear hl
  exact go
 ·clear hl
  rcases e1 with e1 | e1
  ·simp only [Sum.elim_inl] at h
   exact go
  ·simp only [Sum.elim_inr] at h
   exact go
instance k82 : K2 Try.prog 82 _ _ _ L_ref10_match VP.of VP.of VP.of := .i Try.func82 rfl Try.ntmps82 rfl fun x0 x1 r h W A => by
 unfold L_ref10_match at h
 exact go
instance k68 : K2 Try.prog 68 _ _ _ L_ref10_values VP.of VP.of VP.of := .i Try.func68 rfl Try.ntmps68 rfl fun x0 x1 r h W A => by
 unfold L_ref10_values at h
 refine go1 ?_
 refine Qbf h fun e1 hl h => ?_
 refine Qlp (γ:=Unit) (δ:=Unit) hl [0, 1] (fun s1 g1 => [(4, VP.of (0 : Int)), (5, VP.of (s1))]) (fun s1 g1 => []) (fun q1 => Sum.elim (fun q1 => Exit.exit 0) (fun q1 => Exit.ret) q1) (fun q1 g1 => Sum.elim (fun q1 => [(4, VP.of (0 : Int)), (5, VP.of (q1.1)), (16, VP.of (q1.2))]) (fun q1 => [(4, VP.of (q1.1)), (5, VP.of (q1.2.1)), (6, VP.of (q1.2.2.1)), (16, VP.of (q1.2.2.2.1)), (29, VP.of (q1.2.2.2.2))]) q1) (fun q1 g1 => []) () (fun s1 r h g1 => ?_) fun g1 => ?_
 ·clear hl
  refine go1 (fun h => ?_)
  refine Qbf h fun k1 hk1 h => Qbf h fun k2 hk2 h => Qbf h fun y1 hy1 h => Wp.dw 9 ?_
  exact go
 ·clear hl
  rcases e1 with e1 | e1
  ·simp only [Sum.elim_inl] at h
   exact go
  ·simp only [Sum.elim_inr] at h
   exact go
end Go.Proofs.Ytmlgdkccoomiaaa

namespace Go.Proofs.Ytmlgdkccoomiaaa
open Go Gv
set_option linter.unusedVariables false
set_option linter.unusedSimpArgs false
set_option maxRecDepth 100000
set_option maxHeartbeats 2000000
attribute [local irreducible] Sq Wp To HR Look Stp LQG LQW VP.of VP.ptr VP.eq VP.cond VP.tup
instance k64 : K2 Try.prog 64 _ _ _ L_entry_Prefix VP.of VP.of VP.of := .i Try.func64 rfl Try.ntmps64 rfl fun x0 x1 r h W A => by
 unfold L_entry_Prefix at h
 refine go1 fun p1 p2 y1 hy1 p3 h => ?_
 refine Qbf h fun y2 hy2 h => Qv (r_call en79 (C_slices_IndexFunc_api_Key hy2) ⟨look_t rfl, look_fn1 en80 (fun _ _ => C_entry_Prefix_fn1), trivial⟩) ?_
 exact go
theorem C_ref10_Beats {x0 x1 x2 r} (h : L_ref10_Beats x0 x1 x2 = some r) : Meets Try.prog 30 [VP.of (x0), VP.of (x1), VP.of (x2)] (VP.of (r)) := by
 unfold L_ref10_Beats at h
 refine Meets.of Try.func30 rfl Try.ntmps30 rfl fun W A => ?_
 refine go1 (fun p1 p2 p3 h => ?_)
 refine Qbf h fun y1 hy1 h => Qbf h fun y2 hy2 h => Wp.dw 8 ?_
 exact go
instance k67 : K2 Try.prog 67 _ _ _ L_ref10_matches VP.of VP.of VP.of := .i Try.func67 rfl Try.ntmps67 rfl fun x0 x1 r h W A => by
 unfold L_ref10_matches at h
 refine go1 ?_
 refine Qbf h fun e1 hl h => ?_
 refine Qlp (γ:=Unit) (δ:=Unit) hl [0, 1] (fun s1 g1 => [(4, VP.of (0 : Int)), (5, VP.of (s1))]) (fun s1 g1 => []) (fun q1 => Sum.elim (fun q1 => Exit.exit 0) (fun q1 => Exit.ret) q1) (fun q1 g1 => Sum.elim (fun q1 => [(4, VP.of (0 : Int)), (5, VP.of (q1.1)), (16, VP.of (q1.2))]) (fun q1 => [(4, VP.of (q1.1)), (5, VP.of (q1.2.1)), (6, VP.of (q1.2.2.1)), (16, VP.of (q1.2.2.2.1)), (29, VP.of (q1.2.2.2.2))]) q1) (fun q1 g1 => []) () (fun s1 r h g1 => ?_) fun g1 => ?_
 ·clear hl
  refine go1 (fun h => ?_)
  refine Qbf h fun k1 hk1 h => Qbf h fun k2 hk2 h => Qbf h fun y1 hy1 h => Wp.dw 9 ?_
  exact go
 ·clear hl
  rcases e1 with e1 | e1
  ·simp only [Sum.elim_inl] at h
   exact go
  ·simp only [Sum.elim_inr] at h
   exact go
theorem Cl0_own_List {x0 key00 cap00 r} (h : Ll0_own_List x0 = some r) : MeetsO Try.prog 28 [VP.eq (slv key00 x0.length cap00)] [⟨key00, .row 42 x0 cap00⟩] (δ := Unit) (fun d => VP.of (r)) (fun d => [⟨key00, .row 42 x0 cap00⟩]) := by
 unfold Ll0_own_List at h
 refine MeetsO.of Try.func28 rfl Try.ntmps28 rfl fun W A => Qsr (Qv (r_asg (look_nil (α := T_api_Installed))) (Qnr ?_))
 refine Sq.own (α := T_api_Installed) 42 (Qv (r_asg look_own) ?_)
 refine go1 ?_
 refine Qv (r_lenO (i := 1) Try.underlying51 (look_t rfl) rfl rfl) ?_
 refine Qm (Qnx (Wp.block ?_))
 refine Qbf h fun e1 hl h => ?_
 refine Qlp (γ:=(Option Nat × Nat)) (δ:=(Option Nat × Nat)) hl [0, 2, 6, 7] (fun s1 g1 => [(3, VP.eq (slv g1.1 s1.2.length g1.2)), (8, VP.of (s1.1))]) (fun s1 g1 => [(0, ⟨g1.1, .row 42 s1.2 g1.2⟩)]) (fun q1 => Exit.exit 0) (fun q1 g1 => [(3, VP.eq (slv g1.1 q1.2.2.length g1.2)), (8, VP.of (q1.1)), (9, VP.of (q1.2.1))]) (fun q1 g1 => [(0, ⟨g1.1, .row 42 q1.2.2 g1.2⟩)]) (none, 0) (fun s1 r h g1 => ?_) fun g1 => ?_
 ·clear hl
  refine go2 (fun h => ?_) (fun h => ?_)
  ·refine Qbf h fun k1 hk1 h => Qv (r_iaO (i := 1) (k := k1) (xs := (x0 : List T_api_Installed)) Try.underlying51 ty42 (look_t rfl) (look_t rfl) rfl (idx_some hk1)) ?_
   refine Qv (r_loadR (i := 1) (k := k1) (Lens.id T_api_Installed) (r := (lget x0 k1)) ty42 (look_t rfl) rfl (idx_some hk1).1 rfl rfl) ?_
   refine go1 fun p1 y1 hy1 h => ?_
   refine Qbf h fun y2 hy2 h => Qap 1 Try.underlying51 ty42 zr42 hy2 fun key1 cap1 => ?_
   refine go1 ?_
   cases h
   exact Qrd (key1, cap1) 1
  ·cases h
   exact Qlv (g1.1, g1.2) 0
 ·clear hl
  refine go1 ?_
  refine To.freezeL (α := T_api_Installed) 0 [2, 3, 18] ⟨rfl, rfl, rfl, trivial⟩ rfl ?_
  exact go
end Go.Proofs.Ytmlgdkccoomiaaa

namespace Go.Proofs.Ytmlgdkccoomiaaa
open Go Gv
set_option linter.unusedVariables false
set_option linter.unusedSimpArgs false
set_option maxRecDepth 100000
set_option maxHeartbeats 2000000
attribute [local irreducible] Sq Wp To HR Look Stp LQG LQW VP.of VP.ptr VP.eq VP.cond VP.tup
theorem C_entry_Covers {x0 x1 x2 x3 r} (h : L_entry_Covers x0 x1 x2 x3 = some r) : Meets Try.prog 46 [VP.of (x0), VP.of (x1), VP.of (x2), VP.of (x3)] (VP.of (r)) := by
 unfold L_entry_Covers at h
 refine Meets.of Try.func46 rfl Try.ntmps46 rfl fun W A => ?_
 refine go2 (fun p1 p2 y1 hy1 p3 h => ?_) (fun p1 p2 h => ?_)
 ·refine Qbf h fun y2 hy2 h => Qbf h fun y3 hy3 h => Wp.dw 8 ?_
  exact go
 ·refine Qbf h fun y4 hy4 h => Wp.dw 7 ?_
  exact go
end Go.Proofs.Ytmlgdkccoomiaaa

namespace Go.Proofs.Ytmlgdkccoomiaaa
open Go Gv
set_option linter.unusedVariables false
set_option linter.unusedSimpArgs false
set_option maxRecDepth 100000
set_option maxHeartbeats 2000000
attribute [local irreducible] Sq Wp To HR Look Stp LQG LQW VP.of VP.ptr VP.eq VP.cond VP.tup
instance k32 : K3 Try.prog 32 _ _ _ _ L_entry_Matches VP.of VP.of VP.of VP.of := .i Try.func32 rfl Try.ntmps32 rfl fun x0 x1 x2 r h W A => by
 unfold L_entry_Matches at h
 refine go1 (fun p1 p2 p3 y1 hy1 p4 h => ?_)
 refine Qbf h fun e1 hl h => ?_
 refine Qlp (γ:=Unit) (δ:=Unit) hl [0, 1, 2, 3, 4, 5, 6, 7, 8, 18, 20, 21] (fun s1 g1 => [(22, VP.of (s1))]) (fun s1 g1 => []) (fun q1 => Sum.elim (fun q1 => Exit.exit 0) (fun q1 => Exit.ret) q1) (fun q1 g1 => Sum.elim (fun q1 => [(22, VP.of (q1.1)), (23, VP.of (q1.2))]) (fun q1 => [(9, VP.of (q1.1)), (22, VP.of (q1.2.1)), (23, VP.of (q1.2.2.1)), (52, VP.of (q1.2.2.2))]) q1) (fun q1 g1 => []) () (fun s1 r h g1 => ?_) fun g1 => ?_
 ·clear hl
  refine go1 (fun k1 hk1 p5 h => ?_)
  refine Qbf h fun k2 hk2 h => Qbf h fun y2 hy2 h => Qbf h fun k3 hk3 h => Qbf h fun y3 hy3 h => Qbf h fun z1 hz1 h => Wp.dv mixed 26 (rg 27 26) [[], [], [1], [2], [0, 3], [4], [5], [5, 6], [5, 7], [8], [9], [9, 10], [9], [9, 11, 12], [9, 13], [9], [9, 15], [9], [9], [9, 17, 18], [9], [9, 20], [9, 21], [9, 14, 16, 19, 22], [9, 23], [9, 24]] [_, _, _, _, _, _, _, _, _, _, _, _, _, _, _, _, _, _, _, _, _, _, _, _, _, _] ⟨Hm, H1 (r_fa fd40_1.fd), Hld 3 le_T_api_Entry_Matches ty37, H1 (r_len Try.underlying37), H2 r_geq, Hm, Hg fun L' hL => fun hb => r_move (look_t rfl), Hg fun L' hL => fun hb => r_geq (look_tc rfl hb) (look_int 4), Hu fun hL => r_or (look_t rfl) (look_t rfl) (fun h => h), Hm, Hg fun L' hL => fun hb => r_fa fd40_1.fd (look_t rfl), Hg fun L' hL => fun hb => r_load (i := 3) ((Lens.id T_api_Entry).comp le_T_api_Entry_Matches) (r := x1.f_Matches) ty37 (look_tc rfl hb) (hL _ _ rfl rfl) rfl rfl, Hg fun L' hL => fun hb => r_move (look_t rfl), Hg fun L' hL => fun hb => r_ias (k := k2) Try.underlying37 ty58 (look_tc rfl hb) (look_tc rfl hb) (idx_some (condM_some hk2 hb)), Hg fun L' hL => fun hb => r_loadp ty58 (look_tc rfl hb), Hg fun L' hL => fun hb => r_fa fd110_2.fd (look_t rfl), Hg fun L' hL => fun hb => r_load (i := 0) ((Lens.id T_api_Key).comp le_T_api_Key_Kind) (r := (lget y1.1.f_Keys k1).f_Kind) ty3 (look_tc rfl hb) (hL _ _ rfl rfl) rfl rfl, Hg fun L' hL => fun hb => r_load (i := 4) (Lens.id T_api_Schema) (r := x0) ty32 (look_t rfl) (hL _ _ rfl rfl) rfl rfl, Hg fun L' hL => fun hb => r_load (i := 0) (Lens.id T_api_Key) (r := (lget y1.1.f_Keys k1)) ty110 (look_t rfl) (hL _ _ rfl rfl) rfl rfl, Hg fun L' hL => fun hb => r_call en47 (C_entry_bitsOf (condM_some hy2 hb)) ⟨look_tc rfl hb, look_tc rfl hb, trivial⟩, Hg fun L' hL => fun hb => r_move (look_t rfl), Hg fun L' hL => fun hb => r_ia (k := k3) ar49 (look_t rfl) (look_tc rfl hb) (idx_some (condM_some hk3 hb)), Hg fun L' hL => fun hb => r_load (i := 2) ((Lens.id (Vector T_api_Value 4)).comp (Lens.idx (α := T_api_Value) 4 k3 (idx_some (condM_some hk3 hb)).1)) (r := vget x2 k3) ty47 (look_tc rfl hb) (hL _ _ rfl rfl) rfl rfl, Hg fun L' hL => fun hb => r_call en46 (C_entry_Covers (condM_some hy3 hb)) ⟨look_tc rfl hb, look_tc rfl hb, look_tc rfl hb, look_tc rfl hb, trivial⟩, Hg fun L' hL => fun hb => r_not (look_tc rfl hb), Hn hz1 fun L' hL => r_or (look_t rfl) (look_t rfl) (fun h => h), trivial⟩ ?_
  exact go
 ·clear hl
  rcases e1 with e1 | e1
  ·simp only [Sum.elim_inl] at h
   exact go
  ·simp only [Sum.elim_inr] at h
   exact go
instance k52 : K3 Try.prog 52 _ _ _ _ L_entry_Beats VP.of VP.of VP.of VP.of := .i Try.func52 rfl Try.ntmps52 rfl fun x0 x1 x2 r h W A => by
 unfold L_entry_Beats at h
 refine go1 fun p1 p2 p3 => ?_
 refine Qbf h fun y1 hy1 h => Qbf h fun y2 hy2 h => Qbf h fun y3 hy3 h => Qbf h fun y4 hy4 h => Qbf h fun y5 hy5 h => Qbf h fun y6 hy6 h => Wp.dw 24 ?_
 exact go
instance k13 : K2 Try.prog 13 _ _ _ L_ref13_Ranked VP.of VP.of VP.of := .i Try.func13 rfl Try.ntmps13 rfl fun x0 x1 r h W A => by
 unfold L_ref13_Ranked at h
 refine Qsr (Qbx fun p1 => ?_)
 refine Qv (r_asg (look_nil (α := T_api_Installed))) (Qnr ?_)
 refine Qv (r_asg (look_nil (α := T_api_Installed))) (Qns (Qsr ?_))
 refine Qm ?_
 refine Q1 (r_len Try.underlying51) ?_
 refine Qm (Qnx (Wp.block ?_))
 refine Qbf h fun e1 hl h => ?_
 refine Qlp (γ:=Unit) (δ:=Unit) hl [0, 1, 2, 4, 9, 10] (fun s1 g1 => [(5, VP.of (s1.1)), (11, VP.of (s1.2))]) (fun s1 g1 => []) (fun q1 => Exit.exit 0) (fun q1 g1 => [(5, VP.of (q1.1)), (11, VP.of (q1.2.1)), (12, VP.of (q1.2.2))]) (fun q1 g1 => []) () (fun s1 r h g1 => ?_) fun g1 => ?_
 ·clear hl
  refine Qsr (Q2 r_lss (Qns ?_))
  refine Qcd h (fun h=>?_) fun h=>?_
  ·refine Qkn (Wp.seq (Wp.block (Qsr (Qbf h fun k1 hk1 h => Qix hk1 Try.underlying51 ty42 ?_))))
   refine Q1 (r_loadp ty42) ?_
   refine Qal zr42 fun p2 => ?_
   refine Qs0 0 ty42 (Qnr ?_)
   refine Qa (Qns (Wp.block ?_))
   refine Qbf h fun e2 hl h => ?_
   refine Qlp (γ:=Unit) (δ:=Unit) hl [0, 1, 2, 4, 5, 7, 9, 10, 11, 12] (fun s2 g2 => [(8, VP.of (s2))]) (fun s2 g2 => []) (fun q2 => Exit.exit 2) (fun q2 g2 => [(8, VP.of (q2.1)), (27, VP.of (q2.2))]) (fun q2 g2 => []) () (fun s2 r h g2 => ?_) fun g2 => ?_
   ·clear hl
    refine Wp.seq (Wp.seq (Qbf h fun k2 hk2 h => Qbf h fun y1 hy1 h => Wp.dv mixed 13 (rg 15 13) [[], [], [1], [0, 2], [3], [4], [4], [4], [4, 6, 7], [4, 8], [4], [4, 5, 9, 10], [4, 11]] [_, _, _, _, _, _, _, _, _, _, _, _, _] ⟨Hm, Hm, H1 (r_len Try.underlying51), H2 r_lss, Hm, Hg fun L' hL => fun hb => r_load (i := 1) (Lens.id T_api_Schema) (r := x0) ty32 (look_t rfl) (hL _ _ rfl rfl) rfl rfl, Hg fun L' hL => fun hb => r_move (look_t rfl), Hg fun L' hL => fun hb => r_move (look_t rfl), Hg fun L' hL => fun hb => r_ias (k := k2) Try.underlying51 ty42 (look_tc rfl hb) (look_tc rfl hb) (idx_some (condM_some hk2 hb)), Hg fun L' hL => fun hb => r_loadp ty42 (look_tc rfl hb), Hg fun L' hL => fun hb => r_load (i := 0) (Lens.id T_api_Installed) (r := (lget x1 k1)) ty42 (look_t rfl) (hL _ _ rfl rfl) rfl rfl, Hg fun L' hL => fun hb => r_call en30 (C_ref10_Beats (condM_some hy1 hb)) ⟨look_tc rfl hb, look_tc rfl hb, look_tc rfl hb, trivial⟩, Hu fun hL => r_and (look_t rfl) (look_t rfl) (fun h => h), trivial⟩ (Qnx ?_)))
    refine Qcd h (fun h=>?_) fun h=>?_
    ·refine Qkn (Wp.block (Wp.reg (Qm ?_)))
     refine Q2 r_add ?_
     refine Qa (Sq.nil ?_)
     refine To.bnorm ?_
     cases h
     exact Qrd () 0
    ·refine Wp.exit (To.exit ?_)
     cases h
     exact Qlv () 0
   ·clear hl
    refine To.bexit (To.next (Qbf h fun y2 hy2 h => Qbf h fun y3 hy3 h => Qbf h fun y4 hy4 h => Qbf h fun y5 hy5 h => Qbf h fun y6 hy6 h => Wp.keep 1 (Qwl [0, 1, 2, 4, 5, 7, 8, 9, 10, 11, 12, 27] ?_)))
    refine Wp.eD mixed (⟨some 30, [], [2], [2], fun hd => VP.eq (slv (hd 0 0) ([] : List T_api_Installed).length 0), fun hd _ => ⟨(hd 0 0), .row 42 ([] : List T_api_Installed) 0⟩⟩ :: Hp 31 [] [] _ :: Hp 32 [] [] _ :: Hp 33 [1, 2] [] _ :: ⟨some 34, [0, 3], [2], [2], fun hd => VP.eq (slv (hd 4 0) y3.length ((hd 4 1).getD 0)), fun hd _ => ⟨(hd 4 0), .row 42 y3 ((hd 4 1).getD 0)⟩⟩ :: Hp 35 [] [0] _ :: Hp 36 [5] [] _ :: ⟨some 37, [0, 4, 6], [2], [2], fun hd => VP.eq (slv (hd 7 0) y4.length ((hd 7 1).getD 0)), fun hd _ => ⟨(hd 7 0), .row 42 y4 ((hd 7 1).getD 0)⟩⟩ :: Hp 38 [] [] _ :: Hp 39 [] [] _ :: Hp 40 [8, 9] [] _ :: ⟨some 41, [0, 4, 7, 10], [2], [2], fun hd => VP.eq (slv (hd 11 0) y6.length ((hd 11 1).getD 0)), fun hd _ => ⟨(hd 11 0), .row 42 y6 ((hd 11 1).getD 0)⟩⟩ :: ⟨some 5, [0, 1, 2, 3, 4, 5, 6, 7, 8, 9, 10, 11], [], [], fun hd => VP.eq (slv (hd 11 0) y6.length ((hd 11 1).getD 0)), fun _ _ => ⟨none, .dead⟩⟩ :: []) ⟨?_, Dm, Dm, Du fun hE hL => r_slice Try.underlying51 ty42 (look_t (hE _ _ rfl)) .none (.some (look_t (hE _ _ rfl))) hy2, ?_, Dl0 0 ty42, Du fun hE hL => r_bsl (r := [(lget x1 k1)]) Try.underlying51 ty42 zr42 rfl rfl (.cons (by simp) (look_t (hE _ _ rfl)) (.nil)), ?_, Dm, Dm, Du fun hE hL => r_slice Try.underlying51 ty42 (look_t (hE _ _ rfl)) (.some (look_t (hE _ _ rfl))) .none hy5, ?_, ?_, trivial⟩ fun hd1 => ?_
    ·intro hd E' L' hE hL
     refine Sq.bslO (α := T_api_Installed) (r := ([] : List T_api_Installed)) Try.underlying51 ty42 zr42 rfl rfl (.nil) rfl fun key1 => Sq.nil (To.place 2 (hL 2 _ rfl rfl) ?_)
     exact To.fin (gm [key1]) rfl rfl
    ·intro hd E' L' hE hL
     refine Sq.app (i := 2) Try.underlying51 ty42 zr42 (bytes := 88) (by kernel_rfl) (look_t (hE _ _ rfl)) (hL 2 _ rfl rfl) (look_t (hE _ _ rfl)) hy3 rfl fun key2 cap1 => ?_
     refine Sq.nil ?_
     exact To.fin (gm [key2, some cap1]) rfl rfl
    ·intro hd E' L' hE hL
     refine Sq.app (i := 2) Try.underlying51 ty42 zr42 (bytes := 88) (by kernel_rfl) (look_t (hE _ _ rfl)) (hL 2 _ rfl rfl) (look_t (hE _ _ rfl)) hy4 rfl fun key3 cap2 => ?_
     refine Sq.nil ?_
     exact To.fin (gm [key3, some cap2]) rfl rfl
    ·intro hd E' L' hE hL
     refine Sq.app (i := 2) Try.underlying51 ty42 zr42 (bytes := 88) (by kernel_rfl) (look_t (hE _ _ rfl)) (hL 2 _ rfl rfl) (look_t (hE _ _ rfl)) hy6 rfl fun key4 cap3 => ?_
     refine Sq.nil ?_
     exact To.fin (gm [key4, some cap3]) rfl rfl
    ·intro hd E' L' hE hL
     refine Qv (r_asg (look_t (hE _ _ rfl))) (Sq.nil ?_)
     exact To.fin (gm []) rfl rfl
    refine To.eqL (L2 := [vr p2 (lget x1 k1 : T_api_Installed), vr p1 x0, ⟨(hd1 11 0), .row 42 y6 ((hd1 11 1).getD 0)⟩]) rfl (Qte ?_)
    refine To.bring 2 rfl (To.bnorm (To.next (Wp.reg (Q2 r_add ?_))))
    refine Qm (Sq.nil ?_)
    refine To.freezeL (α := T_api_Installed) 0 [5, 41] ⟨rfl, rfl, trivial⟩ rfl ?_
    cases h
    exact Qrd () 2
  ·refine Wp.exit (To.exit ?_)
   cases h
   exact Qlv () 0
 ·clear hl
  refine To.bexit (To.next (Qsr (Qm ?_)))
  refine Qa (Qnx (Wp.ret ?_))
  cases h
  exact Qe1
end Go.Proofs.Ytmlgdkccoomiaaa

namespace Go.Proofs.Ytmlgdkccoomiaaa
open Go Gv
set_option linter.unusedVariables false
set_option linter.unusedSimpArgs false
set_option maxRecDepth 100000
set_option maxHeartbeats 2000000
attribute [local irreducible] Sq Wp To HR Look Stp LQG LQW VP.of VP.ptr VP.eq VP.cond VP.tup
instance k55 : K2 Try.prog 55 _ _ _ L_ref10_Compare VP.of VP.of VP.of := .i Try.func55 rfl Try.ntmps55 rfl fun x0 x1 r h W A => by
 unfold L_ref10_Compare at h
 refine go1 fun p1 p2 => ?_
 refine Qbf h fun y1 hy1 h => Qbf h fun y2 hy2 h => Qbf h fun y3 hy3 h => Qbf h fun y4 hy4 h => Wp.dw 23 (Qnx (Wp.block ?_))
 refine Qbf h fun e1 hl h => ?_
 refine Qlp (γ:=Unit) (δ:=Unit) hl [0, 1, 2, 3, 27, 28] (fun s1 g1 => [(4, VP.of (0 : Int)), (29, VP.of (s1))]) (fun s1 g1 => []) (fun q1 => Sum.elim (fun q1 => Exit.exit 0) (fun q1 => Exit.ret) q1) (fun q1 g1 => Sum.elim (fun q1 => [(4, VP.of (0 : Int)), (29, VP.of (q1.1)), (30, VP.of (q1.2))]) (fun q1 => [(4, VP.of (q1.1)), (6, VP.of (q1.2.1)), (29, VP.of (q1.2.2.1)), (30, VP.of (q1.2.2.2.1)), (34, VP.of (q1.2.2.2.2))]) q1) (fun q1 g1 => []) () (fun s1 r h g1 => ?_) fun g1 => ?_
 ·clear hl
  exact go
 ·clear hl
  rcases e1 with e1 | e1
  ·simp only [Sum.elim_inl] at h
   exact go
  ·simp only [Sum.elim_inr] at h
   exact go
theorem Ch0_1_ordered_List_All {x0 pp0 key00_0 cap00_0 r} (h : Lh0_1_ordered_List_All x0 = some r) : MeetsO Try.prog 11 [VP.pb pp0] [⟨some pp0, .varX ({ x0 with f_l := [] } : T_ordered_List) [(10, slv key00_0 x0.f_l.length cap00_0)]⟩, ⟨key00_0, .row 42 x0.f_l cap00_0⟩] (δ := Unit) (fun d => VP.of (r)) (fun d => [⟨some pp0, .varX ({ x0 with f_l := [] } : T_ordered_List) [(10, slv key00_0 (x0.f_l).length cap00_0)]⟩, ⟨key00_0, .row 42 x0.f_l cap00_0⟩]) := by
 unfold Lh0_1_ordered_List_All at h
 refine MeetsO.of Try.func11 rfl Try.ntmps11 rfl fun W A => Qsr (Qv (r_asg (look_nil (α := T_api_Installed))) ?_)
 refine go1 ?_
 refine Qv (r_pnil Try.underlying36 (look_t rfl)) (Qnx ?_)
 refine Wp.condF (look_t rfl) rfl ?_
 refine go1 ?_
 refine Qv (r_loadH (i := 0) (q := 0) (β := T_ordered_List) (γ := T_api_Installed) ty51 (look_t rfl) rfl rfl) ?_
 refine Qbf h fun y1 hy1 h => Sq.vS (HS.call [1] en28 (Cl0_own_List hy1) ⟨look_t rfl, trivial⟩ rfl ⟨rfl, trivial⟩ rfl) rfl rfl rfl (Qa (Qnx (Wp.ret ?_)))
 refine To.bring 1 rfl (To.bring 1 rfl ?_)
 cases h
 exact Qo1 ()
theorem Cf0_ordered_List_order {x0 x1 x2 r} (h : Lf0_ordered_List_order x0 x1 x2 = some r) : Meets Try.prog 38 [VP.ptr x0, VP.of (x1), VP.of (x2)] (VP.of (r)) := by
 unfold Lf0_ordered_List_order at h
 refine Meets.of Try.func38 rfl Try.ntmps38 rfl fun W A => ?_
 refine go1 fun p1 p2 => ?_
 refine Qbf h fun y1 hy1 h => Wp.dw 7 ?_
 refine go1 (fun h => ?_)
 refine Qbf h fun y2 hy2 h => Wp.dw 7 ?_
 exact go
instance k43 : K2 Try.prog 43 _ _ _ L_ref10_Same VP.of VP.of VP.of := .i Try.func43 rfl Try.ntmps43 rfl fun x0 x1 r h W A => by
 unfold L_ref10_Same at h
 exact go
theorem Ch1_1_ordered_List_matching_fn1 {x1 : T_ordered_List} {x2 : Vector T_api_Value 4} {pp1 : Nat} {key01_0 : Option Nat} {cap01_0 : Nat} : MeetsI Try.prog 31 [VP.pv (VP.pb pp1), VP.ptr x2] [⟨some pp1, .varX ({ x1 with f_l := [] } : T_ordered_List) [(10, slv key01_0 x1.f_l.length cap01_0)]⟩, ⟨key01_0, .row 42 x1.f_l cap01_0⟩] (fun v : T_api_Installed => VP.of v) (fun {σ ε} => Lh1_1_ordered_List_matching_fn1 (σ := σ) (ε := ε) x1 x2) := by
 refine MeetsI.of Try.func31 rfl Try.ntmps31 rfl ?_
 intro σ ε γ Ls Lx step s0 g0 r h W A u hY
 replace h : Lh1_1_ordered_List_matching_fn1 x1 x2 step s0 = some r := h
 unfold Lh1_1_ordered_List_matching_fn1 at h
 refine Qsr (Qv (r_loadF Try.underlying36 rfl (look_t rfl)) ?_)
 refine go1 ?_
 refine Qv (r_loadH (i := 0) (q := 0) (β := T_ordered_List) (γ := T_api_Installed) ty51 (look_t rfl) rfl rfl) ?_
 refine Qv (r_lenO (i := 1) Try.underlying51 (look_t rfl) rfl rfl) ?_
 refine Qm (Qnx (Wp.block ?_))
 refine Qbf h fun e1 hl h => ?_
 refine Wp.loopG (σ := Int × (σ)) (ε := (Int × Bool × (σ)) ⊕ (Int × Bool × Bool × (ε))) (γ := γ) (δ := γ) hl (fun s1 g1 => [(0, VP.eq u), (1, VP.pv (VP.pb pp1)), (2, VP.ptr x2), (9, VP.eq (slv key01_0 x1.f_l.length cap01_0)), (10, VP.of (x1.f_l.length : Int)), (11, VP.of (s1.1))]) (fun s1 g1 => (⟨some pp1, .varX ({ x1 with f_l := [] } : T_ordered_List) [(10, slv key01_0 x1.f_l.length cap01_0)]⟩ :: ⟨key01_0, .row 42 x1.f_l cap01_0⟩ :: Ls s1.2 g1)) (fun q1 => Sum.elim (fun q1 => Exit.exit 0) (fun q1 => Exit.ret) q1) (fun q1 g1 => Sum.elim (fun q1 => [(0, VP.eq u), (1, VP.pv (VP.pb pp1)), (2, VP.ptr x2), (9, VP.eq (slv key01_0 x1.f_l.length cap01_0)), (10, VP.of (x1.f_l.length : Int)), (11, VP.of (q1.1)), (12, VP.of (q1.2.1))]) (fun q1 => [(0, VP.eq u), (1, VP.pv (VP.pb pp1)), (2, VP.ptr x2), (9, VP.eq (slv key01_0 x1.f_l.length cap01_0)), (10, VP.of (x1.f_l.length : Int)), (11, VP.of (q1.1)), (12, VP.of (q1.2.1)), (28, VP.of (q1.2.2.1))]) q1) (fun q1 g1 => Sum.elim (fun q1 => (⟨some pp1, .varX ({ x1 with f_l := [] } : T_ordered_List) [(10, slv key01_0 x1.f_l.length cap01_0)]⟩ :: ⟨key01_0, .row 42 x1.f_l cap01_0⟩ :: Ls q1.2.2 g1)) (fun q1 => (⟨some pp1, .varX ({ x1 with f_l := [] } : T_ordered_List) [(10, slv key01_0 x1.f_l.length cap01_0)]⟩ :: ⟨key01_0, .row 42 x1.f_l cap01_0⟩ :: Lx q1.2.2.2 g1)) q1) g0 rfl .all (fun s1 r h g1 => ?_) (fun g1 => ?_)
 ·clear hl
  refine go2 (fun h => ?_) (fun h => ?_)
  ·refine Qbf h fun k1 hk1 h => Qv (r_iaO (i := 1) (k := k1) (xs := (x1.f_l : List T_api_Installed)) Try.underlying51 ty42 (look_t rfl) (look_t rfl) rfl (idx_some hk1)) ?_
   refine Qv (r_loadR (i := 1) (k := k1) (Lens.id T_api_Installed) (r := (lget x1.f_l k1)) ty42 (look_t rfl) rfl (idx_some hk1).1 rfl rfl) ?_
   refine go1 fun p1 => ?_
   refine Qbf h fun y1 hy1 h => ?_
   refine Wp.dv mixed 11 (rg 15 11) [[], [0], [1], [2], [], [4], [], [3, 5, 6], [7], [8], [8]] [_, _, _, _, _, _, _, _, _, _, _] ⟨Hu fun hL => r_loadF Try.underlying36 rfl (look_t rfl), H1 r_nck, H1 (r_fa fd87_0.fd), Hu fun hL => r_loadX (i := 1) ((Lens.id T_ordered_List).comp le_T_ordered_List_schema) (r := x1.f_schema) ty32 (look_t rfl) (hL _ _ rfl rfl) rfl rfl (by rfl), H1 (r_fa fd42_0.fd), Hld 0 le_T_api_Installed_Entry ty40, H1 (r_loadp ty49), Hcl k32.en (k32.m _ _ _ _ hy1), Hm, Hg fun L' hL => fun hb => r_move (look_t rfl), Hg fun L' hL => fun hb => r_load (i := 0) (Lens.id T_api_Installed) (r := (lget x1.f_l k1)) ty42 (look_t rfl) (hL _ _ rfl rfl) rfl rfl, trivial⟩ ?_
   refine Sq.cases y1 (fun hb => ?_) (fun hb => ?_)
   ·replace h := cond_t hb h
    refine Qbf h fun y2 hy2 h => ?_
    refine Sq.yieldT (Lin := [vr p1 ((lget x1.f_l k1) : T_api_Installed), ⟨some pp1, .varX ({ x1 with f_l := [] } : T_ordered_List) [(10, slv key01_0 x1.f_l.length cap01_0)]⟩, ⟨key01_0, .row 42 x1.f_l cap01_0⟩]) (Ls := Ls) (Lx := Lx) (step := step) (s := s1.2) (gg := g1) rfl hY hb rfl rfl rfl (look_tc rfl hb) hy2 rfl (fun s2 hr g2 => ?_) (fun q2 hr g2 => ?_)
    ·subst hr; simp only [Sum.elim_inl] at h
     refine Sq.nL ?_
     refine go1 ?_
     refine Wp.condF (look_t rfl) (by first | rfl | (rw [hb]; rfl)) ?_
     refine go1 ?_
     cases h
     exact Qrd g2 1
    ·subst hr; simp only [Sum.elim_inr] at h
     refine Sq.nL ?_
     refine go1 ?_
     refine Wp.condT (look_t rfl) (by first | rfl | (rw [hb]; rfl)) ?_
     refine Wp.ret (To.bret (To.ret ?_))
     cases h
     exact Qlv g2 1
   ·replace h := cond_f hb h
    refine Sq.skipG (.of false) hb rfl rfl rfl rfl rfl ?_
    refine go1 ?_
    refine Wp.condF (look_t rfl) (by first | rfl | (rw [hb]; rfl)) ?_
    refine go1 ?_
    cases h
    exact Qrd g1 1
  ·cases h
   exact Qlv g1 0
 ·clear hl
  rcases e1 with e1 | e1
  ·simp only [Sum.elim_inl] at h
   refine To.bexit (To.endn (To.bring 1 rfl (To.bring 1 rfl ?_)))
   cases h
   exact To.endO0 g1 (.cons_cons _ (.cons_cons _ (.refl _))) rfl rfl
  ·simp only [Sum.elim_inr] at h
   refine To.bret (To.bring 1 rfl (To.bring 1 rfl ?_))
   cases h
   exact To.endO0 g1 (.cons_cons _ (.cons_cons _ (.refl _))) rfl rfl
end Go.Proofs.Ytmlgdkccoomiaaa

namespace Gv
open Go
set_option linter.unusedVariables false
section
variable {c : Cx} {E : List (Nat × VP)} {L : List Ent} {Q : Exit → Act → World → Prop}
theorem To.permL {x : Exit} {L2 : List Ent} (hp : L.Perm L2) (k : To c Q x E L2) : To c Q x E L := fun a W st => k a W (st.perm hp)
theorem Wp.permL {y : Code} {L2 : List Ent} (hp : L.Perm L2) (k : Wp c Q y E L2) : Wp c Q y E L := fun a W st => k a W (st.perm hp)
theorem Sq.permL {ops : Array Oper} {l : List Oper} {L2 : List Ent} (hp : L.Perm L2) (k : Sq c ops Q l E L2) : Sq c ops Q l E L := fun a W st => k a W (st.perm hp)
theorem To.roundP {σ ε γ δ : Type} {E' : σ → γ → List (Nat × VP)} {L' : σ → γ → List Ent} {xs : ε → Exit} {Ex : ε → δ → List (Nat × VP)} {Lx : ε → δ → List Ent} {s : σ} (g : γ) (n : Nat) {L2 : List Ent}
    (hp : L.Perm L2) (hL : L2.drop n = L' s g) (h : Le E (E' s g)) : To c (LQG c E' L' xs Ex Lx (.inl s)) .normal E L := fun a W st => ⟨rfl, g, by rw [← hL]; exact ((st.perm hp).dropL n).less h.look⟩
end
def upd1 {α : Type} (f : Nat → α) (n : Nat) (d : α) : Nat → α := fun i => if i = n then d else f i
theorem mapIdx_app {α β γ : Type} (g : α → β → γ) (f : Nat → β) (l : List α) (y : α) (d : β) : (l ++ [y]).mapIdx (fun i x => g x (upd1 f l.length d i)) = l.mapIdx (fun i x => g x (f i)) ++ [g y d] := by
  rw [List.mapIdx_append]
  congr 1
  · apply List.ext_getElem?
    intro i
    rw [List.getElem?_mapIdx, List.getElem?_mapIdx]
    cases h : l[i]? with
    | none => rfl
    | some x =>
      have hi : i < l.length := (List.getElem?_eq_some_iff.1 h).1
      simp only [Option.map_some, upd1, if_neg (Nat.ne_of_lt hi)]
  · simp [upd1]
theorem appM_len {α β : Type} {b : Nat} {xs ys r : List α} {xs' ys' : List β} (h : appM b xs ys = some r) (h1 : xs'.length = xs.length) (h2 : ys'.length = ys.length) : appM b xs' ys' = some (xs' ++ ys') := by
  unfold appM at h ⊢
  rw [h1, h2]
  split at h
  · rename_i hc; rw [if_pos hc]
  · cases h
end Gv
namespace Go.Proofs.Ytmlgdkccoomiaaa
open Go Gv Go.Proofs.Try
set_option linter.unusedVariables false
set_option linter.unusedSimpArgs false
set_option maxRecDepth 100000
set_option maxHeartbeats 2000000

def raws (l : List T_api_Installed) (f : Nat → Option Nat × Nat) : List RI := l.mapIdx fun i x => toRI x (f i)
def ents (l : List T_api_Installed) (f : Nat → Option Nat × Nat) : List Ent := l.mapIdx fun i x => entR x (f i)
theorem raws_len {l : List T_api_Installed} {f : Nat → Option Nat × Nat} : (raws l f).length = l.length := List.length_mapIdx
theorem raws_app {l : List T_api_Installed} {f : Nat → Option Nat × Nat} {y : T_api_Installed} {d : Option Nat × Nat} : raws (l ++ [y]) (upd1 f l.length d) = raws l f ++ [toRI y d] := mapIdx_app toRI f l y d
theorem ents_app {l : List T_api_Installed} {f : Nat → Option Nat × Nat} {y : T_api_Installed} {d : Option Nat × Nat} : ents (l ++ [y]) (upd1 f l.length d) = ents l f ++ [entR y d] := mapIdx_app entR f l y d

theorem CR_List {x0 : List T_api_Installed} {key00 : Option Nat} {cap00 : Nat} {r : List T_api_Installed} (h : Ll0_own_List x0 = some r) : MeetsO Try.prog 28 [VP.eq (slv key00 x0.length cap00)] [⟨key00, .row 42 x0 cap00⟩] (δ := Nat → Option Nat × Nat) (fun f => VP.of (raws r f)) (fun f => ⟨key00, .row 42 x0 cap00⟩ :: ents r f) := by
  unfold Ll0_own_List at h
  refine MeetsO.of Try.func28 rfl Try.ntmps28 rfl fun W A => Qsr (Qv (r_asg (look_nil (α := RI))) (Qnr ?_))
  refine Sq.own (α := RI) 42 (Qv (r_asg look_own) (Qns (Qsr ?_)))
  refine Qm ?_
  refine Qv (r_lenO (i := 1) Try.underlying51 (look_t rfl) rfl rfl) ?_
  refine Qm (Qnx (Wp.block ?_))
  refine Qbf h fun e1 hl h => ?_
  refine Wp.loopG hl (fun s (g : (Option Nat × Nat) × (Nat → Option Nat × Nat)) => [(3, VP.eq (slv g.1.1 (raws s.2 g.2).length g.1.2)), (8, VP.of s.1), (6, VP.eq (slv key00 x0.length cap00)), (7, VP.of (x0.length : Int))])
    (fun s g => ⟨g.1.1, .row 42 (raws s.2 g.2) g.1.2⟩ :: ⟨key00, .row 42 x0 cap00⟩ :: ents s.2 g.2) (fun _ => Exit.exit 0)
    (fun e (g : (Option Nat × Nat) × (Nat → Option Nat × Nat)) => [(3, VP.eq (slv g.1.1 (raws e.2.2 g.2).length g.1.2))]) (fun e g => ⟨g.1.1, .row 42 (raws e.2.2 g.2) g.1.2⟩ :: ⟨key00, .row 42 x0 cap00⟩ :: ents e.2.2 g.2)
    ((none, 0), fun _ => (none, 0)) rfl (by repeat (first | exact Le.nil | refine Le.same rfl ?_)) (fun s1 r h g1 => ?_) fun g1 => ?_
  · clear hl
    refine Qsr (Q2 r_lss (Qns ?_))
    refine Qcd h (fun h => ?_) fun h => ?_
    · refine Qkn (Wp.seq (Wp.block (Qsr (Qbf h fun k1 hk1 h => Qv (r_iaO (i := 1) (k := k1) (xs := x0) Try.underlying51 ty42 (look_t rfl) (look_t rfl) rfl (idx_some hk1)) ?_))))
      refine Qv (r_loadR (i := 1) (k := k1) (Lens.id T_api_Installed) (r := (lget x0 k1)) ty42 (look_t rfl) rfl (idx_some hk1).1 rfl rfl) ?_
      refine Qal zr42 fun p1 => ?_
      refine Qs0 0 ty42 (Qnx (Wp.reg ?_))
      refine Qm ?_
      refine Ql0 0 ty42 ?_
      refine Qbf h fun y1 hy1 h => Sq.callO (Lin := []) (Lr := _) eo22 (CO_Installed hy1) ⟨look_t rfl, trivial⟩ rfl fun d => ?_
      refine Qbl [toRI y1 d] Try.underlying51 gy42 gr42 ?_
      refine Qbf h fun y2 hy2 h => Qap 2 Try.underlying51 gy42 gr42 (appM_len hy2 raws_len rfl) fun key1 cap1 => ?_
      refine Qa (Sq.nil ?_)
      refine To.bnorm (To.next (Wp.reg (Q2 r_add ?_)))
      refine Qm (Sq.nil ?_)
      cases h
      obtain ⟨_, _, rfl⟩ := appM_some hy2
      refine To.roundP ((key1, cap1), upd1 g1.2 s1.2.length d) 1 (L2 := ⟨some p1, .var (lget x0 k1)⟩ :: ⟨key1, .row 42 (raws s1.2 g1.2 ++ [toRI y1 d]) cap1⟩ :: ⟨key00, .row 42 x0 cap00⟩ :: (ents s1.2 g1.2 ++ [entR y1 d])) ?_ ?_ ?_
      · exact List.perm_append_comm (l₁ := [entR y1 d])
      · simp only [List.drop_succ_cons, List.drop_zero, raws_app, ents_app]
      · simp only [raws_app]
        repeat (first | exact Le.nil | refine Le.same rfl ?_)
    · refine Wp.exit (To.exit ?_)
      cases h
      exact Qlv g1 0
  · clear hl
    refine To.bexit (To.next (Qsr (Qm ?_)))
    refine Qa (Qnx (Wp.ret ?_))
    refine To.freezeL (α := RI) 0 [2, 3, 18] ⟨rfl, rfl, rfl, trivial⟩ rfl ?_
    cases h
    exact Qo1 g1.2 (hs := .cons _ (.refl _))
attribute [local irreducible] Sq Wp To HR Look Stp LQG LQW VP.of VP.ptr VP.eq VP.cond VP.tup
theorem CR_All {x0 : T_ordered_List} {pp0 : Nat} {key00_0 : Option Nat} {cap00_0 : Nat} {r : List T_api_Installed} (h : Lh0_1_ordered_List_All x0 = some r) : MeetsO Try.prog 11 [VP.pb pp0] [⟨some pp0, .varX ({ x0 with f_l := [] } : T_ordered_List) [(10, slv key00_0 x0.f_l.length cap00_0)]⟩, ⟨key00_0, .row 42 x0.f_l cap00_0⟩] (δ := Nat → Option Nat × Nat) (fun f => VP.of (raws r f))
    (fun f => ⟨some pp0, .varX ({ x0 with f_l := [] } : T_ordered_List) [(10, slv key00_0 x0.f_l.length cap00_0)]⟩ :: ⟨key00_0, .row 42 x0.f_l cap00_0⟩ :: ents r f) := by
  unfold Lh0_1_ordered_List_All at h
  refine MeetsO.of Try.func11 rfl Try.ntmps11 rfl fun W A => Qsr (Qv (r_asg (look_nil (α := T_api_Installed))) ?_)
  refine go1 ?_
  refine Qv (r_pnil Try.underlying36 (look_t rfl)) (Qnx ?_)
  refine Wp.condF (look_t rfl) rfl ?_
  refine go1 ?_
  refine Qv (r_loadH (i := 0) (q := 0) (β := T_ordered_List) (γ := T_api_Installed) ty51 (look_t rfl) rfl rfl) ?_
  refine Qbf h fun y1 hy1 h => ?_
  refine Sq.bring 1 rfl (Sq.callO (Lin := [⟨key00_0, .row 42 x0.f_l cap00_0⟩]) (Lr := [⟨some pp0, .varX ({ x0 with f_l := [] } : T_ordered_List) [(10, slv key00_0 x0.f_l.length cap00_0)]⟩]) en28 (CR_List hy1) ⟨look_t rfl, trivial⟩ rfl fun f => ?_)
  refine Qa (Qnx (Wp.ret ?_))
  cases h
  refine To.permL (L2 := ⟨some pp0, .varX ({ x0 with f_l := [] } : T_ordered_List) [(10, slv key00_0 x0.f_l.length cap00_0)]⟩ :: ⟨key00_0, .row 42 x0.f_l cap00_0⟩ :: ents r f) (List.perm_append_comm (l₂ := [_])) ?_
  exact Qo1 f (hs := .refl _)
end Go.Proofs.Ytmlgdkccoomiaaa

namespace Gv
open Go
set_option linter.unusedVariables false
set_option linter.unusedSimpArgs false
section
variable {c : Cx} {E : List (Nat × VP)} {L : List Ent} {Q : Exit → Act → World → Prop}
def cntB (n : Nat) : Nat → Option (Nat ⊕ Unit) := fun i => if i < n then Option.some (.inl (i + 1)) else if i = n then Option.some (.inr ()) else Option.none
theorem cntB_ok (n : Nat) : ∀ k i, i + k = n → loopM (k + 1) (cntB n) i = Option.some ()
  | 0, i, h => by
    have : cntB n i = Option.some (.inr ()) := by unfold cntB; rw [if_neg (by omega), if_pos (by omega)]
    simp only [loopM, this]
  | k + 1, i, h => by
    have : cntB n i = Option.some (.inl (i + 1)) := by unfold cntB; rw [if_pos (by omega)]
    have ih := cntB_ok n k (i + 1) (by omega)
    rw [loopM, this]; exact ih
theorem Wp.count {E0 : List (Nat × VP)} {id d : Nat} (n : Nat) {body : Code}
    (hb : ∀ i : Nat, i < n → Wp c (fun x a W => x = .normal ∧ St c ((d, .of ((i + 1 : Nat) : Int)) :: E0) L a W) body ((d, .of (i : Int)) :: E0) L)
    (he : Wp c (fun x a W => x = .exit id ∧ St c E0 L a W) body ((d, .of (n : Int)) :: E0) L) (k : To c Q (.exit id) E0 L) : Wp c Q (.loop body) ((d, .of (0 : Int)) :: E0) L :=
  Wp.loop (σ := Nat) (ε := Unit) (cntB_ok n n 0 (Nat.zero_add n)) (fun i => (d, .of (i : Int)) :: E0) (fun _ => L) (fun _ => .exit id) (fun _ => E0) (fun _ => L)
    (fun i r h => by
      unfold cntB at h
      by_cases hi : i < n
      · rw [if_pos hi] at h
        cases h
        exact hb i hi
      · rw [if_neg hi] at h
        by_cases hn : i = n
        · rw [if_pos hn] at h
          cases h
          subst hn
          exact fun a W s => wpIn_mono (he a W s) fun x a W ⟨h1, h2⟩ => ⟨by rw [h1]; exact fun h => (by cases h), h1, h2⟩
        · rw [if_neg hn] at h
          cases h)
    k
theorem Wp.openE {y : Code} {b : Option Nat} {α : Type} [Rp α] {T n cap : Nat} {R : List Ent} (k : ∀ xs : List α, xs.length = n → Wp c Q y E (⟨b, .row T xs cap⟩ :: R)) : Wp c Q y E (⟨b, CP.rowE α T n cap⟩ :: R) := fun a W s => by
  have ho := s.own _ (List.mem_cons_self ..)
  have hr : ∀ e ∈ R, e.ok (ks (⟨b, CP.rowE α T n cap⟩ :: R) ++ c.A0) W := fun e he => s.own e (List.mem_cons_of_mem _ he)
  cases b with
  | none =>
    obtain ⟨h1, h2⟩ := ho
    refine k [] h1.symm a W { defers := s.defers, size := s.size, env := s.env, fr := s.fr, own := fun e he => ?_, nodup := s.nodup, lt := s.lt, mine := s.mine, old := s.old }
    rcases List.mem_cons.1 he with rfl | he
    · exact ⟨rfl, h2⟩
    · exact hr e he
  | some p =>
    obtain ⟨o, hob, xs, h1, h2⟩ := ho
    refine k xs h1 a W { defers := s.defers, size := s.size, env := s.env, fr := s.fr, own := fun e he => ?_, nodup := s.nodup, lt := s.lt, mine := s.mine, old := s.old }
    rcases List.mem_cons.1 he with rfl | he
    · exact ⟨o, hob, h2⟩
    · exact hr e he
theorem St.closeE {a : Act} {W : World} {b : Option Nat} {α : Type} [Rp α] {T n cap : Nat} {xs : List α} {R : List Ent} (hn : xs.length = n) (s : St c E (⟨b, .row T xs cap⟩ :: R) a W) : St c E (⟨b, CP.rowE α T n cap⟩ :: R) a W := by
  have ho := s.own _ (List.mem_cons_self ..)
  have hr : ∀ e ∈ R, e.ok (ks (⟨b, .row T xs cap⟩ :: R) ++ c.A0) W := fun e he => s.own e (List.mem_cons_of_mem _ he)
  cases b with
  | none =>
    obtain ⟨h1, h2⟩ := ho
    refine { defers := s.defers, size := s.size, env := s.env, fr := s.fr, own := fun e he => ?_, nodup := s.nodup, lt := s.lt, mine := s.mine, old := s.old }
    rcases List.mem_cons.1 he with rfl | he
    · exact ⟨by rw [← hn, h1]; rfl, h2⟩
    · exact hr e he
  | some p =>
    obtain ⟨o, hob, h2⟩ := ho
    refine { defers := s.defers, size := s.size, env := s.env, fr := s.fr, own := fun e he => ?_, nodup := s.nodup, lt := s.lt, mine := s.mine, old := s.old }
    rcases List.mem_cons.1 he with rfl | he
    · exact ⟨o, hob, xs, hn, h2⟩
    · exact hr e he
theorem To.closeE {x : Exit} {b : Option Nat} {α : Type} [Rp α] {T n cap : Nat} {xs : List α} {R : List Ent} (hn : xs.length = n) (k : To c Q x E (⟨b, CP.rowE α T n cap⟩ :: R)) : To c Q x E (⟨b, .row T xs cap⟩ :: R) := fun a W s => k a W (s.closeE hn)
theorem Wp.closeE {y : Code} {b : Option Nat} {α : Type} [Rp α] {T n cap : Nat} {xs : List α} {R : List Ent} (hn : xs.length = n) (k : Wp c Q y E (⟨b, CP.rowE α T n cap⟩ :: R)) : Wp c Q y E (⟨b, .row T xs cap⟩ :: R) := fun a W s => k a W (s.closeE hn)
theorem look_ex {L : List Ent} {x : Operand} {u : Value} (h : Look c E L x (.of (⟨u⟩ : Ex))) : Look c E L x (.eq u) := fun a W s => (of_ex.1 (h a W s)).1
theorem perm_of_mem {α : Type} {e : α} {l : List α} (h : e ∈ l) : ∃ r, l.Perm (e :: r) := by
  obtain ⟨s, t, rfl⟩ := List.append_of_mem h
  exact ⟨s ++ t, List.perm_middle⟩
/-- a round ends, a round leaves -/
theorem To.cnt {E0 : List (Nat × VP)} {d i : Nat} {L2 : List Ent} (n : Nat) (hp : L.Perm L2) {L1 : List Ent} (hL : L2.drop n = L1) (hE : Le E ((d, .of ((i + 1 : Nat) : Int)) :: E0)) : To c (fun x a W => x = .normal ∧ St c ((d, .of ((i + 1 : Nat) : Int)) :: E0) L1 a W) .normal E L :=
  fun a W s => ⟨rfl, by rw [← hL]; exact ((s.perm hp).dropL n).less hE.look⟩
theorem To.cex {E0 : List (Nat × VP)} {id : Nat} (hE : Le E E0) : To c (fun x a W => x = .exit id ∧ St c E0 L a W) (.exit id) E L := fun a W s => ⟨rfl, s.less hE.look⟩
end
end Gv
namespace Gv
open Go
theorem To.dropP {c : Cx} {E : List (Nat × VP)} {L X L2 : List Ent} {Q : Exit → Act → World → Prop} {x : Exit} (hp : L.Perm (X ++ L2)) (k : To c Q x E L2) : To c Q x E L := fun a W s => k a W (by
  have := (s.perm hp).dropL X.length
  rwa [List.drop_left] at this)
theorem look_cast {c : Cx} {E : List (Nat × VP)} {L : List Ent} {o : Operand} {α : Type} [Rp α] {x y : α} (e : x = y) (h : Look c E L o (.of x)) : Look c E L o (.of y) := e ▸ h
theorem idx_ok {n i : Nat} (h : i < n) : idx n (i : Int) = some i := by unfold idx; rw [if_pos (by omega)]; rfl
theorem w64_sc {k : Nat} (h : k + 1 ≤ 9223372036854775807) : w64 ((k : Int) + 1) = ((k + 1 : Nat) : Int) := by rw [w64_in (by omega) (by omega)]; rfl
theorem Sl.le {α : Type} [Rp α] {A W v} {xs : List α} (h : Sl A W v xs) : xs.length ≤ 9223372036854775807 := by
  rcases h with ⟨_, rfl⟩ | ⟨b, off, cap, cur, T, fz, h1, h2, h3, h4, h5, _⟩
  · simp
  · exact h5
theorem Wp.lenS {c : Cx} {E : List (Nat × VP)} {L : List Ent} {Q : Exit → Act → World → Prop} {y : Code} {α : Type} [Rp α] {xs : List α} (d : Nat) (hd : look E d = Option.some (.of xs)) (k : xs.length ≤ 9223372036854775807 → Wp c Q y E L) : Wp c Q y E L := fun a W s =>
  let ⟨v, _, h⟩ := s.env d _ hd
  k (of_list.1 h).le a W s
theorem Wp.lenE {c : Cx} {E : List (Nat × VP)} {Q : Exit → Act → World → Prop} {y : Code} {b : Option Nat} {α : Type} [Rp α] {T n cap : Nat} {R : List Ent} (k : n ≤ 9223372036854775807 → Wp c Q y E (⟨b, CP.rowE α T n cap⟩ :: R)) : Wp c Q y E (⟨b, CP.rowE α T n cap⟩ :: R) := fun a W s => by
  have ho := s.own _ (List.mem_cons_self ..)
  cases b with
  | none => obtain ⟨h1, _⟩ := ho; exact k (by omega) a W s
  | some p =>
    obtain ⟨o, _, xs, h1, cs, _, _, h2, h3, _⟩ := ho
    exact k (by have h3 : cap ≤ 9223372036854775807 := h3; omega) a W s
end Gv
namespace Go.Proofs.Ytmlgdkccoomiaaa
open Go Gv
theorem row_of {l : List T_api_Installed} {f : Nat → Option Nat × Nat} {i : Nat} (hi : i < (raws l f).length) {L : List Ent} (hL : ∀ e ∈ ents l f, e ∈ L) :
    ∃ b m cap R, L.Perm (⟨b, CP.rowE T_api_Match 58 m cap⟩ :: R) ∧ (ri_E.comp re_M).get (lget (raws l f) i) = ⟨slv b m cap⟩ := by
  have hl : i < l.length := by rw [raws_len] at hi; exact hi
  have he : entR l[i] (f i) ∈ ents l f := by
    unfold ents
    rw [List.mem_mapIdx]
    exact ⟨i, hl, rfl⟩
  obtain ⟨R, hR⟩ := perm_of_mem (hL _ he)
  refine ⟨(f i).1, _, (f i).2, R, hR, ?_⟩
  have : lget (raws l f) i = toRI l[i] (f i) := by
    show ((l.mapIdx fun i x => toRI x (f i))[i]?).getD default = _
    rw [List.getElem?_mapIdx, List.getElem?_eq_getElem hl]
    rfl
  rw [this]
  rfl
end Go.Proofs.Ytmlgdkccoomiaaa

namespace Go.Proofs.Ytmlgdkccoomiaaa
open Go Gv
set_option linter.unusedVariables false
set_option linter.unusedSimpArgs false
set_option maxRecDepth 100000
set_option maxHeartbeats 2000000
attribute [local irreducible] Sq Wp To HR Look Stp LQG LQW VP.of VP.ptr VP.eq VP.cond VP.tup
theorem C_mcase_Codes_states {x0 pp0 r} (h : L_mcase_Codes_states x0 = some r) : MV Try.prog 16 [VP.pb pp0] pp0 x0 (VP.of (r.1)) r.2 := by
 unfold L_mcase_Codes_states at h
 refine MeetsO.of Try.func16 rfl Try.ntmps16 rfl fun W A => Qsr (Qv (r_asg (look_nil (α := T_api_State))) ?_)
 refine go1 ?_
 refine Sq.bring 0 rfl (Qbf h fun y1 hy1 h => QcO 1 en15 (C_mcase_Codes_Next hy1) fun q1 => ?_)
 refine Qbf h fun k1 hk1 h => Qix hk1 Try.underlying68 ty3 ?_
 refine Q1 (r_loadp ty3) ?_
 refine Qv (r_buildX (b := ({ (default : T_api_State) with f_ID := 1, f_Header := 1, f_Select := 4, f_Default := lget ([0, 0, 65535, 3] : List Int) k1 } : T_api_State)) [3] zh96_3 rfl bu96 zr96 (.cons le_T_api_State_ID rfl (look_int 1) rfl (by rfl) (.cons le_T_api_State_Header rfl (look_int 1) rfl (by rfl) (.cons le_T_api_State_Select rfl (look_int 4) rfl (by rfl) (.cons le_T_api_State_Default rfl (look_t rfl) rfl (by rfl) (.nil)))))) ?_
 refine Sq.own (α := T_api_Case) 98 (Sq.allocX (z := (default : T_api_State)) [3] zh96_3 zr96 rfl fun p1 => Sq.own (α := T_api_Case) 98 (Sq.storeW (i := 1) ty96 (look_t rfl) (look_t rfl) rfl (Qnr (Qv (r_build (b := ({ (default : T_api_Value) with f_Lo := 1#64 } : T_api_Value)) rfl bu47 zr47 (.cons le_T_api_Value_Lo rfl (look_u64 1 rfl) rfl (.nil))) ?_))))
 refine Qv (r_build (b := ({ (default : T_api_Value) with f_Lo := 15#64 } : T_api_Value)) rfl bu47 zr47 (.cons le_T_api_Value_Lo rfl (look_u64 15 rfl) rfl (.nil))) ?_
 refine Qbf h fun z1 hz1 h => Qn hz1 (r_build (b := { f_Value := ({ (default : T_api_Value) with f_Lo := 1#64 } : T_api_Value), f_Mask := ({ (default : T_api_Value) with f_Lo := 15#64 } : T_api_Value), f_Next := 2 : T_api_Case }) rfl bu98 zr98 (.cons le_T_api_Case_Value rfl (look_t rfl) rfl (.cons le_T_api_Case_Mask rfl (look_t rfl) rfl (.cons le_T_api_Case_Next rfl (look_int 2) rfl (.nil))))) ?_
 refine Qv (r_build (b := ({ (default : T_api_Value) with f_Lo := 2#64 } : T_api_Value)) rfl bu47 zr47 (.cons le_T_api_Value_Lo rfl (look_u64 2 rfl) rfl (.nil))) ?_
 refine Qv (r_build (b := ({ (default : T_api_Value) with f_Lo := 3#64 } : T_api_Value)) rfl bu47 zr47 (.cons le_T_api_Value_Lo rfl (look_u64 3 rfl) rfl (.nil))) ?_
 refine Qbf h fun z2 hz2 h => Qn hz2 (r_build (b := { f_Value := ({ (default : T_api_Value) with f_Lo := 2#64 } : T_api_Value), f_Mask := ({ (default : T_api_Value) with f_Lo := 3#64 } : T_api_Value), f_Next := 3 : T_api_Case }) rfl bu98 zr98 (.cons le_T_api_Case_Value rfl (look_t rfl) rfl (.cons le_T_api_Case_Mask rfl (look_t rfl) rfl (.cons le_T_api_Case_Next rfl (look_int 3) rfl (.nil))))) ?_
 refine Sq.bslO (α := T_api_Case) (r := [z1, z2]) Try.underlying94 ty98 zr98 rfl rfl (.cons (by simp) (look_t rfl) (.cons (by simp) (look_t rfl) (.nil))) rfl fun key1 => ?_
 refine Q1 (r_fa fd96_3.fd) ?_
 refine Sq.storeH (i := 2) (γ := T_api_Case) (b' := ({ ({ (default : T_api_State) with f_ID := 1, f_Header := 1, f_Select := 4, f_Default := lget ([0, 0, 65535, 3] : List Int) k1 } : T_api_State) with f_Cases := [] } : T_api_State)) (os' := [(3, slv key1 [z1, z2].length 2)]) ((Lens.id T_api_State).comp le_T_api_State_Cases) ty94 (look_t rfl) (look_t rfl) slv_one rfl rfl rfl rfl ?_
 refine go1 ?_
 refine Sq.bring 4 rfl (Qbf h fun y2 hy2 h => QcO 1 en20 (C_mcase_Codes_Bool hy2) fun q2 => Qnx ?_)
 refine Qbf h fun m1 hm1 h => ?_
 refine Qcm (γ:=(Option Nat × Nat)) [0, 2, 3, 4, 23] (fun g1 => []) (fun g1 => [(0, vr pp0 m1.1), (1, ⟨g1.1, .row 98 m1.2 g1.2⟩), (3, ⟨some p1, .varX ({ ({ (default : T_api_State) with f_ID := 1, f_Header := 1, f_Select := 4, f_Default := lget ([0, 0, 65535, 3] : List Int) k1 } : T_api_State) with f_Cases := [] } : T_api_State) [(3, slv g1.1 m1.2.length g1.2)]⟩)]) (fun g1 => ?_) (fun hm hc => ?_) fun hm hc => ?_
 ·clear hm1
  refine go1 ?_
  refine Sq.bring 0 rfl (Qbf h fun y3 hy3 h => QcO 1 en15 (C_mcase_Codes_Next hy3) fun q3 => ?_)
  refine go1 fun k2 hk2 z3 hz3 p2 z4 hz4 p3 h => ?_
  refine Sq.bring 2 rfl (Qbf h fun y4 hy4 h => QcO 1 en15 (C_mcase_Codes_Next hy4) fun q4 => ?_)
  refine Q2 r_eql (Qnx ?_)
  refine Qbf h fun m2 hm2 h => ?_
  refine Qcm (γ:=Unit) [0, 2, 3, 4, 5, 6, 23, 50] (fun g2 => []) (fun g2 => [(0, vr pp0 m2.1), (1, vr p3 m2.2)]) (fun g2 => ?_) (fun hm hc => ?_) fun hm hc => ?_
  ·clear hm2
   refine To.next (Qsr (Sq.thaw (β := T_api_State) (γ := T_api_Case) (b' := ({ ({ (default : T_api_State) with f_ID := 1, f_Header := 1, f_Select := 4, f_Default := lget ([0, 0, 65535, 3] : List Int) k1 } : T_api_State) with f_Cases := m1.2 } : T_api_State)) ((Lens.id T_api_State).comp le_T_api_State_Cases) 5 3 0 rfl rfl rfl rfl rfl rfl (Sq.fromX 5 rfl ?_)))
   exact go
  ·have h := cond_t hc hm2
   refine go1 ?_
   refine Sq.bring 0 rfl (Qbf h fun y5 hy5 h => QcO 1 en15 (C_mcase_Codes_Next hy5) fun q5 => ?_)
   exact go
  ·have h := cond_f hc hm2
   exact go
 ·have h := cond_t hc hm1
  refine Qbf h fun y6 hy6 h => Qbf h fun z7 hz7 h => Qbf h fun y7 hy7 h => Qbf h fun k3 hk3 h => Qbf h fun z8 hz8 h => Qbf h fun y8 hy8 h => Qwl [0, 2, 3, 4, 7, 8, 9, 10, 11, 12, 13, 14, 15, 16, 17, 18, 19, 20, 21, 22, 23] ?_
  refine Wp.en 5 (Hp 24 [] [] _ :: Hp 25 [0] [3] (VP.eq (slv key1 [z1, z2].length 2)) :: Hp 26 [] [] _ :: ⟨some 27, [2], [0], [0], fun _ => VP.of (y6.1), fun hd _ => vr pp0 y6.2⟩ :: Hp 28 [3] [] _ :: Hp 29 [4] [] _ :: Hp 30 [5] [] _ :: Hp 31 [] [] _ :: Hp 32 [] [] _ :: Hp 33 [] [] _ :: ⟨some 34, [3, 9], [0], [0], fun _ => VP.of (y7.1), fun hd _ => vr pp0 y7.2⟩ :: Hp 35 [8, 10] [] _ :: Hp 36 [11] [] _ :: Hp 37 [6, 7, 12] [] _ :: Hp 38 [13] [] _ :: ⟨some 39, [1, 14], [1], [1], fun hd => VP.eq (slv (hd 15 0) y8.length ((hd 15 1).getD 0)), fun hd _ => ⟨(hd 15 0), .row 98 y8 ((hd 15 1).getD 0)⟩⟩ :: Hp 40 [] [] _ :: Hs [1, 15, 16] [3] [3] (fun hd => ⟨some p1, .varX ({ ({ (default : T_api_State) with f_ID := 1, f_Header := 1, f_Select := 4, f_Default := lget ([0, 0, 65535, 3] : List Int) k1 } : T_api_State) with f_Cases := [] } : T_api_State) [(3, slv (hd 15 0) y8.length ((hd 15 1).getD 0))]⟩) :: []) (ki ?_ (ki ?_ (ki ?_ (ki ?_ (ki ?_ kn))))) (fun hd1 => ?_)
  ·exact HeadD.q (Dv fun hd E' L' hE hL => r_loadH (i := 3) (q := 0) (β := T_api_State) (γ := T_api_Case) ty94 (look_t (hE _ _ rfl)) (hL 3 _ rfl rfl) rfl)
  ·intro hd E' L' hE hL hP
   refine Sq.bring 0 (hL 0 _ rfl rfl) (Sq.callO (Lin := [vr pp0 y2.2]) (Lr := L'.eraseIdx 0) en15 (C_mcase_Codes_Next hy6) ⟨look_t (hE _ _ rfl), look_int 2, trivial⟩ rfl fun q6 => Sq.nil (To.back 0 (hL 0 _ rfl rfl) ?_))
   exact To.fin (gm []) rfl rfl
  ·intro hd E' L' hE hL hP
   refine Sq.bring 0 (hL 0 _ rfl rfl) (Sq.callO (Lin := [vr pp0 y6.2]) (Lr := L'.eraseIdx 0) en15 (C_mcase_Codes_Next hy7) ⟨look_t (hE _ _ rfl), look_int 4, trivial⟩ rfl fun q7 => Sq.nil (To.back 0 (hL 0 _ rfl rfl) ?_))
   exact To.fin (gm []) rfl rfl
  ·intro hd E' L' hE hL hP
   refine Sq.app (i := 1) Try.underlying94 ty98 zr98 (bytes := 40) (by kernel_rfl) (look_t (hE _ _ rfl)) (hL 1 _ rfl rfl) (look_t (hE _ _ rfl)) hy8 rfl fun key2 cap1 => ?_
   refine Sq.nil ?_
   exact To.fin (gm [key2, some cap1]) rfl rfl
  ·intro hd E' L' hE hL hP
   refine Sq.storeH (i := 3) (γ := T_api_Case) (b' := ({ ({ (default : T_api_State) with f_ID := 1, f_Header := 1, f_Select := 4, f_Default := lget ([0, 0, 65535, 3] : List Int) k1 } : T_api_State) with f_Cases := [] } : T_api_State)) (os' := [(3, slv (hd 15 0) y8.length ((hd 15 1).getD 0))]) ((Lens.id T_api_State).comp le_T_api_State_Cases) ty94 (look_t (hE _ _ rfl)) (look_t (hE _ _ rfl)) slv_one (hL 3 _ rfl rfl) rfl rfl rfl (Sq.nil ?_)
   exact To.fin (gm []) rfl rfl
  refine To.eqL (L2 := [vr pp0 y7.2, ⟨(hd1 15 0), .row 98 y8 ((hd1 15 1).getD 0)⟩, ⟨none, .row 98 ([] : List T_api_Case) 0⟩, ⟨some p1, .varX ({ ({ (default : T_api_State) with f_ID := 1, f_Header := 1, f_Select := 4, f_Default := lget ([0, 0, 65535, 3] : List Int) k1 } : T_api_State) with f_Cases := [] } : T_api_State) [(3, slv (hd1 15 0) y8.length ((hd1 15 1).getD 0))]⟩, ⟨none, .row 98 ([] : List T_api_Case) 0⟩]) rfl (Qte ?_)
  cases h
  exact Qmt 0 (hm ((hd1 15 0), ((hd1 15 1).getD 0)))
 ·have h := cond_f hc hm1
  refine Wp.skip ?_
  cases h
  exact Qmt 0 (hm (key1, 2))
end Go.Proofs.Ytmlgdkccoomiaaa

namespace Go.Proofs.Ytmlgdkccoomiaaa
open Go Gv
set_option linter.unusedVariables false
set_option linter.unusedSimpArgs false
set_option maxRecDepth 100000
set_option maxHeartbeats 2000000
attribute [local irreducible] Sq Wp To HR Look Stp LQG LQW VP.of VP.ptr VP.eq VP.cond VP.tup
theorem C_mcase_Codes_actions {x0 pp0 r} (h : L_mcase_Codes_actions x0 = some r) : MV Try.prog 17 [VP.pb pp0] pp0 x0 (VP.of (r.1)) r.2 := by
 unfold L_mcase_Codes_actions at h
 refine MeetsO.of Try.func17 rfl Try.ntmps17 rfl fun W A => Qsr (Qv (r_asg (look_nil (α := T_api_Action))) ?_)
 refine go1 fun p1 => ?_
 refine Qbf h fun z1 hz1 h => Qbf h fun z2 hz2 h => Qbf h fun z3 hz3 h => Qbf h fun z4 hz4 h => Qbf h fun z5 hz5 h => Qbf h fun z6 hz6 h => Qbf h fun z7 hz7 h => Qbf h fun z8 hz8 h => Qbf h fun z9 hz9 h => Qbf h fun z10 hz10 h => Qbf h fun z11 hz11 h => Qbf h fun z12 hz12 h => Qbf h fun z13 hz13 h => Qbf h fun y1 hy1 h => Qbf h fun z14 hz14 h => Qbf h fun y2 hy2 h => Qbf h fun z15 hz15 h => Qbf h fun z16 hz16 h => Qbf h fun z17 hz17 h => Wp.keep 1 ?_
 refine Qwl [0, 2, 3, 5] ?_
 refine Wp.en 3 (Hp 6 [] [] _ :: Hp 7 [] [] _ :: Hp 8 [1] [] _ :: Hp 9 [2] [] _ :: Hp 10 [] [] _ :: Hp 11 [4] [] _ :: Hp 12 [] [0] _ :: Hp 13 [6] [] _ :: Hp 14 [7] [] _ :: Hp 15 [5, 8] [] _ :: Hp 16 [] [] _ :: Hp 17 [10] [] _ :: Hp 18 [] [0] _ :: Hp 19 [12] [] _ :: Hp 20 [] [] _ :: Hp 21 [14] [] _ :: Hp 22 [13, 15] [] _ :: Hp 23 [11, 16] [] _ :: Hp 24 [] [] _ :: Hp 25 [] [] _ :: Hp 26 [18, 19] [] _ :: Hp 27 [] [] _ :: Hp 28 [] [0] _ :: Hp 29 [22] [] _ :: Hp 30 [] [] _ :: Hp 31 [24] [] _ :: Hp 32 [21, 23, 25] [] _ :: Hp 33 [20, 26] [] _ :: Hp 34 [] [] _ :: ⟨some 35, [28], [1], [1], fun _ => VP.of (y1.1), fun hd _ => vr pp0 y1.2⟩ :: Hp 36 [29] [] _ :: Hp 37 [30] [] _ :: Hp 38 [] [] _ :: ⟨some 39, [29, 32], [1], [1], fun _ => VP.of (y2.1), fun hd _ => vr pp0 y2.2⟩ :: Hp 40 [33] [] _ :: Hp 41 [34] [] _ :: Hp 42 [35] [] _ :: Hp 43 [36] [] _ :: Hp 44 [31, 37] [] _ :: Hp 45 [38] [] _ :: ⟨some 46, [0, 3, 9, 17, 27, 39], [2], [2], fun hd => VP.eq (slv (hd 40 0) [z1, z2, z5, z8, z13, z17].length 6), fun hd _ => ⟨(hd 40 0), .row 104 ([z1, z2, z5, z8, z13, z17] : List T_api_Action) 6⟩⟩ :: ⟨some 4, [40], [], [], fun hd => VP.eq (slv (hd 40 0) [z1, z2, z5, z8, z13, z17].length 6), fun _ _ => ⟨none, .dead⟩⟩ :: []) (ki ?_ (ki ?_ (ki ?_ (ki ?_ kn)))) (fun hd1 => ?_)
 ·intro hd E' L' hE hL hP
  refine Sq.bring 1 (hL 1 _ rfl rfl) (Sq.callO (Lin := [vr pp0 x0]) (Lr := L'.eraseIdx 1) en15 (C_mcase_Codes_Next hy1) ⟨look_t (hE _ _ rfl), look_int 2, trivial⟩ rfl fun q1 => Sq.nil (To.back 1 (hL 1 _ rfl rfl) ?_))
  exact To.fin (gm []) rfl rfl
 ·intro hd E' L' hE hL hP
  refine Sq.bring 1 (hL 1 _ rfl rfl) (Sq.callO (Lin := [vr pp0 y1.2]) (Lr := L'.eraseIdx 1) en15 (C_mcase_Codes_Next hy2) ⟨look_t (hE _ _ rfl), look_int 256, trivial⟩ rfl fun q2 => Sq.nil (To.back 1 (hL 1 _ rfl rfl) ?_))
  exact To.fin (gm []) rfl rfl
 ·intro hd E' L' hE hL hP
  refine Sq.bslO (α := T_api_Action) (r := [z1, z2, z5, z8, z13, z17]) Try.underlying26 ty104 zr104 rfl rfl (.cons (by simp) (look_t (hE _ _ rfl)) (.cons (by simp) (look_t (hE _ _ rfl)) (.cons (by simp) (look_t (hE _ _ rfl)) (.cons (by simp) (look_t (hE _ _ rfl)) (.cons (by simp) (look_t (hE _ _ rfl)) (.cons (by simp) (look_t (hE _ _ rfl)) (.nil))))))) rfl fun key1 => ?_
  refine Sq.nil (To.place 2 (hL 2 _ rfl rfl) ?_)
  exact To.fin (gm [key1]) rfl rfl
 ·intro hd E' L' hE hL hP
  refine Qv (r_asg (look_t (hE _ _ rfl))) (Sq.nil ?_)
  exact To.fin (gm []) rfl rfl
 refine To.eqL (L2 := [vr p1 ({ (default : T_api_Operand) with f_Kind := 3 } : T_api_Operand), vr pp0 y2.2, ⟨(hd1 40 0), .row 104 ([z1, z2, z5, z8, z13, z17] : List T_api_Action) 6⟩]) rfl (Qte ?_)
 refine To.bring 2 rfl ?_
 refine go1 ?_
 refine Sq.bring 2 rfl (Qbf h fun y3 hy3 h => QcO 1 en20 (C_mcase_Codes_Bool hy3) fun q3 => Qnx ?_)
 refine Qbf h fun m1 hm1 h => ?_
 refine Qcm (γ:=(Option Nat × Nat)) [0, 2, 3, 48] (fun g1 => [(4, VP.eq (slv g1.1 m1.length g1.2))]) (fun g1 => [(1, ⟨g1.1, .row 104 m1 g1.2⟩)]) (fun g1 => ?_) (fun hm hc => ?_) fun hm hc => ?_
 ·clear hm1
  refine go1 ?_
  refine Sq.bring 0 rfl (Qbf h fun y4 hy4 h => QcO 1 en20 (C_mcase_Codes_Bool hy4) fun q4 => Qnx ?_)
  refine Qbf h fun m2 hm2 h => ?_
  refine Qcm (γ:=(Option Nat × Nat)) [0, 2, 3, 48, 53] (fun g2 => [(4, VP.eq (slv g2.1 m2.length g2.2))]) (fun g2 => [(1, ⟨g2.1, .row 104 m2 g2.2⟩)]) (fun g2 => ?_) (fun hm hc => ?_) fun hm hc => ?_
  ·clear hm2
   refine go1 ?_
   refine To.freezeL (α := T_api_Action) 1 [2, 4, 57] ⟨rfl, rfl, rfl, trivial⟩ rfl ?_
   exact go
  ·have h := cond_t hc hm2
   refine Wp.reg (Qm ?_)
   refine Qbf h fun k1 hk1 h => Qv (r_iaO (i := 1) (k := k1) (xs := (m1 : List T_api_Action)) Try.underlying26 ty104 (look_t rfl) (look_int 4) rfl (idx_some hk1)) ?_
   refine Q1 (r_fa fd104_4.fd) ?_
   refine Qbf h fun z18 hz18 h => Sq.storeR (i := 1) (k := k1) ((Lens.id T_api_Action).comp le_T_api_Action_Restriction) (v := (ByteArray.mk #[120, 32, 60, 32, 121, 32, 124, 124, 32, 120, 32, 61, 61, 32, 49, 53] : ByteArray)) (r := (z18 : List T_api_Action)) ty9 (look_t rfl) (look_str (ByteArray.mk #[120, 32, 60, 32, 121, 32, 124, 124, 32, 120, 32, 61, 61, 32, 49, 53])) rfl (idx_some hk1).1 rfl (some_in hz18) (Sq.relen (m := z18.length) 4 rfl (lset_len (some_in hz18)) (Sq.relen (m := z18.length) 54 rfl (lset_len (some_in hz18)) (Sq.nil ?_)))
   cases h
   exact Qmt 0 (hm (g1.1, g1.2))
  ·have h := cond_f hc hm2
   refine Wp.skip ?_
   cases h
   exact Qmt 0 (hm (g1.1, g1.2))
 ·have h := cond_t hc hm1
  refine Wp.reg (Qm ?_)
  refine Qbf h fun k2 hk2 h => Qv (r_iaO (i := 1) (k := k2) (xs := ([z1, z2, z5, z8, z13, z17] : List T_api_Action)) Try.underlying26 ty104 (look_t rfl) (look_int 2) rfl (idx_some hk2)) ?_
  refine Q1 (r_fa fd104_4.fd) ?_
  refine Qbf h fun z19 hz19 h => Sq.storeR (i := 1) (k := k2) ((Lens.id T_api_Action).comp le_T_api_Action_Restriction) (v := (ByteArray.mk #[112, 111, 114, 116, 32, 33, 61, 32, 48] : ByteArray)) (r := (z19 : List T_api_Action)) ty9 (look_t rfl) (look_str (ByteArray.mk #[112, 111, 114, 116, 32, 33, 61, 32, 48])) rfl (idx_some hk2).1 rfl (some_in hz19) (Sq.relen (m := z19.length) 4 rfl (lset_len (some_in hz19)) (Sq.relen (m := z19.length) 46 rfl (lset_len (some_in hz19)) (Sq.relen (m := z19.length) 49 rfl (lset_len (some_in hz19)) (Sq.nil ?_))))
  cases h
  exact Qmt 0 (hm ((hd1 40 0), 6))
 ·have h := cond_f hc hm1
  refine Wp.skip ?_
  cases h
  exact Qmt 0 (hm ((hd1 40 0), 6))
end Go.Proofs.Ytmlgdkccoomiaaa

