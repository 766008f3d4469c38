/-
  The library of the decompiler, part P: elements and parts of own slices, clear, variables that are shared with closures, own slices that are lent. Conditions: none; it is about whatever program.
-/
import Derived.Test.YtodajdohokmjnaaGvO
namespace Gv
open Go
set_option linter.unusedVariables false
set_option linter.unusedSimpArgs false

def lset {α : Type} (xs : List α) (k : Nat) (v : α) : List α := xs.set k v

section
variable {c : Cx} {E : List (Nat × VP)} {L : List Ent} {ops : Array Oper} {Q : Exit → Act → World → Prop}
variable {d : Option Tmp} {ty : TypeId} {pos : String} {af : Array Edge} {g : Option (Nat × Bool)} {x y : Operand} {t t2 : TypeId}

/-- the block behind an own row that is not empty -/
theorem St.rowAt {a : Act} {W : World} (s : St c E L a W) {i : Nat} {key : Option Nat} {T cap : Nat} {α : Type} [Rp α] {xs : List α} (hL : L[i]? = some ⟨key, .row T xs cap⟩) (hx : 0 < xs.length) :
    ∃ p cs, key = some p ∧ W.heap[p]? = some (.cells cs T (0, 0)) ∧ cs.size = cap * Rp.size α ∧ xs.length ≤ cap ∧ cap ≤ maxLen ∧ Reps (ks L ++ c.A0) W (cs.toList.take (xs.length * Rp.size α)) xs := by
  have ho := s.own _ (List.mem_of_getElem? hL)
  cases key with
  | none => have : xs = [] := ho.1; subst this; simp at hx
  | some p =>
    obtain ⟨o, hob, cs, rfl, h1, h2, h3, h4⟩ := ho
    exact ⟨p, cs, rfl, hob, h1, h2, h3, h4⟩

theorem r_iaO {e i k T cap : Nat} {key : Option Nat} {α : Type} [Rp α] {xs : List α} {z : Int} (hu : c.P.underlying t = some (.slice e)) (te : Ty c.P e α) (hx : Look c E L x (.eq (slv key xs.length cap))) (hy : Look c E L y (.of z))
    (hL : L[i]? = some ⟨key, .row T xs cap⟩) (hk : k < xs.length ∧ z = k) : HR c E L ⟨d, .indexAddr t x y, ty, pos, af, g⟩ (.eq (.pointer (some ⟨key.getD 0, k * Rp.size α, none⟩))) := .pure fun a W s => by
  obtain ⟨h6, rfl⟩ := hk
  obtain ⟨p, cs, rfl, _⟩ := s.rowAt hL (by omega)
  have h1 : a.eval x = _ := hx a W s
  have h5 := of_int.1 (hy a W s)
  obtain ⟨ie, hie, hsz⟩ := te.info
  exact ⟨_, by simp [execOp, Instr.indexAt, asIntOf, run_underlying hu, h1, h5, h6, Go.sizeOf, typeInfo, hie, hsz, addr_add, slv]; rfl, by simp [VP.eq]⟩

theorem row_in {k n s : Nat} (h : k < n) : k * s + s ≤ n * s := by rw [← Nat.succ_mul]; exact Nat.mul_le_mul_right _ h

theorem r_loadR {i k T cap o : Nat} {key : Option Nat} {α γ : Type} [Rp α] [Inhabited α] [Rp γ] {xs : List α} (l : Lens α γ) {r : γ} (tt : Ty c.P t γ) (hx : Look c E L x (.eq (.pointer (some ⟨key.getD 0, o, none⟩))))
    (hL : L[i]? = some ⟨key, .row T xs cap⟩) (hk : k < xs.length) (ho : o = k * Rp.size α + l.off) (hr : l.get (lget xs k) = r) : HR c E L ⟨d, .load t x, ty, pos, af, g⟩ (.of r) := .pure fun a W s => by
  subst ho; subst hr
  obtain ⟨p, cs, rfl, hob, h1, h2, h3, h4⟩ := s.rowAt hL (by omega)
  have hin := row_in (s := Rp.size α) hk
  have hl := l.inb
  have hle : xs.length * Rp.size α ≤ cap * Rp.size α := Nat.mul_le_mul_right _ h2
  have hrep := l.get_rep (h4.2 k hk)
  rw [take_drop_in _ _ _ _ _ l.inb, List.drop_take, List.take_take, Nat.min_eq_left (by omega)] at hrep
  rw [lget_eq xs hk]
  obtain ⟨v, h5, h6⟩ := run_loadVar_at (A := ks L ++ c.A0) tt hob (off := k * Rp.size α + l.off) (by omega) hrep
  have h7 : a.eval x = _ := hx a W s
  simp only [Option.getD_some] at h7
  exact ⟨v, by simp [execOp, Instr.loadAt, Instr.sureAddr, h7, h5], h6⟩

theorem Sq.storeR {rest : List Oper} {i k T cap o : Nat} {key : Option Nat} {α γ : Type} [Rp α] [Inhabited α] [Rp γ] {xs r : List α} {v : γ} (l : Lens α γ) (tt : Ty c.P t γ) (hx : Look c E L x (.eq (.pointer (some ⟨key.getD 0, o, none⟩)))) (hy : Look c E L y (.of v))
    (hL : L[i]? = some ⟨key, .row T xs cap⟩) (hk : k < xs.length) (ho : o = k * Rp.size α + l.off) (hr : lset xs k (l.set (lget xs k) v) = r)
    (k' : Sq c ops Q rest E (L.set i ⟨key, .row T r cap⟩)) : Sq c ops Q (⟨none, .store t x y, ty, pos, af, none⟩ :: rest) E L := fun a W s => by
  subst ho; subst hr
  obtain ⟨p, cs, rfl, hob, h1, h2, h3, h4⟩ := s.rowAt hL (by omega)
  have hin := row_in (s := Rp.size α) hk
  have hl := l.inb
  have hle : xs.length * Rp.size α ≤ cap * Rp.size α := Nat.mul_le_mul_right _ h2
  have hv := hy a W s
  have hvl : (a.eval y).cells.toList.length = Rp.size γ := Rp.len hv.2
  have h5 := run_storeVar_at (A := ks L ++ c.A0) tt hob (off := k * Rp.size α + l.off) (by omega) hv
  have h7 : a.eval x = _ := hx a W s
  simp only [Option.getD_some] at h7
  refine wpList_op rfl (R := fun v W' => W' = W.setRow p (splice cs.toList (k * Rp.size α + l.off) (a.eval y).cells.toList).toArray) (.of_skip ?_ rfl) fun u W' hw => ?_
  · simp [execOp, Instr.storeAt, Instr.sureAddr, h7, h5]
  · subst hw
    refine k' _ _ (s.store hL hob ?_)
    have hcl : cs.toList.length = cap * Rp.size α := by simpa using h1
    have hsl : (splice cs.toList (k * Rp.size α + l.off) (a.eval y).cells.toList).length = cs.toList.length := by
      simp only [splice, List.length_append, List.length_take, List.length_drop, hvl]; omega
    refine ⟨_, rfl, by simpa [hcl] using hsl, by simpa [lset] using h2, h3, ?_⟩
    have g1 := h4.2 k hk
    have g2 := l.set_rep g1 hv.2
    have g3 := reps_set h4 hk g2
    have hnl : (cs.toList.take (xs.length * Rp.size α)).length = xs.length * Rp.size α := by rw [List.length_take]; omega
    rw [splice_in _ _ _ _ _ _ l.inb (by omega)] at g3
    have hlen : (lset xs k (l.set (lget xs k) v)).length = xs.length := by simp [lset]
    rw [hlen, List.toList_toArray]
    have e : (splice cs.toList (k * Rp.size α + l.off) (a.eval y).cells.toList).take (xs.length * Rp.size α) =
        (cs.toList.take (xs.length * Rp.size α)).take (k * Rp.size α + l.off) ++ (a.eval y).cells.toList ++ (cs.toList.take (xs.length * Rp.size α)).drop (k * Rp.size α + l.off + Rp.size γ) := by
      have e1 : (cs.toList.take (k * Rp.size α + l.off)).length = k * Rp.size α + l.off := by rw [List.length_take]; omega
      have e2 : (cs.toList.take (k * Rp.size α + l.off) ++ (a.eval y).cells.toList).length = k * Rp.size α + l.off + Rp.size γ := by rw [List.length_append, e1, hvl]
      rw [splice, hvl, List.take_append, e2, List.take_of_length_le (by omega), List.take_take, Nat.min_eq_left (by omega), List.drop_take]
    rw [e, show lset xs k (l.set (lget xs k) v) = xs.set k (l.set xs[k] v) by rw [lset, lget_eq xs hk]]
    exact g3

/-- a part of an own row -/
def vslv (key : Option Nat) (lo n cap size : Nat) : Value := match key with
  | some p => .slice (some (if cap = lo then ⟨p, 0, none⟩ else ⟨p, lo * size, none⟩)) n (cap - lo)
  | none => .slice none 0 0

theorem vslv_zero {key : Option Nat} {n cap size : Nat} : vslv key 0 n cap size = slv key n cap := by
  cases key <;> simp [vslv, slv]

theorem r_sliceO {i T cap : Nat} {key : Option Nat} {α : Type} [Rp α] {xs : List α} {e : TypeId} {lo hi : Option Operand} {m n : Nat} {zi zj : Int} (hu : c.P.underlying t = some (.slice e)) (te : Ty c.P e α) (hx : Look c E L x (.eq (slv key xs.length cap)))
    (hL : L[i]? = some ⟨key, .row T xs cap⟩) (hlo : Bd c E L lo zi 0) (hhi : Bd c E L hi zj xs.length) (hm : zi = m) (hn : zj = n) (h : m ≤ n ∧ n ≤ xs.length) :
    HR c E L ⟨d, .slice t x lo hi none, ty, pos, af, g⟩ (.eq (vslv key m (n - m) cap (Rp.size α))) := .pure fun a W s => by
  subst hm; subst hn
  obtain ⟨hmn, hnx⟩ := h
  obtain ⟨ie, hie, hsz⟩ := te.info
  have h1 : a.eval x = _ := hx a W s
  have ho := s.own _ (List.mem_of_getElem? hL)
  cases key with
  | none =>
    have hxs : xs = [] := ho.1
    subst hxs
    have hn0 : n = 0 := by simpa using hnx
    have hm0 : m = 0 := by omega
    subst hn0
    subst hm0
    refine ⟨.slice none 0 0, ?_, rfl⟩
    have hL : (match lo.map a.eval with | some v => Instr.sliceBound v 0 .sliceB | none => pure 0 : Sem Nat).run c.P W = .ok 0 W := by
      cases hlo with
      | none => rfl
      | some hl => exact run_sliceB (Nat.le_refl _) (of_int.1 (hl a W s))
    have hH : (match hi.map a.eval, (none : Option Value) with | some v, some _ => Instr.sliceBound v 0 .slice3B | some v, none => Instr.sliceBound v 0 .sliceAcap | none, none => pure 0 | none, some _ => stuck "Slice: max without high" : Sem Nat).run c.P W = .ok 0 W := by
      cases hhi with
      | none => rfl
      | some hl => exact run_sliceB (Nat.le_refl _) (of_int.1 (hl a W s))
    cases hlo <;> cases hhi
    all_goals
      simp only [slv, execOp, Instr.sliceAt, Instr.slice, Instr.sliceBounds, h1, Sem.run_bind, run_underlying hu, Result.andThen_ok, Option.map_none, Option.map_some, Option.isSome_none, Bool.false_eq_true, if_false, if_true, Sem.run_pure] at hL hH ⊢
      try simp only [hL, hH, Result.andThen_ok, Go.sizeOf, typeInfo, Sem.run_bind, run_program, hie, Sem.run_pure]
      try simp [hie]
  | some p =>
    obtain ⟨o, hob, cs, rfl, g1, g2, g3, g4⟩ := ho
    refine ⟨_, ?_, rfl⟩
    simp only [vslv]
    have hL : ∀ v, v = Value.int .i64 m → (Instr.sliceBound v n .sliceB).run c.P W = .ok m W := fun v hv => run_sliceB hmn hv
    have hH : ∀ v, v = Value.int .i64 n → (Instr.sliceBound v cap .sliceAcap).run c.P W = .ok n W := fun v hv => run_sliceB (by omega) hv
    generalize hin : (n : Int) = nI at hhi
    generalize him : (m : Int) = mI at hlo
    generalize hxl : (xs.length : Int) = xl at hhi
    generalize hzz : (0 : Int) = zz at hlo
    cases hlo with
    | none =>
      have hm0 : m = 0 := by omega
      cases hhi with
      | none =>
        have hnx : n = xs.length := by omega
        subst hnx
        subst hm0
        simp [execOp, Instr.sliceAt, Instr.slice, Instr.sliceBounds, h1, slv, run_underlying hu, Go.sizeOf, typeInfo, hie, hsz, addr_add]
      | some hh =>
        subst hin
        subst hm0
        simp [execOp, Instr.sliceAt, Instr.slice, Instr.sliceBounds, h1, slv, run_underlying hu, Go.sizeOf, typeInfo, hie, hsz, addr_add, hH _ (of_int.1 (hh a W s))]
    | some hl =>
      subst him
      cases hhi with
      | none =>
        have hnx : n = xs.length := by omega
        subst hnx
        simp [execOp, Instr.sliceAt, Instr.slice, Instr.sliceBounds, h1, slv, run_underlying hu, Go.sizeOf, typeInfo, hie, hsz, addr_add, hL _ (of_int.1 (hl a W s))]
        split <;> rfl
      | some hh =>
        subst hin
        simp [execOp, Instr.sliceAt, Instr.slice, Instr.sliceBounds, h1, slv, run_underlying hu, Go.sizeOf, typeInfo, hie, hsz, addr_add, hL _ (of_int.1 (hl a W s)), hH _ (of_int.1 (hh a W s))]
        split <;> rfl

/-- an entry is known to hold something else besides -/
theorem St.again {a : Act} {W : World} (s : St c E L a W) {i : Nat} {key : Option Nat} {cp cp' : CP} (hL : L[i]? = some ⟨key, cp⟩) (h : ∀ A W o, cp.holds A W o → cp'.holds A W o) (hn : cp.nilOk → cp'.nilOk) : St c E (L.set i ⟨key, cp'⟩) a W := by
  have hks : ks (L.set i ⟨key, cp'⟩) = ks L := ks_set (e := ⟨key, cp⟩) (cp := cp') hL
  exact
  { defers := s.defers
    size := s.size
    env := fun t τ hl => by rw [hks]; exact s.env t τ hl
    fr := s.fr
    own := fun e he => by
      rw [hks]
      obtain ⟨j, hj⟩ := List.mem_iff_getElem?.1 he
      rw [List.getElem?_set] at hj
      split at hj
      · split at hj
        · simp only [Option.some.injEq] at hj
          subst hj
          have ho := s.own _ (List.mem_of_getElem? hL)
          cases key with
          | none => exact hn ho
          | some p => obtain ⟨o, h1, h2⟩ := ho; exact ⟨o, h1, h _ _ _ h2⟩
        · cases hj
      · exact s.own e (List.mem_of_getElem? hj)
    nodup := by rw [hks]; exact s.nodup
    lt := by rw [hks]; exact s.lt
    mine := by rw [hks]; exact s.mine
    old := by rw [hks]; exact s.old }

theorem row_take {T cap n : Nat} {α : Type} [Rp α] {xs : List α} (hn : n ≤ xs.length) {A W o} (h : (CP.row T xs cap).holds A W o) : (CP.row T (xs.take n) cap).holds A W o := by
  obtain ⟨cs, rfl, h1, h2, h3, h4⟩ := h
  have hl : (xs.take n).length = n := by rw [List.length_take]; omega
  have hle : n * Rp.size α ≤ xs.length * Rp.size α := Nat.mul_le_mul_right _ hn
  have hle2 : xs.length * Rp.size α ≤ cap * Rp.size α := Nat.mul_le_mul_right _ h2
  refine ⟨cs, rfl, h1, by omega, h3, ?_⟩
  rw [hl]
  have hcl : cs.toList.length = cap * Rp.size α := by simpa using h1
  refine ⟨by rw [List.length_take, hl]; omega, fun i hi => ?_⟩
  have hi' : i < n := by omega
  have hin := row_in (s := Rp.size α) hi'
  have := h4.2 i (by omega)
  rw [List.drop_take, List.take_take, Nat.min_eq_left (by omega)] at this ⊢
  rw [List.getElem_take]
  exact this

/-- what lies behind is let go -/
theorem Sq.trunc {l : List Oper} {i T cap n : Nat} {key : Option Nat} {α : Type} [Rp α] {xs r : List α} (dd : Nat) (hl : look E dd = some (.eq (vslv key 0 (n - 0) cap (Rp.size α)))) (hL : L[i]? = some ⟨key, .row T xs cap⟩) (hn : n ≤ xs.length) (hr : xs.take n = r)
    (k : Sq c ops Q l ((dd, .eq (slv key r.length cap)) :: E) (L.set i ⟨key, .row T r cap⟩)) : Sq c ops Q l E L := fun a W s => by
  subst hr
  have hlen : (xs.take n).length = n := by rw [List.length_take]; omega
  have s' := s.again hL (fun _ _ _ h => row_take hn h) (cp' := .row T (xs.take n) cap) (fun ⟨h1, h2⟩ => ⟨by rw [h1]; simp, h2⟩)
  refine k a W { s' with env := fun t τ hlk => ?_ }
  simp only [look] at hlk
  by_cases e : Nat.beq dd t = true
  · rw [e] at hlk
    simp only [cond_true, Option.some.injEq] at hlk
    subst hlk
    have := look_beq.1 e
    subst this
    obtain ⟨v, h1, h2⟩ := s.env dd _ hl
    refine ⟨v, h1, ?_⟩
    have h2' : v = _ := h2
    rw [Nat.sub_zero, vslv_zero] at h2'
    rw [hlen]
    exact h2'
  · simp only [Bool.not_eq_true] at e
    rw [e] at hlk
    exact s'.env t τ hlk
end
end Gv
