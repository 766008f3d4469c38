/-
  The library of the decompiler, part Y: copying into slices of the call's own; inserting. Conditions: none; it is about whatever program.
-/
import Derived.Test.YtodajdohokmjnaaGvV
import Derived.Lib.AppendZerosOnto
import Derived.Lib.Overlaps
namespace Gv
open Go
set_option linter.unusedVariables false
set_option linter.unusedSimpArgs false

section
variable {c : Cx} {E : List (Nat × VP)} {L : List Ent} {ops : Array Oper} {Q : Exit → Act → World → Prop}
variable {d : Option Tmp} {ty : TypeId} {pos : String} {af : Array Edge} {g : Option (Nat × Bool)} {x y : Operand} {t t2 : TypeId}

/-- a slice of N elements, the first of which are known -/
def Src (c : Cx) (E : List (Nat × VP)) (L : List Ent) (y : Operand) (N : Nat) {α : Type} [Rp α] (vs : List α) : Prop :=
  ∀ a W, St c E L a W → (Builtin.lenOf (a.eval y)).run c.P W = .ok N W ∧ ∃ cells : List Value, (Builtin.firstCells (Rp.size α) vs.length (a.eval y)).run c.P W = .ok cells.toArray W ∧ Reps (ks L ++ c.A0) W cells vs ∧ ∀ v ∈ cells, v.oneCell' = true

theorem reps_one {α : Type} [Rp α] {A W} : ∀ {xs : List α} {cs : List Value}, Reps A W cs xs → ∀ v ∈ cs, v.oneCell' = true := fun h => h.one

theorem Sq.copyG {rest : List Oper} {i e p off dd dLen dCap N T : Nat} {cp cp' : CP} {α : Type} [Rp α] {vs : List α} (hu : c.P.underlying t = some (.slice e)) (te : Ty c.P e α)
    (hx : Look c E L x (.eq (.slice (some ⟨p, off, none⟩) dLen dCap))) (hy : Src c E L y N vs) (hmin : Nat.min N dLen = vs.length) (hL : L[i]? = some ⟨some p, cp⟩) (hn : Nat.blt dd c.n = true)
    (hcp : ∀ A W o cells, cp.holds A W o → Reps A W cells vs → ∃ cs, o = .cells cs T (0, 0) ∧ off + cells.length ≤ cs.size ∧ cp'.holds A W (.cells (cs.toList.take off ++ cells ++ cs.toList.drop (off + cells.length)).toArray T (0, 0)))
    (k : Sq c ops Q rest ((dd, .of (vs.length : Int)) :: E) (L.set i ⟨some p, cp'⟩)) :
    Sq c ops Q (⟨some dd, .call ⟨.builtin .copy, #[x, y], #[t, t2]⟩, ty, pos, af, none⟩ :: rest) E L := fun a W s => by
  have hN : dd < c.n := by simpa using hn
  have h1 : a.eval x = _ := hx a W s
  obtain ⟨hl, cells, hc, hr, h1c⟩ := hy a W s
  obtain ⟨o, ho, hh⟩ := s.own _ (List.mem_of_getElem? hL)
  obtain ⟨cs, rfl, hfit, hnew⟩ := hcp _ _ _ _ hh hr
  obtain ⟨ie, hie, hsz⟩ := te.info
  have hst := run_storeCells_at (P := c.P) p off T cells 0 cs W ho (by omega) h1c
  simp only [Nat.add_zero] at hst
  have hrun : (execOp a.eval ⟨some dd, .call ⟨.builtin .copy, #[x, y], #[t, t2]⟩, ty, pos, af, none⟩).run c.P W = .ok (.value (goInt vs.length)) (W.setRow p (cs.toList.take off ++ cells ++ cs.toList.drop (off + cells.length)).toArray) := by
    simp [execOp, resolve, invoke, builtin, Builtin.copy_, h1, run_underlying hu, hl, hmin, Go.sizeOf, typeInfo, hie, hsz, hc, hst]
  refine wpList_op rfl (R := fun v W1 => v = goInt vs.length ∧ W1 = W.setRow p (cs.toList.take off ++ cells ++ cs.toList.drop (off + cells.length)).toArray) (.of_run hrun ⟨rfl, rfl⟩) fun v W1 ⟨hv, hw⟩ => ?_
  subst hv
  subst hw
  exact k _ _ ((s.store hL ho hnew).put hN (of_int.2 rfl))

/-- a slice that nobody writes any more -/
theorem src_of {α : Type} [Rp α] {vs : List α} (hy : Look c E L y (.of vs)) : Src c E L y vs.length vs := fun a W s => by
  rcases (of_list.1 (hy a W s)).cells with ⟨hv, rfl⟩ | ⟨b, off, cp, news, hv, hnl, hnews, h1c, hrep⟩
  · exact ⟨by rw [hv]; rfl, [], by rw [hv]; rfl, ⟨by simp, fun i hi => by simp at hi⟩, by simp⟩
  · refine ⟨by rw [hv]; rfl, news, ?_, hrep, h1c⟩
    rw [hv]
    simp only [Builtin.firstCells]
    rw [← hnl]
    exact run_loadCells_list (P := c.P) W ⟨b, off, none⟩ news hnews

/-- a part of an own row, of which the first k elements are asked for -/
theorem src_own {i T cap lo N k : Nat} {key : Option Nat} {α : Type} [Rp α] {xs : List α} (hy : Look c E L y (.eq (vslv key lo N cap (Rp.size α)))) (hL : L[i]? = some ⟨key, .row T xs cap⟩) (hk : 0 < k) (hlo : lo + k ≤ xs.length) :
    Src c E L y N ((xs.drop lo).take k) := fun a W s => by
  obtain ⟨p, cs, rfl, hob, g1, g2, g3, g4⟩ := s.rowAt hL (by omega)
  have h1 : a.eval y = _ := hy a W s
  have hcl : cap ≠ lo := by omega
  have hv : a.eval y = .slice (some ⟨p, lo * Rp.size α, none⟩) N (cap - lo) := by rw [h1]; simp [vslv, hcl]
  have hlen : ((xs.drop lo).take k).length = k := by rw [List.length_take, List.length_drop]; omega
  have hcs : cs.toList.length = cap * Rp.size α := by simpa using g1
  have hle1 : (lo + k) * Rp.size α ≤ xs.length * Rp.size α := Nat.mul_le_mul_right _ hlo
  have hle2 : xs.length * Rp.size α ≤ cap * Rp.size α := Nat.mul_le_mul_right _ g2
  rw [Nat.add_mul] at hle1
  have hcl2 : ((cs.toList.drop (lo * Rp.size α)).take (k * Rp.size α)).length = k * Rp.size α := by rw [List.length_take, List.length_drop]; omega
  have hrep : Reps (ks L ++ c.A0) W ((cs.toList.drop (lo * Rp.size α)).take (k * Rp.size α)) ((xs.drop lo).take k) := by
    refine ⟨by rw [hcl2, hlen], fun j hj => ?_⟩
    rw [hlen] at hj
    have h5 := g4.2 (lo + j) (by omega)
    have hin := row_in (s := Rp.size α) hj
    have hin2 := row_in (s := Rp.size α) (show lo + j < xs.length by omega)
    rw [List.drop_take, List.take_take, Nat.min_eq_left (by omega)] at h5
    rw [List.drop_take, List.take_take, Nat.min_eq_left (by omega), List.drop_drop, ← Nat.add_mul]
    simpa using h5
  have h9 := run_loadCells_list (P := c.P) W ⟨p, lo * Rp.size α, none⟩ ((cs.toList.drop (lo * Rp.size α)).take (k * Rp.size α)) fun j v hv => by
    rw [addr_add, cell_of_row W p _ cs T (0, 0) hob]
    rw [List.getElem?_take] at hv
    split at hv
    · rw [List.getElem?_drop] at hv; simpa using hv
    · cases hv
  rw [hcl2] at h9
  refine ⟨by rw [hv]; rfl, (cs.toList.drop (lo * Rp.size α)).take (k * Rp.size α), ?_, hrep, hrep.one⟩
  rw [hv]
  simp only [Builtin.firstCells]
  rw [hlen]
  exact h9

theorem vslv_at {p lo n cap size : Nat} (h : cap ≠ lo) : vslv (some p) lo n cap size = Value.slice (some ⟨p, lo * size, none⟩) n (cap - lo) := by simp [vslv, h]
theorem src_row {i T cap : Nat} {key : Option Nat} {α : Type} [Rp α] {xs : List α} (hy : Look c E L y (.eq (slv key xs.length cap))) (hL : L[i]? = some ⟨key, .row T xs cap⟩) (hx : 0 < xs.length) : Src c E L y xs.length xs := by
  have := src_own (lo := 0) (k := xs.length) (N := xs.length) (by rw [vslv_zero]; exact hy) hL hx (by omega)
  simpa using this

theorem look_z {key : Option Nat} {n cap size : Nat} (h : Look c E L x (.eq (vslv key 0 n cap size))) : Look c E L x (.eq (slv key n cap)) := by rw [← vslv_zero (size := size)]; exact h
theorem look_a {p lo n cap size : Nat} (hc : cap ≠ lo) (h : Look c E L x (.eq (vslv (some p) lo n cap size))) : Look c E L x (.eq (.slice (some ⟨p, lo * size, none⟩) n (cap - lo))) := by rw [← vslv_at hc]; exact h

/-- a row whose first i elements are those of xs, and that has those behind them m places on -/
def CP.gap {α : Type} [Rp α] (T : TypeId) (xs : List α) (i m cap : Nat) : CP where
  holds A W o := ∃ cs, o = .cells cs T (0, 0) ∧ cs.size = cap * Rp.size α ∧ xs.length + m ≤ cap ∧ cap ≤ maxLen ∧ Reps A W (cs.toList.take (i * Rp.size α)) (xs.take i) ∧
    Reps A W ((cs.toList.drop ((i + m) * Rp.size α)).take ((xs.length - i) * Rp.size α)) (xs.drop i)
  nilOk := False
  mono e h := let ⟨cs, h1, h2, h3, h4, h5, h6⟩ := h; ⟨cs, h1, h2, h3, h4, h5.mono e, h6.mono e⟩

/-- what lies behind place i is copied m places on -/
theorem gap_new {α : Type} [Rp α] {T i m cap : Nat} {xs : List α} (hi : i ≤ xs.length) (hm : xs.length + m ≤ cap) {A W o cells} (h : (CP.row T xs cap).holds A W o) (hc : Reps A W cells (xs.drop i)) :
    ∃ cs, o = .cells cs T (0, 0) ∧ (i + m) * Rp.size α + cells.length ≤ cs.size ∧ (CP.gap T xs i m cap).holds A W (.cells (cs.toList.take ((i + m) * Rp.size α) ++ cells ++ cs.toList.drop ((i + m) * Rp.size α + cells.length)).toArray T (0, 0)) := by
  obtain ⟨cs, rfl, g1, g2, g3, g4⟩ := h
  have hcs : cs.toList.length = cap * Rp.size α := by simpa using g1
  have hcl : cells.length = (xs.length - i) * Rp.size α := by rw [hc.1, List.length_drop]
  have e1 : (i + m) * Rp.size α + (xs.length - i) * Rp.size α = (xs.length + m) * Rp.size α := by rw [← Nat.add_mul]; congr 1; omega
  have e2 : (xs.length + m) * Rp.size α ≤ cap * Rp.size α := Nat.mul_le_mul_right _ hm
  have e3 : i * Rp.size α ≤ (i + m) * Rp.size α := Nat.mul_le_mul_right _ (by omega)
  have e4 : i * Rp.size α ≤ xs.length * Rp.size α := Nat.mul_le_mul_right _ hi
  have e5 : (cs.toList.take ((i + m) * Rp.size α)).length = (i + m) * Rp.size α := by rw [List.length_take]; omega
  refine ⟨cs, rfl, by omega, _, rfl, ?_, hm, g3, ?_, ?_⟩
  · simp only [List.size_toArray, List.length_append, List.length_take, List.length_drop]; omega
  · rw [List.toList_toArray, List.append_assoc, List.take_append_of_le_length (by rw [e5]; omega), List.take_take, Nat.min_eq_left e3]
    have := row_take hi (⟨cs, rfl, g1, g2, g3, g4⟩ : (CP.row T xs cap).holds A W (.cells cs T (0, 0)))
    obtain ⟨cs2, h1, _, _, _, h5⟩ := this
    cases h1
    rwa [List.length_take, Nat.min_eq_left hi] at h5
  · rw [List.toList_toArray, List.append_assoc, List.drop_left' e5, ← hcl, List.take_left]
    exact hc

/-- what is to come between is laid there -/
theorem gap_fill {α : Type} [Rp α] {T i cap : Nat} {xs vs : List α} (hi : i ≤ xs.length) {A W o cells} (h : (CP.gap T xs i vs.length cap).holds A W o) (hc : Reps A W cells vs) :
    ∃ cs, o = .cells cs T (0, 0) ∧ i * Rp.size α + cells.length ≤ cs.size ∧ (CP.row T (xs.take i ++ vs ++ xs.drop i) cap).holds A W (.cells (cs.toList.take (i * Rp.size α) ++ cells ++ cs.toList.drop (i * Rp.size α + cells.length)).toArray T (0, 0)) := by
  obtain ⟨cs, rfl, g1, g2, g3, g4, g5⟩ := h
  have hcs : cs.toList.length = cap * Rp.size α := by simpa using g1
  have hcl : cells.length = vs.length * Rp.size α := hc.1
  have e0 : i * Rp.size α + vs.length * Rp.size α = (i + vs.length) * Rp.size α := by rw [← Nat.add_mul]
  have e1 : (i + vs.length) * Rp.size α + (xs.length - i) * Rp.size α = (xs.length + vs.length) * Rp.size α := by rw [← Nat.add_mul]; congr 1; omega
  have e2 : (xs.length + vs.length) * Rp.size α ≤ cap * Rp.size α := Nat.mul_le_mul_right _ g2
  have hlen : (xs.take i ++ vs ++ xs.drop i).length = xs.length + vs.length := by simp; omega
  refine ⟨cs, rfl, by omega, _, rfl, ?_, by rw [hlen]; exact g2, g3, ?_⟩
  · simp only [List.size_toArray, List.length_append, List.length_take, List.length_drop]; omega
  · rw [List.toList_toArray, hlen]
    have hall := reps_append (reps_append g4 hc) g5
    have e5 : (cs.toList.take (i * Rp.size α) ++ cells).length = (i + vs.length) * Rp.size α := by rw [List.length_append, List.length_take]; omega
    have e6 : (cs.toList.take (i * Rp.size α) ++ cells ++ cs.toList.drop (i * Rp.size α + cells.length)).take ((xs.length + vs.length) * Rp.size α) = cs.toList.take (i * Rp.size α) ++ cells ++ (cs.toList.drop ((i + vs.length) * Rp.size α)).take ((xs.length - i) * Rp.size α) := by
      rw [List.take_append, e5, List.take_of_length_le (by omega), hcl, e0]
      congr 2
      omega
    rw [e6]
    exact hall

/-- a part of an own row is overwritten -/
theorem row_part {α : Type} [Rp α] {T lo cap : Nat} {xs vs : List α} (hk : lo + vs.length ≤ xs.length) {A W o cells} (h : (CP.row T xs cap).holds A W o) (hc : Reps A W cells vs) :
    ∃ cs, o = .cells cs T (0, 0) ∧ lo * Rp.size α + cells.length ≤ cs.size ∧ (CP.row T (xs.take lo ++ vs ++ xs.drop (lo + vs.length)) cap).holds A W (.cells (cs.toList.take (lo * Rp.size α) ++ cells ++ cs.toList.drop (lo * Rp.size α + cells.length)).toArray T (0, 0)) := by
  obtain ⟨cs, rfl, g1, g2, g3, g4⟩ := h
  have hcs : cs.toList.length = cap * Rp.size α := by simpa using g1
  have hcl : cells.length = vs.length * Rp.size α := hc.1
  have e0 : lo * Rp.size α + vs.length * Rp.size α = (lo + vs.length) * Rp.size α := by rw [← Nat.add_mul]
  have e1 : (lo + vs.length) * Rp.size α ≤ xs.length * Rp.size α := Nat.mul_le_mul_right _ hk
  have e2 : xs.length * Rp.size α ≤ cap * Rp.size α := Nat.mul_le_mul_right _ g2
  have hlen : (xs.take lo ++ vs ++ xs.drop (lo + vs.length)).length = xs.length := by simp; omega
  refine ⟨cs, rfl, by omega, _, rfl, ?_, by rw [hlen]; exact g2, g3, ?_⟩
  · simp only [List.size_toArray, List.length_append, List.length_take, List.length_drop]; omega
  · rw [List.toList_toArray, hlen]
    have g5 := reps_part (lo := lo) g4 hc hk
    have e : (cs.toList.take (lo * Rp.size α) ++ cells ++ cs.toList.drop (lo * Rp.size α + cells.length)).take (xs.length * Rp.size α) = (cs.toList.take (xs.length * Rp.size α)).take (lo * Rp.size α) ++ cells ++ (cs.toList.take (xs.length * Rp.size α)).drop (lo * Rp.size α + cells.length) := by
      have e3 : (cs.toList.take (lo * Rp.size α) ++ cells).length = lo * Rp.size α + cells.length := by rw [List.length_append, List.length_take]; omega
      rw [List.take_append, e3, List.take_of_length_le (by omega), List.take_take, Nat.min_eq_left (by omega), List.drop_take]
    rw [e]
    exact g5

theorem r_capO {p n cap e : Nat} (hu : c.P.underlying t = some (.slice e)) (hx : Look c E L x (.eq (slv (some p) n cap))) : HR c E L ⟨d, .call ⟨.builtin .cap, #[x], #[t]⟩, ty, pos, af, g⟩ (.of (cap : Int)) := .pure fun a W s => by
  have h1 : a.eval x = _ := hx a W s
  exact ⟨.int .i64 cap, by simp [execOp, resolve, invoke, builtin, Builtin.cap_, h1, slv, run_underlying hu, goInt], of_int.2 rfl⟩

/-- a slice of a slice whose value is known -/
theorem r_sliceE {p n cap : Nat} {α : Type} [Rp α] {e : TypeId} {lo hi : Option Operand} {m h : Nat} {zi zj : Int} (hu : c.P.underlying t = some (.slice e)) (te : Ty c.P e α) (hx : Look c E L x (.eq (slv (some p) n cap)))
    (hlo : Bd c E L lo zi 0) (hhi : Bd c E L hi zj n) (hm : zi = m) (hn : zj = h) (hh : m ≤ h ∧ h ≤ cap) :
    HR c E L ⟨d, .slice t x lo hi none, ty, pos, af, g⟩ (.eq (vslv (some p) m (h - m) cap (Rp.size α))) := .pure fun a W s => by
  subst hm; subst hn
  obtain ⟨hmn, hnx⟩ := hh
  obtain ⟨ie, hie, hsz⟩ := te.info
  have h1 : a.eval x = _ := hx a W s
  refine ⟨_, ?_, rfl⟩
  simp only [vslv]
  have hL : ∀ v, v = Value.int .i64 m → (Instr.sliceBound v h .sliceB).run c.P W = .ok m W := fun v hv => run_sliceB hmn hv
  have hH : ∀ v, v = Value.int .i64 h → (Instr.sliceBound v cap .sliceAcap).run c.P W = .ok h W := fun v hv => run_sliceB (by omega) hv
  generalize hin : (h : Int) = nI at hhi
  generalize him : (m : Int) = mI at hlo
  generalize hxl : (n : Int) = xl at hhi
  generalize hzz : (0 : Int) = zz at hlo
  cases hlo with
  | none =>
    have hm0 : m = 0 := by omega
    cases hhi with
    | none =>
      have hnx : h = n := by omega
      subst hnx
      subst hm0
      simp [execOp, Instr.sliceAt, Instr.slice, Instr.sliceBounds, h1, slv, run_underlying hu, Go.sizeOf, typeInfo, hie, hsz, addr_add]
    | some hh =>
      subst hin
      subst hm0
      simp [execOp, Instr.sliceAt, Instr.slice, Instr.sliceBounds, h1, slv, run_underlying hu, Go.sizeOf, typeInfo, hie, hsz, addr_add, hH _ (of_int.1 (hh a W s))]
  | some hl =>
    subst him
    cases hhi with
    | none =>
      have hnx : h = n := by omega
      subst hnx
      simp [execOp, Instr.sliceAt, Instr.slice, Instr.sliceBounds, h1, slv, run_underlying hu, Go.sizeOf, typeInfo, hie, hsz, addr_add, hL _ (of_int.1 (hl a W s))]
      split <;> rfl
    | some hh =>
      subst hin
      simp [execOp, Instr.sliceAt, Instr.slice, Instr.sliceBounds, h1, slv, run_underlying hu, Go.sizeOf, typeInfo, hie, hsz, addr_add, hL _ (of_int.1 (hl a W s)), hH _ (of_int.1 (hh a W s))]
      split <;> rfl

/-- a call of slices.overlaps for two rows of the call's own -/
theorem r_ovl {f : FuncId} {fn : Func} {p q T U cap cap' i j e tR la ca lb cb oa ob : Nat} {α : Type} [Rp α] {xs vs : List α} (hsz0 : Nat.beq (Rp.size α) 0 = false)
    (hf : c.P.funcs[f]? = some fn) (hname : (fn.name == "runtime.NumGoroutine") = false) (hb : fn.body.isNone = true) (hn : Extern.findNext fn = none)
    (he : Extern.find fn = some (Extern.SlicesOverlaps.overlaps #[t, t] #[tR])) (hu : c.P.underlying t = some (.slice e)) (te : Ty c.P e α)
    (hx : Look c E L x (.eq (.slice (some ⟨q, oa, none⟩) la ca))) (hy : Look c E L y (.eq (.slice (some ⟨p, ob, none⟩) lb cb)))
    (hi : L[i]? = some ⟨some p, .row T xs cap⟩) (hj : L[j]? = some ⟨some q, .row U vs cap'⟩) (hpq : p ≠ q) (hcap : 0 < cap) :
    HR c E L ⟨d, .call ⟨.value (.func f), #[x, y], #[t, t]⟩, ty, pos, af, g⟩ (.of false) := .pure fun a W s => by
  obtain ⟨o, ho, cs, rfl, g1, g2, g3, g4⟩ := s.own _ (List.mem_of_getElem? hi)
  obtain ⟨o', ho', cs', rfl, k1, k2, k3, k4⟩ := s.own _ (List.mem_of_getElem? hj)
  obtain ⟨ie, hie, hsz⟩ := te.info
  have h1 : a.eval x = _ := hx a W s
  have h2 : a.eval y = _ := hy a W s
  have hs0 : Rp.size α ≠ 0 := fun h => by rw [h] at hsz0; cases hsz0
  have hne : cs.size ≠ 0 := by rw [g1]; exact Nat.mul_ne_zero (by omega) hs0
  have hov := Lib.run_overlaps_apart (P := c.P) W t tR e hu (Rp.size α) (fun w => by simp [Go.sizeOf, typeInfo, hie, hsz]) ⟨q, oa, none⟩ ⟨p, ob, none⟩ la ca lb cb (fun h => hpq h.symm) U T cs'.size cs.size
    (by simp [World.shape?, ho']) (by simp [World.shape?, ho]) hne (by simp [World.frozen?, ho']) (by simp [World.frozen?, ho'])
  refine ⟨.bool false, ?_, by exact of_bool.2 rfl⟩
  have h0 : a.eval (.func f) = .func (.func f) #[] #[] := rfl
  simp [execOp, resolve, Deferred.ofValue, h0, invoke, run_callFunc_extern hf hname hb hn he, h1, h2, hov]

/-- append(s[:m], make(S, k)...) where there is no room: a new row -/
theorem Sq.appZ {α : Type} [Rp α] {rest : List Oper} {dd i e bytes cap m k p T : Nat} {kn : IntKind} {xs : List α} {z : α} (hu : c.P.underlying t = some (.slice e)) (hun : c.P.underlying t2 = some (.int kn)) (te : Ty c.P e α) (zr : Zr c.P e z) (hsz0 : Nat.beq (Rp.size α) 0 = false)
    (hby : (c.P.info? e).map (·.bytes) = some bytes) (hx : Look c E L x (.eq (vslv (some p) 0 m cap (Rp.size α)))) (hy : Look c E L y (.of (k : Int))) (hL : L[i]? = some ⟨some p, .row T xs cap⟩) (hm : m ≤ xs.length) (hk : 0 < k) (hg : cap < m + k)
    (hb1 : (m + k) * bytes ≤ 140737488355328) (hb2 : m + k ≤ maxLen) (hn : Nat.blt dd c.n = true)
    (kk : ∀ q cap', Sq c ops Q rest ((dd, .eq (slv (some q) (m + k) cap')) :: E) (⟨some q, .row e (xs.take m ++ List.replicate k z) cap'⟩ :: L)) :
    Sq c ops Q (⟨some dd, .call ⟨.builtin .append, #[x, y], #[t, t2]⟩, ty, pos, af, none⟩ :: rest) E L := fun a W s => by
  obtain ⟨ie, zv, hie, hz, hzh⟩ := zr.zero
  have hie2 : ie.size = Rp.size α := by
    obtain ⟨i2, h1, h2⟩ := te.info
    rw [hie] at h1; cases h1; exact h2
  have hbytes : ie.bytes = bytes := by simpa [hie] using hby
  subst hbytes
  have hzs : zv.cells.size = Rp.size α := by have := Rp.len (hzh [] W).2; simpa using this
  have hs0 : Rp.size α ≠ 0 := fun h => by rw [h] at hsz0; cases hsz0
  have hN : dd < c.n := by simpa using hn
  have h1 : a.eval x = .slice (some ⟨p, 0, none⟩) m cap := by
    have := hx a W s
    rw [vslv_zero] at this
    exact this
  obtain ⟨o, ho, cs, rfl, g1, g2, g3, g4⟩ := s.own _ (List.mem_of_getElem? hL)
  have hml : maxLen = 9223372036854775807 := rfl
  have h2 : a.eval y = .int .i64 k := of_int.1 (hy a W s)
  have hrow := row_take hm (⟨cs, rfl, g1, g2, g3, g4⟩ : (CP.row T xs cap).holds (ks L ++ c.A0) W (.cells cs T (0, 0)))
  obtain ⟨cs2, e1, _, _, _, hrm⟩ := hrow
  cases e1
  have hml2 : (xs.take m).length = m := by rw [List.length_take]; omega
  rw [hml2] at hrm
  have hcell : ∀ (j : Nat) u, (cs.toList.take (m * Rp.size α))[j]? = some u → W.drew.cell? ((⟨p, 0, none⟩ : Addr).add j) = some u := by
    intro j u hu'
    rw [List.getElem?_take] at hu'
    split at hu'
    · rw [addr_add, Nat.zero_add, cell_of_row W.drew p j cs T (0, 0) ho]; simpa using hu'
    · cases hu'
  have hold := run_loadCells_list (P := c.P) W.drew ⟨p, 0, none⟩ _ hcell
  rw [hrm.1, hml2] at hold
  have hr := Lib.run_append_grow_zeros (P := c.P) W t t2 ty e ie zv .i64 kn hu hun hie hz (some ⟨p, 0, none⟩) m cap _ (by simp only [Builtin.firstCells]; rw [hie2]; exact hold) k hk (by omega) hg (by omega)
    (by have : k * ie.bytes ≤ (m + k) * ie.bytes := Nat.mul_le_mul_right _ (by omega)
        omega) (growslice_fits hg hb1)
  have hge := grownCap_ge W (m + k) cap e
  have hle := grownCap_le_maxLen W (m + k) cap e hb2
  have hzv := hzh (ks L ++ c.A0) W
  have hz0 := reps_zero hzv k hs0
  have hzc : Builtin.zeroCells zv.cells k = (Array.range (k * Rp.size α)).map (zv.cells[· % zv.cells.size]!) := by rw [Builtin.zeroCells, hzs]
  rw [← hzc] at hz0
  have hcat := (reps_append hrm hz0).mono (Ext.fr (Fr.drew W))
  have hlen : (xs.take m ++ List.replicate k z).length = m + k := by rw [List.length_append, hml2, List.length_replicate]
  have hst := (s.world (Fr.drew W)).alloc (o := .cells ((cs.toList.take (m * Rp.size α)).toArray ++ Builtin.zeroCells zv.cells k ++ Builtin.zeroCells zv.cells (grownCap W (m + k) cap e - (m + k))) e)
    (cp := .row e (xs.take m ++ List.replicate k z) (grownCap W (m + k) cap e))
    (row_new (T := e) hcat (ds := (Builtin.zeroCells zv.cells (grownCap W (m + k) cap e - (m + k))).toList) (by rw [Array.length_toList, size_zeroCells, hzs, hlen]) (by rw [hlen]; exact hge) hle (by simp))
  refine wpList_op rfl (R := fun v W1 => v = slv (some W.heap.size) (m + k) (grownCap W (m + k) cap e) ∧ W1 = W.drew.alloc (.cells ((cs.toList.take (m * Rp.size α)).toArray ++ Builtin.zeroCells zv.cells k ++ Builtin.zeroCells zv.cells (grownCap W (m + k) cap e - (m + k))) e)) (.of_run ?_ ⟨rfl, rfl⟩) fun v W1 ⟨hv, hw⟩ => ?_
  · simp only [execOp, resolve, invoke, builtin, Sem.run_bind, Sem.run_pure, Result.andThen_ok]
    have e1 : (#[x, y] : Array Operand).map a.eval = #[a.eval x, a.eval y] := by simp
    rw [e1, h1, h2, hr]
    rfl
  · subst hv
    subst hw
    exact kk _ _ _ _ (hst.put hN rfl)

/-- a pointer to a cell that nobody writes any more, which holds a value as τ says -/
def VP.pv (τ : VP) : VP where
  holds A W v := ∃ b cur T fz u, v = .pointer (some ⟨b, 0, none⟩) ∧ b ∉ A ∧ W.heap[b]? = some (.cells cur T fz) ∧ cur[0]? = some u ∧ u.oneCell' = true ∧ τ.holds A W u
  mono e h := by
    obtain ⟨b, cur, T, fz, u, rfl, hb, hh, hs, h1, hr⟩ := h
    have hlt : b < _ := (Array.getElem?_eq_some_iff.1 hh).1
    exact ⟨b, cur, T, fz, u, rfl, fun hm => hb (e.new b hm hlt), by rw [e.block b hlt hb]; exact hh, hs, h1, τ.mono e hr⟩

/-- a variable of a function's type, boxed, and written no more -/
theorem Sq.boxF {rest : List Oper} {dd : Nat} {τ : VP} (hx : Look c E L x τ) (h1 : ∀ A W v, τ.holds A W v → v.oneCell' = true) (hn : Nat.blt dd c.n = true)
    (k : Sq c ops Q rest ((dd, .pv τ) :: E) L) : Sq c ops Q (⟨some dd, .box t x, ty, pos, af, none⟩ :: rest) E L := fun a W s => by
  have hv := hx a W s
  have ho := h1 _ _ _ hv
  refine wpList_op rfl (R := fun v W' => v = .pointer (some ⟨W.heap.size, 0, none⟩) ∧ W' = W.alloc (.cells (a.eval x).cells t)) (.of_run ?_ ⟨rfl, rfl⟩) fun v W' ⟨hv', hw⟩ => ?_
  · simp [execOp, Instr.box, newVar, newRow]
  · subst hv'
    subst hw
    have s1 := ((s.alloc (o := .cells (a.eval x).cells t) (cp := .dead) trivial).kill 0).dropL 1
    refine k _ _ (St.put s1 (by simpa using hn) ?_)
    refine ⟨W.heap.size, (a.eval x).cells, t, (0, 0), a.eval x, rfl, fun hm => ?_, ha_new W _, by rw [cells_one ho]; rfl, ho, τ.mono (A := ks L ++ c.A0) (W := W) ⟨by simp, fun k hk _ => ha_old W _ k hk, fun k h _ => h⟩ hv⟩
    rcases List.mem_append.1 hm with hm | hm
    · exact Nat.lt_irrefl _ (s.lt _ hm)
    · exact Nat.lt_irrefl _ (s.old _ hm).1

theorem r_loadF {τ : VP} {D : TypeDesc} (hu : c.P.underlying t = some D) (hd : (match (motive := TypeDesc → Bool) D with | .struct _ | .array _ _ => true | _ => false) = false) (hx : Look c E L x (.pv τ)) : HR c E L ⟨d, .load t x, ty, pos, af, g⟩ τ := .pure fun a W s => by
  obtain ⟨b, cur, T, fz, u, h1, hb, hh, hs, h2, hr⟩ := hx a W s
  have hag : (isAgg t).run c.P W = .ok false W := by
    unfold Go.isAgg
    rw [Sem.run_bind, run_underlying hu W]
    simp only [Result.andThen_ok]
    cases D <;> simp_all
  have hcell : W.cell? ⟨b, 0, none⟩ = some u := by rw [cell_of_row W b 0 cur T fz hh]; exact hs
  refine ⟨u, ?_, hr⟩
  simp [execOp, Instr.loadAt, Instr.sureAddr, h1, loadVar, Sem.run_bind, hag, hcell]

theorem one_fn1 {α β : Type} [Rp α] [Rp β] {P : Program} {F : α → Option β} : ∀ A W v, (VP.fn1 P F).holds A W v → v.oneCell' = true := fun A W v ⟨f, cap, h, _⟩ => by rw [h]; rfl
theorem one_fn2 {α β γ : Type} [Rp α] [Rp β] [Rp γ] {P : Program} {F : α → β → Option γ} : ∀ A W v, (VP.fn2 P F).holds A W v → v.oneCell' = true := fun A W v ⟨f, cap, h, _⟩ => by rw [h]; rfl
/-- a row that is not empty has a block -/
theorem Wp.some {code : Code} {i T cap : Nat} {key : Option Nat} {α : Type} [Rp α] {xs : List α} (hL : L[i]? = Option.some ⟨key, .row T xs cap⟩) (hx : 0 < xs.length) (k : ∀ p, key = Option.some p → xs.length ≤ cap → cap ≤ maxLen → Wp c Q code E L) : Wp c Q code E L := fun a W s => by
  obtain ⟨p, cs, rfl, hob, g1, g2, g3, g4⟩ := s.rowAt hL hx
  exact k p rfl g2 g3 a W s
/-- two rows have two blocks -/
theorem Wp.apart {code : Code} {p q : Nat} {cp cp' : CP} {L' : List Ent} (hL : L = ⟨Option.some p, cp⟩ :: ⟨Option.some q, cp'⟩ :: L') (k : p ≠ q → Wp c Q code E L) : Wp c Q code E L := fun a W s => by
  refine k (fun e => ?_) a W s
  have := s.nodup
  rw [hL, e] at this
  simp [ks] at this

theorem look_hd {s : Nat} {τ : VP} : look ((s, τ) :: E) s = some τ := by
  show (bif Nat.beq s s then some τ else look E s) = some τ
  rw [Nat.beq_refl]; rfl
theorem look_tl {s u : Nat} {τ : VP} (h : Nat.beq s u = false) : look ((s, τ) :: E) u = look E u := by
  show (bif Nat.beq s u then some τ else look E u) = look E u
  rw [h]; rfl

/-- both -/
def VP.both (τ σ : VP) : VP where
  holds A W v := τ.holds A W v ∧ σ.holds A W v
  mono e h := ⟨τ.mono e h.1, σ.mono e h.2⟩

/-- an own slice is let go and stored into a variable -/
theorem Sq.storeZ {rest : List Oper} {s sx i j p o T cap : Nat} {key : Option Nat} {β α : Type} [Rp β] [Rp α] {b b' : β} {xs : List α} (l : Lens β (List α)) (tt : Ty c.P t (List α))
    (hx : look E sx = some (.eq (.pointer (some ⟨p, o, none⟩)))) (hs : Nat.beq s sx = false) (hy : look E s = some (.eq (slv key xs.length cap)))
    (hi : L[i]? = some ⟨some p, .var b⟩) (hj : L[j]? = some ⟨key, .row T xs cap⟩) (hij : Nat.beq j i = false) (ho : o = l.off) (hb : l.set b xs = b')
    (k : Sq c ops Q rest E ((L.set j ⟨none, .dead⟩).set i ⟨some p, .var b'⟩)) : Sq c ops Q (⟨none, .store t (.tmp sx) (.tmp s), ty, pos, af, none⟩ :: rest) E L := fun a W st => by
  have hE : ∀ t τ, look ((s, VP.both (.eq (slv key xs.length cap)) (.of xs)) :: E) t = some τ → (s = t ∧ τ = VP.both (.eq (slv key xs.length cap)) (.of xs)) ∨ look E t = some τ := fun t τ h => by
    simp only [look] at h
    by_cases e : Nat.beq s t = true
    · rw [e] at h
      simp only [cond_true, Option.some.injEq] at h
      exact .inl ⟨look_beq.1 e, h.symm⟩
    · simp only [Bool.not_eq_true] at e
      rw [e] at h
      exact .inr h
  have hk := st.kill j
  have hf := st.freeze hy hj
  have henv : ∀ t τ, look ((s, VP.both (.eq (slv key xs.length cap)) (.of xs)) :: E) t = some τ → ∃ v, a.tmps[t]? = some v ∧ τ.holds (ks (L.set j ⟨none, .dead⟩) ++ c.A0) W v := fun t τ h => by
    rcases hE t τ h with ⟨rfl, rfl⟩ | h
    · obtain ⟨v, h1, h2⟩ := hf.env s (.of xs) look_hd
      obtain ⟨v', h3, h4⟩ := hk.env s _ hy
      rw [h1] at h3
      simp only [Option.some.injEq] at h3
      subst h3
      exact ⟨v, h1, h4, h2⟩
    · exact hk.env t τ h
  have hboth : St c ((s, VP.both (.eq (slv key xs.length cap)) (.of xs)) :: E) (L.set j ⟨none, .dead⟩) a W := { hk with env := henv }
  have hne : j ≠ i := fun e => by rw [look_beq.2 e] at hij; cases hij
  refine (Sq.store (c := c) (E := (s, VP.both (.eq (slv key xs.length cap)) (.of xs)) :: E) (L := L.set j ⟨none, .dead⟩) (i := i) (p := p) (b := b) (b' := b') (v := xs) l tt
    (look_t ((look_tl hs).trans hx)) (fun a W h => ?_) (by rw [List.getElem?_set_ne hne]; exact hi) ho hb (fun a W h => k a W (h.less fun t τ ht => ?_))) a W hboth
  · obtain ⟨v, h1, h2⟩ := h.env s _ look_hd
    have e : a.eval (.tmp s) = v := by simp [Act.eval, h1]
    rw [e]; exact h2.2
  · by_cases e : Nat.beq s t = true
    · have := look_beq.1 e
      subst this
      rw [hy] at ht
      simp only [Option.some.injEq] at ht
      subst ht
      exact ⟨_, look_hd, fun A W v h => h.1⟩
    · simp only [Bool.not_eq_true] at e
      exact ⟨τ, (look_tl e).trans ht, fun _ _ _ h => h⟩
theorem Sq.storeZ' {rest : List Oper} {s sx i j p o T cap : Nat} {key : Option Nat} {β α : Type} [Rp β] [Rp α] {b b' : β} {xs : List α} (l : Lens β (List α)) (tt : Ty c.P t (List α))
    (hx : look E sx = some (.eq (.pointer (some ⟨p, o, none⟩)))) (hs : Nat.beq s sx = false) (hy : look E s = some (.eq (slv key xs.length cap)))
    (hi : L[i]? = some ⟨some p, .var b⟩) (hj : L[j]? = some ⟨key, .row T xs cap⟩) (hij : Nat.beq j i = false) (ho : o = l.off) (hb : l.set b xs = b')
    (k : Sq c ops Q rest E ((L.set i ⟨some p, .var b'⟩).set j ⟨none, .dead⟩)) : Sq c ops Q (⟨none, .store t (.tmp sx) (.tmp s), ty, pos, af, none⟩ :: rest) E L :=
  Sq.storeZ l tt hx hs hy hi hj hij ho hb (by rw [List.set_comm _ _ (fun e => by rw [look_beq.2 e] at hij; cases hij)]; exact k)

/-- a result in a cell, own slices in its fields -/
theorem rvo_cX {t : Nat} {ty : TypeId} {i p : Nat} {α : Type} [Rp α] {x : α} {os : List (Nat × Value)} (tt : Ty c.P ty α) (ha : Rp.agg α = true) (h : look E t = some (.eq (.pointer (some ⟨p, 0, none⟩)))) (hL : L[i]? = some ⟨some p, .varX x os⟩) : RVO c E L (.cell t ty) (.ofX x os) := fun a W s => by
  obtain ⟨v, h1, h2⟩ := s.env t _ h
  subst h2
  obtain ⟨ob, hob, cs, T, rfl, hrep⟩ := s.own _ (List.mem_of_getElem? hL)
  have hcell : ∀ j v, cs.toList[j]? = some v → W.cell? ((⟨p, 0, none⟩ : Addr).add j) = some v := by
    intro j v hv
    rw [addr_add, cell_of_row W p (0 + j) cs T (0, 0) hob, Nat.zero_add]
    simpa using hv
  have h3 := run_loadCells_list (P := c.P) W ⟨p, 0, none⟩ _ hcell
  rw [hrep.len] at h3
  refine ⟨.agg cs.toList.toArray, ?_, by simp [shaped, ha], by simpa [Value.cells] using hrep⟩
  simp [resOne, h1, asAddr, loadVar, tt.isAgg, tt.sizeOf, ha, h3]

/-- an own slice is let go and stored into a field of a variable, other fields of which hold own slices -/
theorem Sq.storeZX {rest : List Oper} {s sx i j p o T cap : Nat} {key : Option Nat} {β α : Type} [Rp β] [Rp α] {b b' : β} {os : List (Nat × Value)} {xs : List α} (l : Lens β (List α)) (tt : Ty c.P t (List α))
    (hx : look E sx = some (.eq (.pointer (some ⟨p, o, none⟩)))) (hs : Nat.beq s sx = false) (hy : look E s = some (.eq (slv key xs.length cap)))
    (hi : L[i]? = some ⟨some p, .varX b os⟩) (hj : L[j]? = some ⟨key, .row T xs cap⟩) (hij : Nat.beq j i = false) (ho : o = l.off) (hb : l.set b xs = b') (hap : apartB os l.off (Rp.size (List α)) = true)
    (k : Sq c ops Q rest E ((L.set j ⟨none, .dead⟩).set i ⟨some p, .varX b' os⟩)) : Sq c ops Q (⟨none, .store t (.tmp sx) (.tmp s), ty, pos, af, none⟩ :: rest) E L := fun a W st => by
  have hE : ∀ t τ, look ((s, VP.both (.eq (slv key xs.length cap)) (.of xs)) :: E) t = some τ → (s = t ∧ τ = VP.both (.eq (slv key xs.length cap)) (.of xs)) ∨ look E t = some τ := fun t τ h => by
    simp only [look] at h
    by_cases e : Nat.beq s t = true
    · rw [e] at h
      simp only [cond_true, Option.some.injEq] at h
      exact .inl ⟨look_beq.1 e, h.symm⟩
    · simp only [Bool.not_eq_true] at e
      rw [e] at h
      exact .inr h
  have hk := st.kill j
  have hf := st.freeze hy hj
  have henv : ∀ t τ, look ((s, VP.both (.eq (slv key xs.length cap)) (.of xs)) :: E) t = some τ → ∃ v, a.tmps[t]? = some v ∧ τ.holds (ks (L.set j ⟨none, .dead⟩) ++ c.A0) W v := fun t τ h => by
    rcases hE t τ h with ⟨rfl, rfl⟩ | h
    · obtain ⟨v, h1, h2⟩ := hf.env s (.of xs) look_hd
      obtain ⟨v', h3, h4⟩ := hk.env s _ hy
      rw [h1] at h3
      simp only [Option.some.injEq] at h3
      subst h3
      exact ⟨v, h1, h4, h2⟩
    · exact hk.env t τ h
  have hboth : St c ((s, VP.both (.eq (slv key xs.length cap)) (.of xs)) :: E) (L.set j ⟨none, .dead⟩) a W := { hk with env := henv }
  have hne : j ≠ i := fun e => by rw [look_beq.2 e] at hij; cases hij
  refine (Sq.storeX (c := c) (E := (s, VP.both (.eq (slv key xs.length cap)) (.of xs)) :: E) (L := L.set j ⟨none, .dead⟩) (i := i) (p := p) (b := b) (b' := b') (v := xs) l tt
    (look_t ((look_tl hs).trans hx)) (fun a W h => ?_) (by rw [List.getElem?_set_ne hne]; exact hi) ho hb hap (fun a W h => k a W (h.less fun t τ ht => ?_))) a W hboth
  · obtain ⟨v, h1, h2⟩ := h.env s _ look_hd
    have e : a.eval (.tmp s) = v := by simp [Act.eval, h1]
    rw [e]; exact h2.2
  · by_cases e : Nat.beq s t = true
    · have := look_beq.1 e
      subst this
      rw [hy] at ht
      simp only [Option.some.injEq] at ht
      subst ht
      exact ⟨_, look_hd, fun A W v h => h.1⟩
    · simp only [Bool.not_eq_true] at e
      exact ⟨τ, (look_tl e).trans ht, fun _ _ _ h => h⟩
theorem Sq.storeZX' {rest : List Oper} {s sx i j p o T cap : Nat} {key : Option Nat} {β α : Type} [Rp β] [Rp α] {b b' : β} {os : List (Nat × Value)} {xs : List α} (l : Lens β (List α)) (tt : Ty c.P t (List α))
    (hx : look E sx = some (.eq (.pointer (some ⟨p, o, none⟩)))) (hs : Nat.beq s sx = false) (hy : look E s = some (.eq (slv key xs.length cap)))
    (hi : L[i]? = some ⟨some p, .varX b os⟩) (hj : L[j]? = some ⟨key, .row T xs cap⟩) (hij : Nat.beq j i = false) (ho : o = l.off) (hb : l.set b xs = b') (hap : apartB os l.off (Rp.size (List α)) = true)
    (k : Sq c ops Q rest E ((L.set i ⟨some p, .varX b' os⟩).set j ⟨none, .dead⟩)) : Sq c ops Q (⟨none, .store t (.tmp sx) (.tmp s), ty, pos, af, none⟩ :: rest) E L :=
  Sq.storeZX l tt hx hs hy hi hj hij ho hb hap (by rw [List.set_comm _ _ (fun e => by rw [look_beq.2 e] at hij; cases hij)]; exact k)

/-- of a field that holds an own slice the data say nothing -/
theorem repH_clr {α γ : Type} [Rp α] [Rp γ] {A W} {cs : List Value} {x : α} {os : List (Nat × Value)} {u : Value} (l : Lens α (List γ)) (h : RepH A W cs x os) (hq : (l.off, u) ∈ os) : RepH A W cs (l.set x []) os := by
  refine ⟨?_, h.2⟩
  have h1 := l.set_rep (ds := [nilS]) (g := ([] : List γ)) h.1 (show Rp.rep A W [nilS] ([] : List γ) from by
    have := (of_list (A := A) (W := W) (v := nilS) (xs := ([] : List γ))).2 (.inl ⟨rfl, rfl⟩)
    exact this.2)
  have hb : (blank os cs)[l.off]? = some nilS := by
    rw [blank_get, if_pos (List.any_eq_true.2 ⟨_, hq, by simp⟩), (h.2 _ hq).1]; rfl
  have hlt : l.off < (blank os cs).length := (List.getElem?_eq_some_iff.1 hb).1
  have he : (blank os cs).take l.off ++ [nilS] ++ (blank os cs).drop (l.off + Rp.size (List γ)) = blank os cs := by
    show (blank os cs).take l.off ++ [nilS] ++ (blank os cs).drop (l.off + 1) = blank os cs
    have h2 : (blank os cs)[l.off] = nilS := (List.getElem?_eq_some_iff.1 hb).2
    rw [← h2, List.append_assoc, List.singleton_append, List.getElem_cons_drop, List.take_append_drop]
  rwa [he] at h1
theorem Sq.clr {l0 : List Oper} {p : Nat} {β γ : Type} [Rp β] [Rp γ] {b b' : β} {os : List (Nat × Value)} {u : Value} (l : Lens β (List γ)) (i q : Nat) (hL : L[i]? = some ⟨some p, .varX b os⟩) (hq : os[q]? = some (l.off, u)) (hb : l.set b [] = b')
    (k : Sq c ops Q l0 E (L.set i ⟨some p, .varX b' os⟩)) : Sq c ops Q l0 E L := fun a W s =>
  k a W (s.again hL (fun A W o ⟨cs, T, h1, h2⟩ => ⟨cs, T, h1, hb ▸ repH_clr l h2 (List.mem_of_getElem? hq)⟩) id)
theorem To.clr {z : Exit} {p : Nat} {β γ : Type} [Rp β] [Rp γ] {b b' : β} {os : List (Nat × Value)} {u : Value} (l : Lens β (List γ)) (i q : Nat) (hL : L[i]? = some ⟨some p, .varX b os⟩) (hq : os[q]? = some (l.off, u)) (hb : l.set b [] = b')
    (k : To c Q z E (L.set i ⟨some p, .varX b' os⟩)) : To c Q z E L := fun a W s =>
  k a W (s.again hL (fun A W o ⟨cs, T, h1, h2⟩ => ⟨cs, T, h1, hb ▸ repH_clr l h2 (List.mem_of_getElem? hq)⟩) id)
end

/-- what slices.Insert makes, where some are to be inserted; none: out of range, or too many -/
def insM {α : Type} (bytes : Nat) (xs : List α) (i : Int) (vs : List α) : Option (List α) :=
  if 0 ≤ i ∧ i ≤ xs.length ∧ 0 < vs.length ∧ (xs.length + vs.length) * bytes ≤ 140737488355328 ∧ xs.length + vs.length ≤ maxLen then some (xs.take i.toNat ++ vs ++ xs.drop i.toNat) else none
theorem insM_some {α : Type} {bytes : Nat} {xs vs r : List α} {i : Int} (h : insM bytes xs i vs = some r) :
    ∃ k : Nat, i = k ∧ k ≤ xs.length ∧ 0 < vs.length ∧ (xs.length + vs.length) * bytes ≤ 140737488355328 ∧ xs.length + vs.length ≤ maxLen ∧ r = xs.take k ++ vs ++ xs.drop k := by
  unfold insM at h
  split at h
  · rename_i hc
    obtain ⟨h1, h2, h3, h4, h5⟩ := hc
    exact ⟨i.toNat, by omega, by omega, h3, h4, h5, (by simp only [Option.some.injEq] at h; exact h.symm)⟩
  · cases h
end Gv
