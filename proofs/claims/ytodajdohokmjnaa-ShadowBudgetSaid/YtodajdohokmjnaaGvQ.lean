/-
  The library of the decompiler, part Q: clear; variables that are shared with closures; own slices that are lent. Conditions: none; it is about whatever program.
-/
import Derived.Test.YtodajdohokmjnaaGvP
namespace Gv
open Go
set_option linter.unusedVariables false
set_option linter.unusedSimpArgs false

def lclear {α : Type} [Inhabited α] (xs : List α) (lo n : Nat) : List α := xs.take lo ++ List.replicate n default ++ xs.drop (lo + n)

theorem reps_part {α : Type} [Rp α] {A W} {cs ds : List Value} {xs ys : List α} {lo : Nat} (h : Reps A W cs xs) (h' : Reps A W ds ys) (hk : lo + ys.length ≤ xs.length) :
    Reps A W (cs.take (lo * Rp.size α) ++ ds ++ cs.drop (lo * Rp.size α + ds.length)) (xs.take lo ++ ys ++ xs.drop (lo + ys.length)) := by
  have hl := h.1
  have hle : lo * Rp.size α ≤ xs.length * Rp.size α := Nat.mul_le_mul_right _ (by omega)
  have t1 : Reps A W (cs.take (lo * Rp.size α)) (xs.take lo) := by
    have e : (xs.take lo).length = lo := by rw [List.length_take]; omega
    refine ⟨by rw [List.length_take, e]; omega, fun i hi => ?_⟩
    have hi' : i < lo := by omega
    have := h.2 i (by omega)
    have hin := row_in (s := Rp.size α) hi'
    rw [List.drop_take, List.take_take, Nat.min_eq_left (by omega), List.getElem_take]
    exact this
  have t3 : Reps A W (cs.drop (lo * Rp.size α + ds.length)) (xs.drop (lo + ys.length)) := by
    have e : lo * Rp.size α + ds.length = (lo + ys.length) * Rp.size α := by rw [h'.1, Nat.add_mul]
    rw [e]
    refine ⟨by rw [List.length_drop, List.length_drop, hl, ← Nat.sub_mul], fun i hi => ?_⟩
    rw [List.length_drop] at hi
    have := h.2 (lo + ys.length + i) (by omega)
    rw [List.drop_drop, ← Nat.add_mul, List.getElem_drop]
    exact this
  exact reps_append (reps_append t1 h') t3

section
variable {c : Cx} {E : List (Nat × VP)} {L : List Ent} {ops : Array Oper} {Q : Exit → Act → World → Prop}
variable {d : Option Tmp} {ty : TypeId} {pos : String} {af : Array Edge} {g : Option (Nat × Bool)} {x y : Operand} {t t2 : TypeId}

theorem Sq.clear {rest : List Oper} {i e T cap lo n : Nat} {key : Option Nat} {α : Type} [Rp α] [Inhabited α] {xs r : List α} (hu : c.P.underlying t = some (.slice e)) (te : Ty c.P e α) (zr : Zr c.P e (default : α)) (hsz : Nat.beq (Rp.size α) 0 = false)
    (hx : Look c E L x (.eq (vslv key lo n cap (Rp.size α)))) (hL : L[i]? = some ⟨key, .row T xs cap⟩) (hn : lo + n ≤ xs.length) (hr : lclear xs lo n = r)
    (k : Sq c ops Q rest E (L.set i ⟨key, .row T r cap⟩)) : Sq c ops Q (⟨none, .call ⟨.builtin .clear, #[x], #[t]⟩, ty, pos, af, none⟩ :: rest) E L := fun a W s => by
  subst hr
  have h1 : a.eval x = _ := hx a W s
  have ho := s.own _ (List.mem_of_getElem? hL)
  have hset : ∀ cp, L.set i ⟨key, cp⟩ = L.set i ⟨key, cp⟩ := fun _ => rfl
  by_cases h0 : n = 0 ∨ key = none
  · have hxs : lclear xs lo n = xs := by
      rcases h0 with h0 | h0
      · subst h0; simp [lclear]
      · subst h0
        have : xs = [] := ho.1
        subst this
        have : n = 0 := by simp at hn; omega
        subst this; simp [lclear]
    have hrun : (execOp a.eval ⟨none, .call ⟨.builtin .clear, #[x], #[t]⟩, ty, pos, af, none⟩).run c.P W = .ok (.value (.tuple #[])) W := by
      rcases h0 with h0 | h0
      · subst h0
        cases key <;> simp [execOp, resolve, invoke, builtin, Builtin.clear_, h1, vslv, run_underlying hu]
      · subst h0
        simp [execOp, resolve, invoke, builtin, Builtin.clear_, h1, vslv, run_underlying hu]
    refine wpList_op rfl (R := fun v W' => W' = W) (.of_run hrun rfl) fun v W' hw => ?_
    subst hw
    rw [hxs] at k
    have : L.set i ⟨key, .row T xs cap⟩ = L := by
      apply List.ext_getElem?
      intro j
      rw [List.getElem?_set]
      split
      · rename_i hij; subst hij
        have := (List.getElem?_eq_some_iff.1 hL).1
        rw [if_pos this, hL]
      · rfl
    rw [this] at k
    exact k _ _ s
  · have hn0 : 0 < n := by
      rcases Nat.eq_zero_or_pos n with h | h
      · exact absurd (.inl h) h0
      · exact h
    obtain ⟨p, cs, rfl, hob, g1, g2, g3, g4⟩ := s.rowAt hL (by omega)
    obtain ⟨ie, zv, hie, hz, hzr⟩ := zr.zero
    have hzv := hzr (ks L ++ c.A0) W
    have hzl : zv.cells.toList.length = Rp.size α := Rp.len hzv.2
    have hs0 : Rp.size α ≠ 0 := fun h => by rw [h] at hsz; cases hsz
    have hrz := reps_zero hzv n hs0
    have hzs : zv.cells.size = Rp.size α := by simpa using hzl
    have hzc : Builtin.zeroCells zv.cells n = (Array.range (n * Rp.size α)).map (zv.cells[· % zv.cells.size]!) := by rw [Builtin.zeroCells, hzs]
    rw [← hzc] at hrz
    generalize hD : (Builtin.zeroCells zv.cells n).toList = D at hrz
    have hDl : D.length = n * Rp.size α := by rw [hrz.1]; simp
    have hlo : cap ≠ lo := by omega
    have hle : (lo + n) * Rp.size α ≤ cap * Rp.size α := Nat.mul_le_mul_right _ (by omega)
    rw [Nat.add_mul] at hle
    have hst := run_storeCells_at (P := c.P) p (lo * Rp.size α) _ D 0 cs W hob (by omega) hrz.one
    have hrun : (execOp a.eval ⟨none, .call ⟨.builtin .clear, #[x], #[t]⟩, ty, pos, af, none⟩).run c.P W = .ok (.value (.tuple #[])) (W.setRow p (splice cs.toList (lo * Rp.size α) D).toArray) := by
      obtain ⟨m, rfl⟩ : ∃ m, n = m + 1 := ⟨n - 1, by omega⟩
      simp only [Nat.add_zero] at hst
      simp [execOp, resolve, invoke, builtin, Builtin.clear_, h1, vslv, run_underlying hu, hlo, zeroValue, typeInfo, run_program, hie, hz, hD, hst, splice]
    refine wpList_op rfl (R := fun v W' => W' = W.setRow p (splice cs.toList (lo * Rp.size α) D).toArray) (.of_run hrun rfl) fun v W' hw => ?_
    subst hw
    refine k _ _ (s.store hL hob ?_)
    have hcl : cs.toList.length = cap * Rp.size α := by simpa using g1
    have hlen : (lclear xs lo n).length = xs.length := by simp [lclear]; omega
    have hnl : (cs.toList.take (xs.length * Rp.size α)).length = xs.length * Rp.size α := by
      rw [List.length_take]
      have : xs.length * Rp.size α ≤ cap * Rp.size α := Nat.mul_le_mul_right _ g2
      omega
    have hle3 : (lo + n) * Rp.size α ≤ xs.length * Rp.size α := Nat.mul_le_mul_right _ hn
    rw [Nat.add_mul] at hle3
    have hle4 : xs.length * Rp.size α ≤ cap * Rp.size α := Nat.mul_le_mul_right _ g2
    refine ⟨_, rfl, ?_, by rw [hlen]; exact g2, g3, ?_⟩
    · simp only [List.size_toArray, splice, List.length_append, List.length_take, List.length_drop]; omega
    · rw [hlen, List.toList_toArray]
      have g5 := reps_part (lo := lo) g4 hrz (by simpa using hn)
      have e : (splice cs.toList (lo * Rp.size α) D).take (xs.length * Rp.size α) = (cs.toList.take (xs.length * Rp.size α)).take (lo * Rp.size α) ++ D ++ (cs.toList.take (xs.length * Rp.size α)).drop (lo * Rp.size α + D.length) := by
        have e1 : (cs.toList.take (lo * Rp.size α)).length = lo * Rp.size α := by rw [List.length_take]; omega
        have e2 : (cs.toList.take (lo * Rp.size α) ++ D).length = lo * Rp.size α + D.length := by rw [List.length_append, e1]
        rw [splice, List.take_append, e2, List.take_of_length_le (by omega), List.take_take, Nat.min_eq_left (by omega), List.drop_take]
      rw [e]
      simpa [lclear] using g5

/-- a variable that is written no more: its pointer may go where it will -/
theorem St.share {a : Act} {W : World} (s : St c E L a W) {i sl p : Nat} {α : Type} [Rp α] {z : α} (hl : look E sl = some (.eq (.pointer (some ⟨p, 0, none⟩)))) (hL : L[i]? = some ⟨some p, .var z⟩) : St c ((sl, .ptr z) :: E) (L.set i ⟨none, .dead⟩) a W := by
  have hk := s.kill i
  refine { hk with env := fun t τ hlk => ?_ }
  simp only [look] at hlk
  by_cases e : Nat.beq sl t = true
  · rw [e] at hlk
    simp only [cond_true, Option.some.injEq] at hlk
    subst hlk
    have := look_beq.1 e
    subst this
    obtain ⟨v, h1, h2⟩ := s.env sl _ hl
    have h2' : v = _ := h2
    subst h2'
    obtain ⟨o, hob, cs, T, rfl, hr⟩ := s.own _ (List.mem_of_getElem? hL)
    have hlen : cs.toList.length = Rp.size α := Rp.len hr
    refine ⟨_, h1, p, 0, cs, T, (0, 0), rfl, s.not_left hL, hob, by simp at hlen; omega, ?_⟩
    rw [List.drop_zero, ← hlen, List.take_length]
    have hsub := ks_set_none_sub (L := L) (i := i) (cp := .dead)
    exact Rp.mono (.drop fun k hm => by
      rcases List.mem_append.1 hm with hm | hm
      · exact List.mem_append.2 (.inl (hsub.subset hm))
      · exact List.mem_append.2 (.inr hm)) hr
  · simp only [Bool.not_eq_true] at e
    rw [e] at hlk
    exact hk.env t τ hlk
theorem Sq.share {l : List Oper} {p : Nat} {α : Type} [Rp α] {z : α} (i sl : Nat) (hl : look E sl = some (.eq (.pointer (some ⟨p, 0, none⟩)))) (hL : L[i]? = some ⟨some p, .var z⟩) (k : Sq c ops Q l ((sl, .ptr z) :: E) (L.set i ⟨none, .dead⟩)) : Sq c ops Q l E L :=
  fun a W s => k a W (s.share hl hL)
theorem Wp.share {code : Code} {p : Nat} {α : Type} [Rp α] {z : α} (i sl : Nat) (hl : look E sl = some (.eq (.pointer (some ⟨p, 0, none⟩)))) (hL : L[i]? = some ⟨some p, .var z⟩) (k : Wp c Q code ((sl, .ptr z) :: E) (L.set i ⟨none, .dead⟩)) : Wp c Q code E L :=
  fun a W s => k a W (s.share hl hL)

/-- a closure -/
theorem r_clo1 {α β : Type} [Rp α] [Rp β] {F : α → Option β} {f : FuncId} {xs : List Operand} {τs : List VP} (en : En c.P f) (hx : Looks c E L xs τs) (h : ∀ x r, F x = some r → Meets c.P f (.of x :: τs) (.of r)) :
    HR c E L ⟨d, .makeFunc (.func f) #[] xs.toArray, ty, pos, af, g⟩ (.fn1 c.P F) := .pure fun a W s => by
  have hh := hx.holds a W s
  refine ⟨.func (.func f) #[] (xs.map a.eval).toArray, by simp [execOp, Instr.makeFunc], f, _, rfl, en, fun A' W' e hA x r vx hF hv => ?_⟩
  simpa using h x r hF A' W' (vx :: xs.map a.eval) hA (.cons hv (hh.mono e))
theorem r_clo2 {α β γ : Type} [Rp α] [Rp β] [Rp γ] {F : α → β → Option γ} {f : FuncId} {xs : List Operand} {τs : List VP} (en : En c.P f) (hx : Looks c E L xs τs) (h : ∀ x y r, F x y = some r → Meets c.P f (.of x :: .of y :: τs) (.of r)) :
    HR c E L ⟨d, .makeFunc (.func f) #[] xs.toArray, ty, pos, af, g⟩ (.fn2 c.P F) := .pure fun a W s => by
  have hh := hx.holds a W s
  refine ⟨.func (.func f) #[] (xs.map a.eval).toArray, by simp [execOp, Instr.makeFunc], f, _, rfl, en, fun A' W' e hA x y r vx vy hF hv hv2 => ?_⟩
  simpa using h x y r hF A' W' (vx :: vy :: xs.map a.eval) hA (.cons hv (.cons hv2 (hh.mono e)))

/-- what says nothing of the memory -/
def VP.Flat (τ : VP) : Prop := ∀ A W A' W' v, τ.holds A W v → τ.holds A' W' v
theorem flat_bool {b : Bool} : (VP.of b).Flat := fun _ _ _ _ _ h => h
theorem flat_int {b : Int} : (VP.of b).Flat := fun _ _ _ _ _ h => h
theorem flat_u64 {b : BitVec 64} : (VP.of b).Flat := fun _ _ _ _ _ h => h
theorem flat_u8 {b : BitVec 8} : (VP.of b).Flat := fun _ _ _ _ _ h => h

/-- an own slice is lent to an operation that hands back nothing of it -/
theorem HR.lend {o : Oper} {τ : VP} {T cap : Nat} {key : Option Nat} {α : Type} [Rp α] {xs : List α} (i s : Nat) (hl : look E s = some (.eq (slv key xs.length cap))) (hL : L[i]? = some ⟨key, .row T xs cap⟩) (hf : τ.Flat)
    (h : HR c ((s, .of xs) :: E) (L.set i ⟨none, .dead⟩) o τ) : HR c E L o τ := fun a W st => by
  have := h a W (st.freeze hl hL)
  unfold OpTo at this ⊢
  exact Oper.wp_mono (fun a' W' ⟨v, h1, h2, h3⟩ => ⟨v, h1, h2, hf _ _ _ _ _ h3⟩) this

/-- the test for nil of a list that is read: nil is empty, but not all that is empty is nil -/
def VP.nilb {α : Type} (xs : List α) : VP where
  holds _ _ v := ∃ b : Bool, v = .bool b ∧ (b = true → xs = [])
  mono _ h := h
theorem run_eq_nil {P : Program} {e : TypeId} (W : World) (d : Nat) {t : TypeId} (a : Option Addr) (l cp : Nat) (h : P.underlying t = some (.slice e)) : (Op.equalIn (d + 1) t (.slice a l cp) (.slice none 0 0)).run P W = .ok a.isNone W := by
  cases a <;> simp [Op.equalIn, run_underlying h]
theorem r_nil {α : Type} [Rp α] {xs : List α} {e : TypeId} (hu : c.P.underlying t = some (.slice e)) (hx : Look c E L x (.of xs)) : HR c E L ⟨d, .binOp .eql t x (.const (.slice none 0 0)) t2, ty, pos, af, g⟩ (.nilb xs) := .pure fun a W s => by
  have hn : a.eval (.const (.slice none 0 0)) = .slice none 0 0 := rfl
  rcases of_list.1 (hx a W s) with ⟨h1, rfl⟩ | ⟨b, off, cap, cur, T, fz, h1, h2⟩
  · exact ⟨.bool true, by
      simp only [execOp, eqGuard, binOp, h1, hn, Op.equal, Op.maxDepth]
      simp [run_eq_nil W 9999 none 0 0 hu], true, rfl, fun _ => rfl⟩
  · exact ⟨.bool false, by
      simp only [execOp, eqGuard, binOp, h1, hn, Op.equal, Op.maxDepth]
      simp [run_eq_nil W 9999 (some ⟨b, off, none⟩) xs.length cap hu], false, rfl, fun h => by cases h⟩
theorem Wp.condN {α : Type} {y z : Code} {xs : List α} (hl : Look c E L x (.nilb xs)) (ht : xs = [] → Wp c Q y E L) (hf : Wp c Q z E L) : Wp c Q (.cond x y z) E L := fun a W s => by
  obtain ⟨b, h1, h2⟩ := hl a W s
  exact wpIn_cond_split h1 (fun h => ht (h2 h) a W s) (fun _ => hf a W s)
end

/-- the bounds of a part; none: out of range -/
def cutM (n : Nat) (lo hi : Int) : Option (Nat × Nat) := if 0 ≤ lo ∧ lo ≤ hi ∧ hi ≤ n then some (lo.toNat, hi.toNat) else none
theorem cutM_some {n : Nat} {lo hi : Int} {y : Nat × Nat} (h : cutM n lo hi = some y) : lo = y.1 ∧ hi = y.2 ∧ y.1 ≤ y.2 ∧ y.2 ≤ n := by
  unfold cutM at h
  split at h
  · rename_i hc
    simp only [Option.some.injEq] at h
    subst h
    simp only
    omega
  · cases h
end Gv
